/- Part 3 of 7 of the proof. -/
import Derived.Test.YtnpikfdkjmebjaaLB
import Derived.RangeFuncNested
import Derived.Scope
import Derived.Laws.StructEq
import Derived.ChangeKeysEq
import GoSem.Core.View
import GoSem.Op.String
section
namespace Go.AI
variable {P:Program} {F F':Nat->Option Obj} {ρ ρ':Nat->Option Loc} {N:Nat->Prop} {H0 F0:Nat->Option Obj} {O objs objs':List (Option Ob)} {w:World} {w0:W0}
theorem P9 {Γ:Cx} {all:List Oper} {o:Oper} {s s':St} (h:A1 Γ true all o (λ x=>x=s') s) :
  s.objs.length<=s'.objs.length/\∀ k,k<s.objs.length->¬(isW o.op=true/\k∈B0 s o)->obA s'.objs k=obA s.objs k:=by
 cases hW:isW o.op with
 | false=>
  obtain⟨obs,ho⟩:=(F8 h).2.1 hW;rw[ho];exact⟨by simp,λ k hk _=>by rw[AM,if_pos hk]⟩
 | true=>
  unfold A1 at h;cases hg:Bw all s.env o.guard with
  | none=>rw[hg]at h;exact h.elim
  | some g=>
   rw[hg]at h;simp only at h;have h:=h;cases hdst:BE Γ.nt o.dst with
   | false=>rw[hdst]at h;exact h.elim
   | true=>
    rw[hdst]at h;simp only[JlM,cond_false]at h;cases hgv:g with
    | false=>
     obtain⟨v,obs,hm,hQ⟩:=h.2 hgv;subst hQ;exact⟨by simp,λ k hk _=>by rw[AM,if_pos hk]⟩
    | true=>
     rcases h.1 hgv with h|h|h
     case inr.inr=>exact absurd h.1 (by simp)
     case inr.inl=>
      unfold Fg at h;split at h
      ·rename_i es hes;cases hop:o.op with
       | buildSlice=>rw[hop]at hW;cases hW
       | _=>rw[hop]at hes;cases hes
      ·exact h.elim
     unfold stepG at h;split at h
     ·rename_i f args ts hop;rw[hop]at hW;cases hW
     ·rename_i c x y hop;rw[hop]at hW;cases hW
     ·split at h
      ·rename_i e he;obtain⟨h1,h2,h3⟩:=h;cases hc:((e.upd.isSome&&o.guard.isSome)||(!e.rm.isEmpty&&(o.guard.isSome||(true&&!isW o.op))))with
       | true=>rw[hc]at h3;exact h3.elim
       | false=>
        rw[hc,cond_false]at h3;have hf:Wt s.objs (λ x=>unG (Al s.env x)) o.op e:=by
         rcases XF hW with hst|⟨args,ts,hop⟩
         ·exact(XE hst he).1
         ·rw[hop]at he⊢;exact OI he
        have hll:(BG (rmA s.objs e.rm) e.upd).length=s.objs.length:=by rw[Kn,BL]
        subst h3;refine⟨by simp only[DV,List.length_append,hll];omega,λ k hk hn=>?_⟩;simp only[DV];rw[AM,if_pos (by rw[hll];exact hk),M4];have hnr:k ∉ e.rm:=λ hr=>hn ⟨rfl,by rw[Ps hW];exact(hf.rm k hr).1⟩;cases hu:e.upd with
        | none=>simp only;rw[DW,if_neg hnr]
        | some p=>
         obtain⟨j,ob1⟩:=p;simp only;rw[if_neg (λ h=>?_),DW,if_neg hnr];exact hn ⟨rfl,by rw[h.1,Ps hW];exact(hf.upd j ob1 hu).1⟩
      ·exact h.elim
structure Tg (ops:Array Oper) (S:Nat->St):Prop where
 back:∀ (j:Nat) oj,ops[j]?=some oj->∀ e∈oj.after.toList,Region.binds .any e=true->e.on<j
 dst:∀ (i j:Nat) oi oj d,ops[i]?=some oi->ops[j]?=some oj->i≠j->oi.dst=some d->oj.dst≠some d
 deps:∀ (i j:Nat) oi oj d,ops[i]?=some oi->ops[j]?=some oj->i<j->oi.dst=some d->d∈CH ops.toList oj->Region.waitsFor .any ops j i=true
 anti:∀ (i j:Nat) oi oj d,ops[i]?=some oi->ops[j]?=some oj->j<i->oi.dst=some d->d∈CH ops.toList oj->Region.waitsFor .any ops i j=true
 conf:∀ (i j:Nat) oi oj,ops[i]?=some oi->ops[j]?=some oj->i≠j->isW oj.op=true->(DG oi.op=true\/isW oi.op=true)->Gw ops j i\/Gw ops i j\/∀ k,k∈B0 (S i) oi->k ∉ B0 (S j) oj
section law
variable {Γ:Cx} {ops:Array Oper} {S:Nat->St}
theorem M5 (ok:Tg ops S) {j i:Nat} (h:Gw ops j i):i<j:=by
 induction h with
 | one h1=>
  obtain⟨o,ho,e,he,hb,hon⟩:=Region.waitsFor_spec h1;rw[← hon];exact ok.back _ o ho e (by simpa using he) hb
 | step h1 _ ih=>
  obtain⟨o,ho,e,he,hb,hon⟩:=Region.waitsFor_spec h1;have:=ok.back _ o ho e (by simpa using he) hb;omega
def Wr (ops:Array Oper) (S:Nat->St) (i k:Nat):Prop:=∃ o,ops[i]?=some o/\isW o.op=true/\k∈B0 (S i) o/\k<(S i).objs.length
theorem U7 (hst:∀ (i:Nat) o,ops[i]?=some o->A1 Γ true ops.toList o (λ x=>x=S (i+1)) (S i)):∀ d i,i+d<=ops.size->(S i).objs.length<=(S (i+d)).objs.length:=by
 intro d;induction d with
 | zero=>intro i _;exact JlO _
 | succ d ih=>
  intro i hi;have h1:=ih i (by omega);have ho:=Jl4 (show i+d<ops.size by omega);have:=(P9 (hst (i+d) _ ho)).1;rw[← JlT];omega
theorem Qa (hst:∀ (i:Nat) o,ops[i]?=some o->A1 Γ true ops.toList o (λ x=>x=S (i+1)) (S i)) {i j:Nat} (hij:i<=j) (hj:j<=ops.size):(S i).objs.length<=(S j).objs.length:=by
 have:=U7 hst (j-i) i (by omega);rwa[show i+(j-i)=j by omega]at this
theorem Z3 (hst:∀ (i:Nat) o,ops[i]?=some o->A1 Γ true ops.toList o (λ x=>x=S (i+1)) (S i)) (k:Nat):∀ d i,i+d<=ops.size->k<(S i).objs.length->(∀ m,i<=m->m<i+d->¬Wr ops S m k)->obA (S (i+d)).objs k=obA (S i).objs k:=by
 intro d;induction d with
 | zero=>intro i _ _ _;rfl
 | succ d ih=>
  intro i hi hk hno;have ho:=Jl4 (show i+d<ops.size by omega);have hkd:k<(S (i+d)).objs.length:=Nat.lt_of_lt_of_le hk (U7 hst d i (by omega));rw[← JlT,(P9 (hst (i+d) _ ho)).2 k hkd λ h=>hno (i+d) (by omega) (by omega) ⟨_,ho,h.1,h.2,hkd⟩];exact ih i (by omega) hk λ m h1 h2=>hno m h1 (by omega)
theorem Th (hst:∀ (i:Nat) o,ops[i]?=some o->A1 Γ true ops.toList o (λ x=>x=S (i+1)) (S i)) {k i j:Nat} (hij:i<=j) (hj:j<=ops.size) (hk:k<(S i).objs.length) (hno:∀ m,i<=m->m<j->¬Wr ops S m k):obA (S j).objs k=obA (S i).objs k:=by
 have:=Z3 hst k (j-i) i (by omega) hk (λ m h1 h2=>hno m h1 (by omega));rwa[show i+(j-i)=j by omega]at this
def H1 (S:Nat->St) (k:Nat):Nat->Nat
 | 0=>0
 | n+1=>bif decide (k<(S n).objs.length)then H1 S k n else n+1
theorem Wu (k:Nat):∀ n,(∀ i j,i<=j->j<=n->(S i).objs.length<=(S j).objs.length)->k<(S n).objs.length->H1 S k n<=n/\k<(S (H1 S k n)).objs.length/\∀ m,m<H1 S k n->(S m).objs.length<=k:=by
 intro n;induction n with
 | zero=>intro _ hk;exact⟨JlO _,hk,λ m hm=>by simp[H1]at hm⟩
 | succ n ih=>
  intro hm hk;simp only[H1];by_cases h:k<(S n).objs.length
  ·rw[decide_eq_true h,cond_true];obtain⟨h1,h2,h3⟩:=ih (λ i j hij hj=>hm i j hij (by omega)) h;exact⟨by omega,h2,h3⟩
  ·rw[decide_eq_false h,cond_false];refine⟨JlO _,hk,λ m hmn=>?_⟩;have:=hm m n (by omega) (by omega);omega
structure DJ (N:Nat->Prop) (H0 F0:Nat->Option Obj) (w0:W0) (nt:Slt) (ops:Array Oper) (S:Nat->St) (listed:Array Bool) (a:Act) (w:World):Prop where
 size:listed.size=ops.size
 closed:∀ (j:Nat) oj,ops[j]?=some oj->listed.getD j false=true->∀ e∈oj.after.toList,Region.binds .any e=true->listed.getD e.on false=true
 tsz:TS nt w0.kp a.tmps
 defers:Mu w0.w w
 ex:∃ (F:Nat->Option Obj) (ρ:Nat->Option Loc) (T:List (Option Ob)) (ver:Nat->Nat),(RK w0 nt ρ/\Dfr w0 nt F a.defers)/\Sim N H0 F0 F ρ T w.heap/\T.length=(S ops.size).objs.length /\
  (∀ t,(∀ (i:Nat) o,ops[i]?=some o->o.dst=some t->listed.getD i false=true->Ak F ρ (lkA (S (i+1)).env t) (a.tmps.getD t undef))/\((∀ (i:Nat) o,ops[i]?=some o->o.dst=some t->listed.getD i false=false)->Ak F ρ (lkA (S 0).env t) (a.tmps.getD t undef))) /\
  (∀ k L,ρ k=some L->k<(S 0).objs.length\/∃ i,listed.getD i false=true/\i<ops.size/\(S i).objs.length<=k/\k<(S (i+1)).objs.length) /\
  (∀ k ob,k<T.length->obA (S (ver k)).objs k=some ob->obA T k=some ob) /\
  (∀ i k,listed.getD i false=true->Wr ops S i k->i<ver k) /\
  (∀ i k,listed.getD i false=false->Wr ops S i k->ver k<=i) /\
  (∀ k,k<T.length->k<(S (ver k)).objs.length/\ver k<=ops.size) /\
  (∀ i k ob,i<ops.size->ρ k=none->(S i).objs.length<=k->obA (S (i+1)).objs k=some ob->obA T k=some ob)
theorem I9 (hst:∀ (i:Nat) o,ops[i]?=some o->A1 Γ true ops.toList o (λ x=>x=S (i+1)) (S i)):∀ j,j<=ops.size->∀ t,(∃ i o,i<j/\ops[i]?=some o/\o.dst=some t/\lkA (S j).env t=lkA (S (i+1)).env t)\/((∀ i o,i<j->ops[i]?=some o->o.dst≠some t)/\lkA (S j).env t=lkA (S 0).env t):=by
 intro j;induction j with
 | zero=>intro _ t;exact .inr ⟨λ i o hi=>by omega,rfl⟩
 | succ j ih=>
  intro hj t;have hoj:=Jl4 (show j<ops.size by omega);obtain⟨hsh,_⟩:=F8 (hst j _ hoj);by_cases hd:(ops[j]).dst=some t
  ·exact .inl ⟨j,_,by omega,hoj,hd,rfl⟩
  ·have hlk:lkA (S (j+1)).env t=lkA (S j).env t:=by
    rcases hsh with⟨_,h⟩|⟨d,x,hdd,h⟩
    ·rw[h]
    ·rw[h,Bi,if_neg];intro e;subst e;exact hd hdd
   rcases ih (by omega) t with⟨i,o,h1,h2,h3,h4⟩|⟨h1,h2⟩
   ·exact .inl ⟨i,o,by omega,h2,h3,by rw[hlk,h4]⟩
   ·refine .inr ⟨λ i o hi ho=>?_,by rw[hlk,h2]⟩;by_cases e:i=j
    ·subst e;rw[hoj]at ho;cases ho;exact hd
    ·exact h1 i o (by omega) ho
theorem Ti {ev ev':Operand->AV} {op:Op} (h:∀ x∈op.operands.toList,ev x=ev' x):EP ev op=EP ev' op:=by
 unfold EP;simp only[List.flatMap];congr 1;exact JlX λ x hx=>by rw[h x hx]
theorem Tj {ev ev':Operand->AV} {op:Op} (h:∀ x∈op.operands.toList,ev x=ev' x):IY ev op=IY ev' op:=by
 cases op with
 | call c=>
  obtain⟨callee,args,ts⟩:=c;cases callee with
  | value f=>
   simp only[IY];have:∀ x∈args.toList,ev x=ev' x:=λ x hx=>h x (by simp[Op.operands,Call.operands];exact .inr (by simpa using hx));rw[Bool.eq_iff_iff,List.any_eq_true,List.any_eq_true];constructor
   ·rintro⟨x,hx,hp⟩;exact⟨x,hx,by rw[← this x hx];exact hp⟩
   ·rintro⟨x,hx,hp⟩;exact⟨x,hx,by rw[this x hx];exact hp⟩
  | _=>rfl
 | _=>rfl
theorem Wv {s:St} {o:Oper} {ts:List Tmp} (h:∀ t∈SW o.op,t∈ts):B0 ⟨Ef s.env ts,s.objs⟩ o=B0 s o:=by
 have he:∀ x∈o.op.operands.toList,unG (Al (Ef s.env ts) x)=unG (Al s.env x):=λ x hx=>by rw[PW λ t ht=>h t (by subst ht;exact I7 hx)]
 unfold B0;rw[Ti he,Tj he]
theorem YH (hΓ:Gv P Γ) (ok:Tg ops S) (hst:∀ (i:Nat) o,ops[i]?=some o->A1 Γ true ops.toList o (λ x=>x=S (i+1)) (S i))
  {Qw:Exit->Act->World->Prop} (hQ:∀ a w,Inv N H0 F0 w0 Γ.nt (S ops.size) a w->Qw .normal a w) :
  ∀ (fuel:Nat) (listed:Array Bool) (a:Act) (w:World),DJ N H0 F0 w0 Γ.nt ops S listed a w->unl listed ops.size=fuel->wpAny P .any ops Qw fuel listed a w:=by
 have hall:∀ listed a w,DJ N H0 F0 w0 Γ.nt ops S listed a w->Region.ready .any ops listed=[]->∀ k,k<ops.size->listed.getD k false=true:=by
  intro listed a w hD hr k;induction k using Nat.strongRecOn with
  | _ k ih=>
   intro hk;cases hl:listed.getD k false with
   | true=>rfl
   | false=>
    have:k∈Region.ready .any ops listed:=by
     rw[mem_ready];refine⟨getD_in (by rw[hD.size];exact hk) hl,_,Jl4 hk,λ e he hb=>?_⟩;have hlt:=ok.back k _ (Jl4 hk) e (by simpa using he) hb;exact ih e.on hlt (by omega)
    rw[hr]at this;cases this
 have hfin:∀ listed a w,DJ N H0 F0 w0 Γ.nt ops S listed a w->(∀ k,k<ops.size->listed.getD k false=true)->Qw .normal a w:=by
  intro listed a w hD hl;obtain⟨F,ρ,T,ver,hrk,hS,hTl,hsl,hdom,hv0,hv1,hv2,hv3,hv4⟩:=hD.ex;refine hQ a w ⟨F,ρ,?_,λ t=>?_,hD.tsz,hrk.2,hD.defers,hrk.1⟩
  ·refine hS.table (Nat.le_of_eq hTl) λ k L ob hk ho=>?_;have hkl:=A6 ho;obtain⟨q1,q2⟩:=hv3 k (by omega);rw[Th hst q2 (JlO _) q1 λ m h1 h2 hw=>?_]at ho
   ·exact hv0 k ob (by omega) ho
   ·have:=hv1 m k (hl m h2) hw;omega
  ·rcases I9 hst ops.size (JlO _) t with⟨i,o,h1,h2,h3,h4⟩|⟨h1,h2⟩
   ·rw[h4];exact(hsl t).1 i o h2 h3 (hl i h1)
   ·rw[h2];refine(hsl t).2 λ i o ho hd=>?_;exact absurd hd (h1 i o (Av ho) ho)
 intro fuel;induction fuel with
 | zero=>
  intro listed a w hD hu;have hl:=M1 ops.size hu;refine⟨?_,hfin listed a w hD hl⟩;rw[List.eq_nil_iff_forall_not_mem];intro k hk;obtain⟨h1,o,ho,_⟩:=mem_ready.1 hk;have:=hl k (Av ho);rw[getD_both h1]at this;cases this
 | succ fuel ih=>
  intro listed a w hD hu;refine⟨λ hr=>hfin listed a w hD (hall listed a w hD hr),λ i hi=>?_⟩;obtain⟨hun,o,ho,hedges⟩:=mem_ready.1 hi;have hui:=getD_both hun;have hio:=Av ho;have hidx:i<listed.size:=by rw[hD.size];exact hio
  obtain⟨F,ρ,T,ver,hrk,hS,hTl,hsl,hdom,hv0,hv1,hv2,hv3,hv4⟩:=hD.ex;have hdirect:∀ k,Region.waitsFor .any ops i k=true->listed.getD k false=true:=λ k hk=>by
   obtain⟨o',ho',e,he,hb,hon⟩:=Region.waitsFor_spec hk;rw[ho]at ho';cases ho';rw[← hon];exact hedges e he hb
  have hbehind:∀ m,Gw ops m i->listed.getD m false=false:=λ m hm=>by
   cases hl:listed.getD m false with
   | false=>rfl
   | true=>
    have:=BJ hD.closed hm λ k hk=>by
     obtain⟨o',ho',e,he,hb,hon⟩:=Region.waitsFor_spec hk;rw[← hon];exact hD.closed m o' ho' hl e (by simpa using he) hb
    rw[hui]at this;cases this
  have hrs:RS F ρ (S i).env a.tmps (CH ops.toList o):=by
   intro t ht;rcases I9 hst i (by omega) t with⟨k,ok',h1,h2,h3,h4⟩|⟨h1,h2⟩
   ·rw[h4];exact(hsl t).1 k ok' h2 h3 (hdirect k (ok.deps k i ok' o t h2 ho h1 h3 ht))
   ·rw[h2];refine(hsl t).2 λ k ok' hk hd=>?_;rcases Nat.lt_trichotomy k i with hlt|heq|hgt
    ·exact absurd hd (h1 k ok' hlt hk)
    ·rw[heq];exact hui
    ·exact hbehind k (.one (ok.anti k i ok' o t hk ho hgt hd ht))
  have hstep:=hst i o ho;have hdst:=UW hstep;obtain⟨s',⟨s'',rfl,hobj',henv'⟩,hstep'⟩:=PZ (PX rfl (ts:=CH ops.toList o) (λ t h=>h) hstep);have hlk':∀ d,o.dst=some d->lkA s'.env d=lkA (S (i+1)).env d:=λ d hd=>by
   rcases henv' with⟨h,_⟩|⟨d',x,h1,h2,h3⟩
   ·rw[h]at hd;cases hd
   ·rw[h1]at hd;cases hd;rw[h2,h3,Bi,Bi,if_pos rfl,if_pos rfl]
  have hSl:Cf F ρ (Ef (S i).env (CH ops.toList o)) a.tmps:=Jlu hrs;have hrefs:B0 ⟨Ef (S i).env (CH ops.toList o),(S i).objs⟩ o=B0 (S i) o:=Wv λ t ht=>List.mem_append_left _ ht;have hleni:(S i).objs.length<=(S (i+1)).objs.length:=(P9 hstep).1;have hlenN:(S (i+1)).objs.length<=T.length:=by rw[hTl];exact Qa hst (by omega) (JlO _)
  have key:(DG o.op=true\/isW o.op=true)->Ext (S i).objs T (B0 (S i) o):=by
   intro hmw k hk ob hob;have hkl:=A6 hob;obtain⟨q1,q2⟩:=hv3 k (by omega);refine hv0 k ob (by omega) ?_;rcases Nat.le_total (ver k) i with hle|hle
   ·rw[← Th hst hle (by omega) q1 λ m h1 h2 hw=>?_]
    ·exact hob
    ·obtain⟨om,hom,hW,hmk,_⟩:=hw;rcases ok.conf i m o om ho hom (by omega) hW hmw with h|h|h
     ·have:=M5 ok h;omega
     ·have:=hv1 m k (BJ hD.closed h hdirect) ⟨om,hom,hW,hmk,by assumption⟩;omega
     ·exact h k hk hmk
   ·rw[Th hst hle q2 hkl λ m h1 h2 hw=>?_]
    ·exact hob
    ·obtain⟨om,hom,hW,hmk,hmL⟩:=hw;by_cases hmi:m=i
     ·subst hmi;have:=hv2 m k hui ⟨om,hom,hW,hmk,hmL⟩;omega
     ·rcases ok.conf i m o om ho hom (λ e=>hmi e.symm) hW hmw with h|h|h
      ·have:=hv2 m k (hbehind m h) ⟨om,hom,hW,hmk,hmL⟩;omega
      ·have:=M5 ok h;omega
      ·exact h k hk hmk
  have hfresh:∀ k,(S i).objs.length<=k->k<(S (i+1)).objs.length->ρ k=none:=λ k h1 h2=>by
   cases hρ:ρ k with
   | none=>rfl
   | some L=>
    rcases hdom k L hρ with h|⟨i',g1,g2,g3,g4⟩
    ·have:=Qa hst (Nat.zero_le i) (by omega);omega
    ·rcases Nat.lt_trichotomy i' i with hlt|heq'|hgt
     ·have:=Qa hst (show i'+1<=i by omega) (by omega);omega
     ·rw[heq',hui]at g1;cases g1
     ·have:=Qa hst (show i+1<=i' by omega) (by omega);omega
  have hne:∀ k,k≠i->(listed.setIfInBounds i true).getD k false=listed.getD k false:=λ k hk=>by
   rw[Jl5,Jl5,JlQ (Ne.symm hk)]
  have heq:(listed.setIfInBounds i true).getD i false=true:=by simp[hidx]
  have next:∀ (v:Value) (w':World) (F':Nat->Option Obj) (ρ':Nat->Option Loc) (T':List (Option Ob)) (ver':Nat->Nat),FLe F F'->RLe ρ ρ'->(∀ k,¬((S i).objs.length<=k/\k<(S (i+1)).objs.length)->ρ' k=ρ k)->Sim N H0 F0 F' ρ' T' w'.heap->T'.length=T.length->(∀ d,o.dst=some d->Ak F' ρ' (lkA s'.env d) v)->Mu w w' ->
    (∀ k ob,k<T.length->obA (S (ver' k)).objs k=some ob->obA T' k=some ob)->(∀ m k,(listed.setIfInBounds i true).getD m false=true->Wr ops S m k->m<ver' k)->(∀ m k,(listed.setIfInBounds i true).getD m false=false->Wr ops S m k->ver' k<=m)->(∀ k,k<T.length->k<(S (ver' k)).objs.length/\ver' k<=ops.size)->(∀ k,ρ k=none->obA T' k=obA T k) ->
    wpAny P .any ops Qw fuel (listed.setIfInBounds i true) (a.put o.dst v) w':=by
   intro v w' F' ρ' T' ver' hF hρ hkeep hS' hTl' hv hmu u0 u1 u2 u3 u4;refine ih _ _ _ { size:=by simpa using hD.size,closed:=λ j oj hj hl e he hb=>?_,tsz:=hD.tsz.put hdst,defers:=hD.defers.trans hmu,ex:=⟨F',ρ',T',ver',⟨hrk.1.mono hρ,by rw[put_defers];exact hrk.2.mono hF⟩,hS',by rw[hTl',hTl],λ t=>?_,λ k L hk=>?_,by rw[hTl'];exact u0,u1,u2,by rw[hTl'];exact u3,λ m k ob hm hk h1 h2=>?_⟩ } (by have:=Pr hidx hui ops.size hio;omega)
   ·by_cases hji:j=i
    ·subst hji;rw[ho]at hj;cases hj;have:=hedges e (by simpa using he) hb;by_cases hee:e.on=j
     ·rw[hee];exact heq
     ·rw[hne _ hee];exact this
    ·rw[hne j hji]at hl;have:=hD.closed j oj hj hl e he hb;by_cases hee:e.on=i
     ·rw[hee];exact heq
     ·rw[hne _ hee];exact this
   ·by_cases hdt:o.dst=some t
    ·have hval:(a.put o.dst v).tmps.getD t undef=v:=by
      rw[hdt];have:t<a.tmps.size:=by rw[hdt]at hdst;exact hD.tsz.lt hdst
      simp[Act.put,this]
     rw[hval];refine⟨λ k ok' hk hd _=>?_,λ hno=>?_⟩
     ·by_cases hki:k=i
      ·subst hki;rw[← hlk' t hdt];exact hv t hdt
      ·exact absurd hd (ok.dst i k o ok' t ho hk (Ne.symm hki) hdt)
     ·have:=hno i o ho hdt;rw[heq]at this;cases this
    ·have hval:(a.put o.dst v).tmps.getD t undef=a.tmps.getD t undef:=by
      cases hdd:o.dst with
      | none=>rfl
      | some d=>
       have hdne:d≠t:=λ e=>hdt (by rw[hdd,e]);rw[Jl5,Jl5];simp only[Act.put];rw[JlQ hdne]
     rw[hval];refine⟨λ k ok' hk hd hl=>?_,λ hno=>?_⟩
     ·have hki:k≠i:=λ e=>by subst e;rw[ho]at hk;cases hk;exact hdt hd
      rw[hne k hki]at hl;exact((hsl t).1 k ok' hk hd hl).mono hF hρ
     ·refine((hsl t).2 λ k ok' hk hd=>?_).mono hF hρ;have hki:k≠i:=λ e=>by subst e;rw[ho]at hk;cases hk;exact hdt hd
      have:=hno k ok' hk hd;rwa[hne k hki]at this
   ·by_cases hr:(S i).objs.length<=k/\k<(S (i+1)).objs.length
    ·exact .inr ⟨i,heq,hio,hr.1,hr.2⟩
    ·rw[hkeep k hr]at hk;rcases hdom k L hk with h|⟨i',g1,g2⟩
     ·exact .inl h
     ·refine .inr ⟨i',?_,g2⟩;by_cases hii:i'=i
      ·rw[hii];exact heq
      ·rw[hne i' hii];exact g1
   ·have hk0:ρ k=none:=by
     cases hr:ρ k with
     | none=>rfl
     | some L=>rw[hρ k L hr]at hk;cases hk
    rw[u4 k hk0];exact hv4 m k ob hm hk0 h1 h2
  unfold wpOp;rw[ho];simp only;have wrap:∀ {A B C:Prop} {c:Bool},(if c=true then A else B)->(if c=true then A\/C else B):=λ {A B C c} h=>by
   cases c with
   | true=>rw[if_pos rfl]at h⊢;exact .inl h
   | false=>rw[if_neg (by simp)]at h⊢;exact h
  refine wrap ?_;cases hW:isW o.op with
  | true=>
   have hkey:=key (.inr hW);refine Jdl hΓ hW hstep' hS hSl (by rw[hrefs];exact hkey) (λ k h1 h2=>hfresh k h1 (by rw[← hobj']at h2;exact h2)) (by rw[← hobj'];exact hlenN) (λ k ob h1 h2=>by
    rw[← hobj']at h2;exact hv4 i k ob hio (hfresh k h1 (A6 h2)) h1 h2) λ v w' F' ρ' T2 hF hρ hkeep hS' hT2l t2 t3 t4 hv hmu=>?_
   rw[hrefs,← hobj']at t2;rw[hrefs]at t3;rw[← hobj']at t4 hkeep;have hwr:∀ k,Wr ops S i k↔k∈B0 (S i) o/\k<(S i).objs.length:=λ k=>⟨λ⟨o',h1,_,h3,h4⟩=>by rw[ho]at h1;cases h1;exact⟨h3,h4⟩,λ h=>⟨o,ho,hW,h.1,h.2⟩⟩;have dec:∀ k,Decidable (Wr ops S i k):=λ k=>decidable_of_iff _ (hwr k).symm;let T':=mkT T.length λ k=>bif (ρ k).isSome then obA T2 k else obA T k
   have hT'n:∀ k,ρ k=none->obA T' k=obA T k:=λ k hk=>by
    simp only[T',Li,hk,Option.isSome_none,cond_false];split
    ·rfl
    ·rename_i hl;cases hx:obA T k with
     | none=>rfl
     | some ob=>exact absurd (A6 hx) hl
   have hT's:∀ k L,ρ k=some L->obA T' k=obA T2 k:=λ k L hk=>by
    simp only[T',Li,hk,Option.isSome_some,cond_true];split
    ·rfl
    ·rename_i hl;cases hx:obA T2 k with
     | none=>rfl
     | some ob=>exact absurd (A6 hx) (by omega)
   refine next v w' F' ρ' T' (λ k=>if Wr ops S i k then i+1 else ver k) hF hρ hkeep (hS'.table (by simp only[T',Fa];omega) λ k L ob hk hob=>?_) (by simp only[T',Fa]) hv hmu (λ k ob hk hob=>?_) (λ m k hm hw=>?_) (λ m k hm hw=>?_) (λ k hk=>?_) hT'n
   ·cases hr:ρ k with
    | some L'=>rw[hT's k L' hr]at hob;exact hob
    | none=>
     rw[hT'n k hr]at hob;rw[t3 k λ hh=>?_]
     ·exact hob
     ·by_cases hc:(S i).objs.length<=k/\k<(S (i+1)).objs.length
      ·have:=hh.2;simp only at this;omega
      ·rw[hkeep k hc,hr]at hk;cases hk
   ·by_cases hw:Wr ops S i k
    ·simp only[if_pos hw]at hob;obtain⟨c1,c2⟩:=(hwr k).1 hw;cases hr:ρ k with
     | some L'=>rw[hT's k L' hr];exact t2 k ob c2 c1 hob
     | none=>rw[hT'n k hr];exact hkey k c1 ob (t4 k ob hr c2 hob)
    ·simp only[if_neg hw]at hob;have:=hv0 k ob hk hob;cases hr:ρ k with
     | some L'=>rw[hT's k L' hr,t3 k λ hh=>hw ((hwr k).2 hh)];exact this
     | none=>rw[hT'n k hr];exact this
   ·by_cases hmi:m=i
    ·subst hmi;simp only[if_pos hw];omega
    ·rw[hne m hmi]at hm;by_cases hwi:Wr ops S i k
     ·simp only[if_pos hwi];obtain⟨om,hom,hWm,hmk,_⟩:=hw;obtain⟨c1,c2⟩:=(hwr k).1 hwi;rcases ok.conf i m o om ho hom (λ e=>hmi e.symm) hWm (.inr hW)with h|h|h
      ·rw[hbehind m h]at hm;cases hm
      ·have:=M5 ok h;omega
      ·exact absurd hmk (h k c1)
     ·simp only[if_neg hwi];exact hv1 m k hm hw
   ·have hmi:m≠i:=λ e=>by rw[e,heq]at hm;cases hm
    rw[hne m hmi]at hm;by_cases hwi:Wr ops S i k
    ·simp only[if_pos hwi];obtain⟨om,hom,hWm,hmk,_⟩:=hw;obtain⟨c1,c2⟩:=(hwr k).1 hwi;rcases ok.conf i m o om ho hom (λ e=>hmi e.symm) hWm (.inr hW)with h|h|h
     ·have:=M5 ok h;omega
     ·have:=BJ hD.closed h hdirect;rw[hm]at this;cases this
     ·exact absurd hmk (h k c1)
    ·simp only[if_neg hwi];exact hv2 m k hm hw
   ·by_cases hwi:Wr ops S i k
    ·simp only[if_pos hwi];have:=(hwr k).1 hwi;exact⟨by omega,by omega⟩
    ·simp only[if_neg hwi];exact hv3 k hk
  | false=>
   obtain⟨new,hn1,hcut⟩:=YG hW hstep';rw[hrefs]at hcut;have hcl:(I8 (B0 (S i) o) (S i).objs).length=(S i).objs.length:=Gx _ _;have hlen2:(I8 (B0 (S i) o) (S i).objs++new).length=(S (i+1)).objs.length:=by rw[hobj',hn1,List.length_append,List.length_append,hcl]
   refine US hΓ hW hcut hS hSl (λ hm=>?_) λ v w' F' ρ' hF hρ hkeep hS' hv hmu=>?_
   ·simp only[hcl,hlen2];refine⟨λ k ob hk=>?_,hfresh,hlenN⟩;rw[AM,hcl]at hk;by_cases hkl:k<(S i).objs.length
    ·rw[if_pos hkl,Te]at hk;split at hk
     ·rename_i hmem;exact key (.inl hm) k hmem ob hk
     ·cases hk
    ·rw[if_neg hkl]at hk;have hob:obA (S (i+1)).objs k=some ob:=by rw[hobj',hn1,AM,if_neg hkl];exact hk
     exact hv4 i k ob hio (hfresh k (by omega) (A6 hob)) (by omega) hob
   ·simp only[hcl,hlen2]at hkeep;have hno:∀ k,¬Wr ops S i k:=λ k ⟨o',h1,h2,_⟩=>by rw[ho]at h1;cases h1;rw[hW]at h2;cases h2
    refine next v w' F' ρ' T ver hF hρ hkeep hS' rfl hv hmu hv0 (λ m k hm hw=>?_) (λ m k hm hw=>?_) hv3 (λ _ _=>rfl)
    ·have hmi:m≠i:=λ e=>hno k (by rw[← e];exact hw);rw[hne m hmi]at hm;exact hv1 m k hm hw
    ·have hmi:m≠i:=λ e=>hno k (by rw[← e];exact hw);rw[hne m hmi]at hm;exact hv2 m k hm hw
end law
theorem Z4 {Γ:Cx} {ops:Array Oper} {S:Nat->St} (hst:∀ (i:Nat) o,ops[i]?=some o->A1 Γ true ops.toList o (λ x=>x=S (i+1)) (S i)) (hd:∀ (i j:Nat) oi oj d,ops[i]?=some oi->ops[j]?=some oj->i≠j->oi.dst=some d->oj.dst≠some d) {i:Nat} (hi:i<=ops.size) (x:Operand) :
  PB ops.toList (S 0).env (S ops.size).env i x=Al (S i).env x:=by
 cases x with
 | tmp t=>
  simp only[PB,Al];cases hany:(ops.toList.take i).any (λ o=>match o.dst with|some d=>Nat.beq d t|none=>false)with
  | true=>
   rw[cond_true];rw[List.any_eq_true]at hany;obtain⟨o,ho,hot⟩:=hany;obtain⟨j,hj⟩:=List.getElem?_of_mem ho;have hji:j<i:=by have:=Af hj;simp at this;omega
   rw[Jmj hji]at hj;have hoj:ops[j]?=some o:=by simpa using hj
   have hdt:o.dst=some t:=by
    cases hdo:o.dst with
    | none=>rw[hdo]at hot;cases hot
    | some d=>rw[hdo]at hot;rw[Jl6 hot]
   have one:∀ n,j<n->n<=ops.size->lkA (S n).env t=lkA (S (j+1)).env t:=λ n h1 h2=>by
    rcases I9 hst n h2 t with⟨k,ok',q1,q2,q3,q4⟩|⟨q1,_⟩
    ·by_cases hkj:k=j
     ·rw[q4,hkj]
     ·exact absurd q3 (hd j k o ok' t hoj q2 (Ne.symm hkj) hdt)
    ·exact absurd hdt (q1 j o h1 hoj)
   rw[one i hji hi,one ops.size (by omega) (JlO _)]
  | false=>
   rw[cond_false];rcases I9 hst i hi t with⟨k,ok',q1,q2,q3,q4⟩|⟨_,q2⟩
   ·exfalso;rw[List.any_eq_false]at hany;refine hany ok' ?_ ?_
    ·apply Jl1 (i:=k);rw[Jmj q1];simpa using q2
    ·simp[q3]
   ·rw[q2]
 | _=>rfl
theorem OJ {Γ:Cx} (hΓ:Gv P Γ) {ops:Array Oper} {Q:St->Prop} {st:St} {a:Act} (hB:MP ops=false) (h:HR Γ true ops.toList ops.toList (λ s=>MQ true ops st.env s.env=true/\Q s) st) (hI:Inv N H0 F0 w0 Γ.nt st a w)
  {Qw:Exit->Act->World->Prop} (hQ:∀ st' a' w',Q st'->Inv N H0 F0 w0 Γ.nt st' a' w'->Qw .normal a' w'):wpAny P .any ops Qw ops.size (Array.replicate ops.size false) a { w with drawn:=w.drawn+1 }:=by
 obtain⟨S,h0,hst,hC,hQS⟩:=F7 _ _ _ h;have hst:∀ (i:Nat) o,ops[i]?=some o->A1 Γ true ops.toList o (λ x=>x=S (i+1)) (S i):=λ i o hi=>hst i o (by simpa using hi);simp only[Array.length_toList]at hC hQS;replace hC:Up ops st.env (S ops.size).env=true:=by have:=(PC hC).1;rwa[hB,Bool.false_or]at this
 rw[← h0]at hC hI;have hz:∀ (j:Nat) oj,ops[j]?=some oj->(oj,j)∈ops.toList.zipIdx:=λ j oj hj=>by
  rw[List.mem_zipIdx_iff_getElem?];simpa using hj
 have h1:∀ (j:Nat) oj,ops[j]?=some oj->(∀ e∈oj.after.toList,Region.binds .any e=true->e.on<j)/\∀ (i:Nat) oi,ops[i]?=some oi->Sd ops (S 0).env (S ops.size).env (Region.before ops) i j oi oj=true:=by
  intro j oj hj;unfold Up at hC;have:=JlJ.1 hC _ (hz j oj hj);simp only[Jl0]at this;refine⟨λ e he hb=>?_,λ i oi hi=>JlJ.1 this.2 _ (hz i oi hi)⟩;have:=Array.all_eq_true'.1 this.1 e (by simpa using he);simpa [hb]using this
 have hdst:∀ (i j:Nat) oi oj d,ops[i]?=some oi->ops[j]?=some oj->i≠j->oi.dst=some d->oj.dst≠some d:=λ i j oi oj d hi hj hne hd=>by
  have:=(h1 j oj hj).2 i oi hi;simp only[Sd,hd,Jmi,beq_iff_eq,hne,false_or,Jl0,bne_iff_ne]at this;exact this.1.1
 have hrefs:∀ (i:Nat) o,ops[i]?=some o->V5 ops.toList (S 0).env (S ops.size).env i o=false->SX ops.toList (S 0).env (S ops.size).env i o=B0 (S i) o:=λ i o hi hd=>by
  unfold SX B0;unfold V5 at hd;simp only[Z4 hst hdst (Nat.le_of_lt (Av hi))]at hd⊢;rw[hd];rfl
 have ok:Tg ops S:=by
  refine { back:=λ j oj hj=>(h1 j oj hj).1,dst:=hdst,deps:=λ i j oi oj d hi hj hlt hd hr=>?_,anti:=λ i j oi oj d hi hj hlt hd hr=>?_,conf:=λ i j oi oj hi hj hne hW hm=>?_ }
  ·have:=(h1 j oj hj).2 i oi hi;simp only[Sd,hd,Jmi,beq_iff_eq,show i≠j by omega,false_or,Jl0]at this;have:=this.1.2;simpa [hr,hlt]using this
  ·have:=(h1 j oj hj).2 i oi hi;simp only[Sd,hd,Jmi,beq_iff_eq,show i≠j by omega,false_or,Jl0]at this;have:=this.1.2;simpa [hr,show ¬ i<j by omega]using this
  ·have:=(h1 j oj hj).2 i oi hi;have hmm:(DG oi.op||isW oi.op)=true:=by simpa using hm
   simp only[Sd,Jmi,beq_iff_eq,hne,false_or,Jl0,hW,hmm,JlM,Jmb]at this;rcases this.2 with (h|h)|h
   ·exact .inl (Ck ops j i h)
   ·exact .inr (.inl (Ck ops i j h))
   ·refine .inr (.inr λ k hk hk'=>?_);simp only[Bool.not_eq_true']at h;obtain⟨hdi,h⟩:=h;rw[hrefs i oi hi hdi,hrefs j oj hj (Ss hW)]at h;have:=JlJ.1 h k hk;rw[List.contains_iff_mem.2 hk']at this;cases this
 obtain⟨F,ρ,hS,hSl,hn,hd⟩:=hI;have hz:∀ k,(Array.replicate ops.size false).getD k false=false:=λ k=>getD_replicate_false _ _;have hmono:∀ i j,i<=j->j<=ops.size->(S i).objs.length<=(S j).objs.length:=λ i j h h'=>Qa hst h h';have hb:=λ k (hk:k<(S ops.size).objs.length)=>Wu (S:=S) k ops.size hmono hk;have h0n:=hmono 0 ops.size (Nat.zero_le _) (JlO _);refine YH (S:=S) hΓ ok hst (λ a' w' hI'=>hQ _ _ _ hQS hI') ops.size _ a _ ?_ ?_
 ·refine { size:=by simp,closed:=(λ j oj _ hl=>by rw[hz]at hl;cases hl),tsz:=hn,defers:=hd.2.1.draw,ex:=⟨F,ρ,mkT (S ops.size).objs.length (λ k=>obA (S (H1 S k ops.size)).objs k),λ k=>H1 S k ops.size,⟨hd.2.2,hd.1⟩,hS.table (by rw[Fa];exact h0n) λ k L ob hk ho=>?_,Fa _ _,λ t=>⟨(λ i o _ _ hl=>by rw[hz]at hl;cases hl),λ _=>hSl t⟩,λ k L hk=>.inl (hS.dom k L hk),λ k ob hk ho=>?_,λ i k hl=>by (rw[hz]at hl;cases hl),λ i k _ hw=>?_,λ k hk=>?_,λ i k ob hi _ hk ho=>?_⟩ }
  ·have hk0:=hS.dom k L hk;obtain⟨q1,q2,q3⟩:=hb k (by omega);have:H1 S k ops.size=0:=by
    cases hbk:H1 S k ops.size with
    | zero=>rfl
    | succ m=>have:=q3 0 (by omega);omega
   rw[Li,if_pos (by omega),this]at ho;exact ho
  ·rw[Fa]at hk;rw[Li,if_pos hk];exact ho
  ·obtain⟨o,ho,_,_,hkl⟩:=hw;have hil:=Av ho;have:=hmono i ops.size (by omega) (JlO _);obtain⟨q1,q2,q3⟩:=hb k (by omega);rcases JlP i (H1 S k ops.size)with h|h
   ·have:=q3 i h;omega
   ·exact h
  ·rw[Fa]at hk;obtain⟨q1,q2,q3⟩:=hb k hk;exact⟨q2,q1⟩
  ·have hkl:=A6 ho;have:=hmono (i+1) ops.size (by omega) (JlO _);obtain⟨q1,q2,q3⟩:=hb k (by omega);have hbi:H1 S k ops.size=i+1:=by
    rcases Nat.lt_trichotomy (H1 S k ops.size) (i+1)with h|h|h
    ·have:=hmono (H1 S k ops.size) i (by omega) (by omega);omega
    ·exact h
    ·have:=q3 (i+1) h;omega
   rw[Li,if_pos (by omega),hbi];exact ho
 ·have:∀ n,unl (Array.replicate ops.size false) n=n:=by
   intro n;induction n with
   | zero=>rfl
   | succ n ih=>simp only[unl,ih,hz];rfl
  exact this _
end Go.AI
end
section
namespace Go.AI
variable {P:Program} {F F':Nat->Option Obj} {ρ ρ':Nat->Option Loc} {N:Nat->Prop} {H0 F0:Nat->Option Obj} {O objs:List (Option Ob)} {w:World} {w0:W0}
def exM:Ex->Exit
 | .normal=>.normal
 | .exit i=>.exit i
 | .ret=>.ret
def OK (N:Nat->Prop) (H0 F0:Nat->Option Obj) (w0:W0) (nt:Slt) (Q:Ex->St->Prop):Exit->Act->World->Prop:=λ e a w=>∃ e' st',e=exM e'/\Q e' st'/\Inv N H0 F0 w0 nt st' a w
theorem YI {xs:List AV} {vs:Array Value} {nb:Nat} {R:AV->List (Option Ob)->Prop} {X:Array Value->(Ending->World->Prop)->Prop} (hX:∀ vs R R',X vs R->(∀ e w',R e w'->R' e w')->X vs R') (hS:Sim N H0 F0 F ρ O w.heap) (hxs:CR F ρ xs vs.toList)
  (hcall:∀ (N:Nat->Prop) (F:Nat->Option Obj) (ρ':Nat->Option Loc),ρ'=gcR (AL O xs) ρ->Sim N (λ b=>w.heap[b]?) F F ρ' (Fw O (AL O xs)) w.heap->CR F ρ' (xs.map (IX (AL O xs))) vs.toList ->
   X vs λ e w'=>∃ v F' ρ'' r O1,R r O1/\e=.returned v/\Sim N (λ b=>w.heap[b]?) F F' ρ'' O1 w'.heap/\(∀ j,j<nb->∀ L,ρ' j=some L->ρ'' j=some L)/\Ak F' ρ'' r v/\Mu w w')
  (hnb:nb<=(AL O xs).length) (hnb1:∀ r O1,R r O1->nb<=O1.length) (hord:∀ k∈AL O xs,k<O.length) {R':Ending->World->Prop}
  (hk:∀ r O1,R r O1->∀ v w' F' ρ'',FLe F F'->RLe ρ ρ''->Sim N H0 F0 F' ρ'' (Dk O (AL O xs) nb O1) w'.heap->Ak F' ρ'' (MN (D1 (AL O xs) O.length nb) r) v->Mu w w'->R' (.returned v) w'):X vs R':=by
 generalize hordd:AL O xs=ord at *;have hnd:ord.Nodup:=by rw[← hordd];exact I3 _ _
 obtain⟨σ,hσ⟩:=hS.inn;have hL:=hS.lend hσ hnd;have hcr:CR F (gcR ord ρ) (xs.map (IX ord)) vs.toList:=by
  refine⟨by simpa using hxs.1,λ i x v hx hv=>?_⟩;simp only[Jl3,Jl2]at hx;obtain⟨z,hz,rfl⟩:=hx;exact Mq (hxs.2 i z v hz hv)
 refine hX _ _ _ (hcall _ F (gcR ord ρ) rfl hL hcr) λ e w' he=>?_;obtain⟨v,F1,ρ1,r,O1,hR,rfl,hS1,hkeep,hr1,hmu⟩:=he;obtain⟨g1,g2,g3⟩:=hS.back hσ hnd hord hS1 hmu.size hnb (hnb1 r O1 hR) hkeep;exact hk r O1 hR v w' F1 _ hS1.f0 g1 g3 (Mp g2 hr1) hmu
theorem Sim.wipe {h:Array Obj} (hS:Sim N H0 F0 F ρ O h) {k:Nat} {L:Loc} {ob:Ob} (x:Obj) (hk:ρ k=some L) (hob:obA O k=some ob):Sim N H0 F0 F ρ (O.set k none) (h.setIfInBounds L.b x):=by
 obtain⟨_,hN,hFn⟩:=hS.obj k L ob hk hob;have hne:∀ b,b≠L.b->(h.setIfInBounds L.b x)[b]?=h[b]? := λ b hb=>by rw[Cj,if_neg (λ hh=>hb hh.1.symm)]
 have hget:∀ j ob',obA (O.set k none) j=some ob'->j≠k/\obA O j=some ob':=λ j ob' h=>by
  rw[BT]at h;split at h
  ·cases h
  ·rename_i hn;refine⟨λ e=>?_,h⟩;subst e;exact hn ⟨rfl,A6 hob⟩
 obtain⟨σ,hσ⟩:=hS.inn;exact {
  size:=λ b hb=>hS.size b (by simpa using hb),old:=λ b hb=>by rw[hne b (λ e=>hb (by rw[e];exact hN))];exact hS.old b hb,f0:=hS.f0,fnew:=hS.fnew,
     frz:=λ b o hb=>by rw[hne b (λ e=>by rw[e,hFn]at hb;cases hb)];exact hS.frz b o hb,
     loc:=λ j L' hj=>by simpa using hS.loc j L' hj,dom:=λ j L' hj=>by simpa using hS.dom j L' hj,
     obj:=λ j L' ob' hj ho=>by
      obtain⟨h1,h2⟩:=hget j ob' ho;obtain⟨g1,g2,g3⟩:=hS.obj j L' ob' hj h2;exact⟨g1.mono (FLe.refl _) (RLe.refl _) (hne _ (hS.sep j k L' L ob' ob hj hk h2 hob h1)),g2,g3⟩,
     sep:=λ j j' L1 L2 o1 o2 h1 h2 g1 g2 hn=>hS.sep j j' L1 L2 o1 o2 h1 h2 (hget j o1 g1).2 (hget j' o2 g2).2 hn,
     inn:=⟨σ,λ j c M hM=>by obtain⟨g1,g2,g3⟩:=hσ.new j c M hM;exact⟨g1,by simpa using g2,g3⟩,
      λ j c M j' L' ob' hM hj' ho=>hσ.obj j c M j' L' ob' hM hj' (hget j' ob' ho).2,hσ.sep,
      λ j L' ob0 sz es hj ho hr0 i e m isz xs hi hm o1 v hb hv=>by
       obtain⟨h1,h2⟩:=hget j _ ho;rw[hne _ (hS.sep j k L' L _ ob hj hk h2 hob h1)]at hb;exact(hσ.rep j L' ob0 sz es hj h2 hr0 i e m isz xs hi hm o1 v hb hv).mono (FLe.refl _) λ M hM=>hne _ (λ e=>hσ.obj j _ M k L ob hM hk hob e.symm)⟩ }
def LU (F:Nat->Option Obj) (d:Nat):Nat->Option Obj:=λ b=>if b=d then none else F b
theorem U9 {d:Nat} (h:F d=some (.deferred (some []))):FCe F (LU F d):=λ b o hb hno=>by
 unfold LU;rw[if_neg (λ e=>by subst e;rw[h]at hb;cases hb;exact hno _ rfl)];exact hb
theorem Sim.shut {h:Array Obj} (hS:Sim N H0 F0 F ρ O h) {d:Nat} (hd:F d=some (.deferred (some []))) (hN:N d) (h0:F0 d=none):Sim N H0 F0 (LU F d) ρ O (h.setIfInBounds d (.deferred none)):=by
 have hne:∀ b,b≠d->(h.setIfInBounds d (.deferred none))[b]?=h[b]? := λ b hb=>by rw[Cj,if_neg (λ hh=>hb hh.1.symm)]
 have hFd:∀ b o,LU F d b=some o->b≠d/\F b=some o:=λ b o h=>by
  unfold LU at h;split at h
  ·cases h
  ·rename_i hn;exact⟨hn,h⟩
 have hno:∀ b,F b=none->b≠d/\LU F d b=none:=λ b h=>by
  have:b≠d:=λ e=>by subst e;rw[hd]at h;cases h
  exact⟨this,by unfold LU;rw[if_neg this];exact h⟩
 have hce:=U9 hd;obtain⟨σ,hσ⟩:=hS.inn;exact {
  size:=λ b hb=>hS.size b (by simpa using hb),old:=λ b hb=>by rw[hne b (λ e=>hb (by rw[e];exact hN))];exact hS.old b hb,
     f0:=λ b o hb=>by
      have:b≠d:=λ e=>by subst e;rw[h0]at hb;cases hb
      unfold LU;rw[if_neg this];exact hS.f0 b o hb,
     fnew:=λ b o hb hn=>hS.fnew b o (hFd b o hb).2 hn,
     frz:=λ b o hb=>by rw[hne b (hFd b o hb).1];exact hS.frz b o (hFd b o hb).2,
     loc:=λ j L' hj=>by simpa using hS.loc j L' hj,dom:=hS.dom,
     obj:=λ j L' ob' hj ho=>by
      obtain⟨g1,g2,g3⟩:=hS.obj j L' ob' hj ho;exact⟨g1.monoC hce (RLe.refl _) (hne _ (hno _ g3).1),g2,(hno _ g3).2⟩,
     sep:=hS.sep,
     inn:=⟨σ,λ j c M hM=>by obtain⟨g1,g2,g3⟩:=hσ.new j c M hM;exact⟨g1,by simpa using g2,(hno _ g3).2⟩,hσ.obj,hσ.sep,
      λ j L' ob0 sz es hj ho hr0 i e m isz xs hi hm o1 v hb hv=>by
       rw[hne _ (hno _ (hS.obj j L' _ hj ho).2.2).1]at hb;exact(hσ.rep j L' ob0 sz es hj ho hr0 i e m isz xs hi hm o1 v hb hv).monoC hce λ M hM=>hne _ (hno _ (hσ.new _ _ M hM).2.2).1⟩ }
theorem OL {fn:Func} {tmps:Array Value} {R:Ending->World->Prop} {nt:Slt} (hq:∀ f k,(f,k)∈nt.qf->∀ vs:Array Value,vs.size=k->QD P (MR f vs)) (hN:∀ b,w0.w.heap.size<=b->N b) (h0:∀ b,w0.w.heap.size<=b->F0 b=none) {l:List Nat} {ds:List Deferred} (hD:Rx nt l ds):∀ (F:Nat->Option Obj) (w:World),l.Nodup->(∀ b∈l,w0.w.heap.size<=b/\F b=some (.deferred (some []))) ->
  Sim N H0 F0 F ρ O w.heap->(∀ F' w',FCe F F'->Sim N H0 F0 F' ρ O w'.heap->Mu w w'->∃ v,(results fn tmps).run P w'=.ok v w'/\R (.returned v) w')->LeavesInM Fence.wide 0 P fn tmps R ds .returning w:=by
 induction hD with
 | nil=>intro F w _ _ hS hend;exact hend F w (λ _ _ h _=>h) hS (Mu.refl w)
 | quiet hd h ih=>
  intro F w hnd hl hS hend;obtain⟨fv,cap,f,args,q1,q2,q3⟩:=hq _ _ hd _ rfl;refine⟨by simp,.inr ⟨λ h=>(by cases h),fv,cap,f,args,q1,q2 w,λ g _=>trivial,(q3 w).1,λ c cs hm hr=>?_⟩⟩;obtain⟨e,u',w',fr,⟨v,rfl,hs,hh,hmu⟩,hrest⟩:=(q3 w).2 c cs hm hr;refine⟨.returned v,u',w',fr,?_,hrest⟩;show LeavesInM Fence.wide 0 P fn tmps R _ (settle u') w';rw[hs];exact ih F w' hnd hl (by rw[hh];exact hS) λ F' w'' hF hS' hmu'=>hend F' w'' hF hS' (hmu.trans hmu')
 | @mark l ds d _ ih=>
  intro F w hnd hl hS hend;obtain⟨h1,h2⟩:=hl d List.mem_cons_self;rw[List.nodup_cons]at hnd;refine⟨by simp,.inl ⟨d,w.putObj d (.deferred none),rfl,run_takeDeferred (hS.frz d _ h2),?_⟩⟩;refine ih (LU F d) _ hnd.2 (λ b hb=>?_) (hS.shut h2 (hN d h1) (h0 d h1)) λ F' w' hF hS' hmu=>?_
  ·obtain⟨q1,q2⟩:=hl b (List.mem_cons_of_mem _ hb);refine⟨q1,?_⟩;unfold LU;rw[if_neg (λ e=>hnd.1 (by rw[← e];exact hb))];exact q2
  ·refine hend F' w' (λ b o hb hno=>hF b o (U9 h2 b o hb hno) hno) hS' (Mu.trans (w':=w.putObj d (.deferred none)) ⟨rfl,rfl,by simp,rfl,JlO _⟩ hmu)
theorem Z5:∀ (ts:List Nat) (env:List (Nat×AV)) (t:Nat) (v:Value),Ak F ρ (lkA env t) v->Ak F ρ (lkA (ts.zip (ts.map (lkA env))) t) v:=by
 intro ts;induction ts with
 | nil=>intro env t v _;exact .top _
 | cons x ts ih=>
  intro env t v h;rw[JlV,List.zip_cons_cons,Bi];split
  ·rename_i e;subst e;exact h
  ·exact ih env t v h
theorem Sim.enter {nt:Slt} {st:St} {a:Act} {fn:FuncId} {ps:Array Tmp} {asg body:Code} {js:List Code} (ts:List Nat) (hS:Sim N H0 F0 F ρ st.objs w.heap) (hSl:Cf F ρ st.env a.tmps) (hn:a.tmps.size=nt.n) :
  ∃ F1 ρ1,FLe F F1/\RLe ρ ρ1/\F1 w.heap.size=some (.deferred (some []))/\ρ1 st.objs.length=some ⟨w.heap.size+1,0,0⟩ /\
   Sim N H0 F0 F1 ρ1 (st.objs++[some (.lp ⟨nt.n,ps.toList,asg,body,js⟩ ts (ts.map (lkA st.env)) 0)]) ((w.alloc (.deferred (some []))).alloc (.loop { state:=.ready,pending:=none,fn,tmps:=a.tmps,params:=ps,assign:=asg,body,defers:=w.heap.size })).heap:=by
 obtain⟨x,hx⟩:∃ x:Obj,x=.loop { state:=.ready,pending:=none,fn,tmps:=a.tmps,params:=ps,assign:=asg,body,defers:=w.heap.size }:=⟨_,rfl⟩;rw[← hx];have hh:((w.alloc (.deferred (some []))).alloc x).heap=(w.heap.push (.deferred (some []))).push x:=rfl;rw[hh];have hold:∀ b,b<w.heap.size->((w.heap.push (.deferred (some []))).push x)[b]?=w.heap[b]? := λ b hb=>by
  rw[Array.getElem?_push_lt (by simp;omega),Array.getElem_push_lt hb,Jl4 hb]
 have hD:((w.heap.push (.deferred (some []))).push x)[w.heap.size]?=some (.deferred (some [])):=by
  rw[Array.getElem?_push_lt (by simp)];simp
 have hl:((w.heap.push (.deferred (some []))).push x)[w.heap.size+1]?=some x:=by
  rw[Array.getElem?_push];simp
 have hlt:∀ b o,F b=some o->b<w.heap.size:=λ b o h=>Av (hS.frz b o h);let F1:Nat->Option Obj:=λ b=>if b=w.heap.size then some (.deferred (some []))else F b
 have e1:∀ b,b≠w.heap.size->F1 b=F b:=λ b h=>if_neg h;have e2:F1 w.heap.size=some (.deferred (some [])):=if_pos rfl;have hF:FLe F F1:=λ b o h=>by rw[e1 b (by have:=hlt b o h;omega)];exact h
 have hfresh:ρ st.objs.length=none:=by
  cases hr:ρ st.objs.length with
  | none=>rfl
  | some L=>have:=hS.dom _ L hr;omega
 have hρ:RLe ρ (upR ρ st.objs.length ⟨w.heap.size+1,0,0⟩):=λ k L h=>by
  rw[Bj (λ e=>by subst e;rw[hfresh]at h;cases h)];exact h
 have hnone:∀ b,w.heap.size<=b->F b=none:=λ b hb=>by
  cases hf:F b with
  | none=>rfl
  | some o=>have:=hlt b o hf;omega
 have hobj:∀ j ob,obA (st.objs++[some (.lp ⟨nt.n,ps.toList,asg,body,js⟩ ts (ts.map (lkA st.env)) 0)]) j=some ob->j≠st.objs.length->obA st.objs j=some ob:=λ j ob h hj=>by
  rw[AM]at h;split at h
  ·exact h
  ·have:=A6 h;simp at this;omega
 obtain⟨σ,hσ⟩:=hS.inn;refine⟨F1,_,hF,hρ,e2,AP ..,{ size:=λ b hb=>hS.size b (by simp at hb;omega),old:=λ b hb=>?_,f0:=λ b o h=>hF b o (hS.f0 b o h),fnew:=λ b o h hb=>?_,frz:=λ b o h=>?_,loc:=λ j L hj=>?_,dom:=λ j L hj=>?_,obj:=λ j L ob hj ho=>?_,sep:=λ j j' L L' o1 o2 hj hj' h1 h2 hne=>?_,inn:=⟨σ,λ j c M hM=>?_,λ j c M j' L ob hM hj' ho=>?_,hσ.sep,λ j L ob0 sz es hj ho hr0 i e m isz xs hi hm o1 v hb hv=>?_⟩ }⟩
 ·rw[hold b (hS.lt_size hb)];exact hS.old b hb
 ·rw[e1 b (by have:=hS.lt_size hb;omega)]at h;exact hS.fnew b o h hb
 ·by_cases e:b=w.heap.size
  ·subst e;rw[e2]at h;cases h;exact hD
  ·rw[e1 b e]at h;rw[hold b (hlt b o h)];exact hS.frz b o h
 ·by_cases e:j=st.objs.length
  ·subst e;rw[AP]at hj;cases hj;simp
  ·rw[Bj e]at hj;have:=hS.loc j L hj;simp;omega
 ·by_cases e:j=st.objs.length
  ·subst e;simp
  ·rw[Bj e]at hj;have:=hS.dom j L hj;simp;omega
 ·by_cases e:j=st.objs.length
  ·subst e;rw[AP]at hj;cases hj;rw[AM,if_neg (by omega)]at ho;simp only[Nat.sub_self,obA,JlW,Jl9]at ho;subst ho;refine⟨⟨_,by rw[hl,hx],rfl,rfl,rfl,hn,.inl ⟨rfl,rfl,rfl⟩,λ t=>Z5 ts st.env t _ ((hSl t).mono hF hρ)⟩,hS.size _ (by simp),?_⟩;rw[e1 _ (by simp)];exact hnone _ (by simp)
  ·rw[Bj e]at hj;have hj':=hS.loc j L hj;obtain⟨g1,g2,g3⟩:=hS.obj j L ob hj (hobj j ob ho e);exact⟨g1.mono hF hρ (hold _ hj'),g2,by rw[e1 _ (by omega)];exact g3⟩
 ·by_cases e:j=st.objs.length
  ·subst e;rw[AP]at hj;cases hj;rw[Bj (Ne.symm hne)]at hj';have:=hS.loc j' L' hj';simp;omega
  ·rw[Bj e]at hj;by_cases e':j'=st.objs.length
   ·subst e';rw[AP]at hj';cases hj';have:=hS.loc j L hj;simp;omega
   ·rw[Bj e']at hj';exact hS.sep j j' L L' o1 o2 hj hj' (hobj j o1 h1 e) (hobj j' o2 h2 e') hne
 ·obtain⟨g1,g2,g3⟩:=hσ.new j c M hM;exact⟨g1,by simp;omega,by rw[e1 _ (by omega)];exact g3⟩
 ·by_cases e:j'=st.objs.length
  ·subst e;rw[AP]at hj';cases hj';have:=(hσ.new j c M hM).2.1;simp;omega
  ·rw[Bj e]at hj';exact hσ.obj j c M j' L ob hM hj' (hobj j' ob ho e)
 ·by_cases e':j=st.objs.length
  ·subst e';rw[AM,if_neg (by omega)]at ho;simp[obA]at ho;subst ho;cases hr0
  ·rw[Bj e']at hj;rw[hold _ (hS.loc j L hj)]at hb;exact(hσ.rep j L ob0 sz es hj (hobj j _ ho e') hr0 i e m isz xs hi hm o1 v hb hv).mono hF λ M hM=>hold _ (hσ.new _ _ M hM).2.1
theorem Jfp {k j:Nat} {js:List Code} (h:lpJ O k=some (js,j)):∃ d ts vs,obA O k=some (.lp d ts vs j)/\d.js=js:=by
 unfold lpJ at h;split at h
 ·rename_i d ts vs j' ho;cases h;exact⟨d,ts,vs,ho,rfl⟩
 ·cases h
def Tk (P:Program) (Γ:Cx) (g:Operand) (ps:Array Tmp) (asg body:Code) (Q:Ex->St->Prop) (st:St):Prop:=
 match Al st.env g with
 | .clo f caps=>∃ (js:List Code) (ts:List Nat) (nb:Nat) (R:AV->List (Option Ob)->Prop),
   Γ.rd=false/\HY P f ((.yld st.objs.length::caps).map (IX (AL (rgO Γ ps asg body js ts st) (.yld st.objs.length::caps)))) (Fw (rgO Γ ps asg body js ts st) (AL (rgO Γ ps asg body js ts st) (.yld st.objs.length::caps))) nb R /\
   nb<=(AL (rgO Γ ps asg body js ts st) (.yld st.objs.length::caps)).length/\(∀ k∈AL (rgO Γ ps asg body js ts st) (.yld st.objs.length::caps),k<(rgO Γ ps asg body js ts st).length) /\
   ∀ r objs1,R r objs1->nb<=objs1.length/\∃ j,lpJ (Dk (rgO Γ ps asg body js ts st) (AL (rgO Γ ps asg body js ts st) (.yld st.objs.length::caps)) nb objs1) st.objs.length=some (js,j) /\
    Uq Q js j ⟨st.env,(Dk (rgO Γ ps asg body js ts st) (AL (rgO Γ ps asg body js ts st) (.yld st.objs.length::caps)) nb objs1).set st.objs.length none⟩
 | _=>False
theorem Qb {Γ:Cx} {rd:Option Nat} (hrd:Γ.rd=rd.isSome) {g:Operand} {ps:Array Tmp} {asg body:Code} {Q:Ex->St->Prop} {st:St} {a:Act} (h:Tk P Γ g ps asg body Q st) (hI:Inv N H0 F0 w0 Γ.nt st a w) :
  (Code.rangeFunc g ps asg body).wpIn (GF rd) 0 P (OK N H0 F0 w0 Γ.nt Q) a w:=by
 obtain⟨F,ρ,hS,hSl,hn,hdf⟩:=hI;unfold Tk at h;split at h
 rotate_left
 ·exact h.elim
 rename_i f caps hgv;obtain⟨js,ts,nb,R,h1,hl,hnb,hord,hR⟩:=h;have hr0:rd=none:=by
  rw[h1]at hrd;cases rd with
  | none=>rfl
  | some l=>cases hrd
 subst hr0;have hg:=A5 hSl g;rw[hgv]at hg;generalize hav:a.eval g=gv at hg;cases hg with
 | clo _ _ vs hlen hrep=>
  obtain⟨⟨fn,c,hf,hb,hnm⟩,hcall⟩:=hl;refine wpIn_rangeFunc λ fnid _=>?_;obtain⟨F1,ρ1,hF1,hρ1,hFD,hρl,hS1⟩:=hS.enter (nt:=Γ.nt) (fn:=fnid) (ps:=ps) (asg:=asg) (body:=body) (js:=js) ts hSl hn.1;obtain⟨W1,hW1⟩:∃ W1,W1=(w.alloc (.deferred (some []))).alloc (.loop { state:=.ready,pending:=none,fn:=fnid,tmps:=a.tmps,params:=ps,assign:=asg,body,defers:=w.heap.size }):=⟨_,rfl⟩;have hmu1:Mu w W1:=by rw[hW1];exact⟨rfl,rfl,by simp;omega,rfl,JlO _⟩
  refine⟨w.heap.size+1,[PD w.heap.size],W1,{ target:=.fn (.func f) vs,args:=#[.func (.yield (w.heap.size+1)) #[] #[]] },W1,f,#[.func (.yield (w.heap.size+1)) #[] #[]]++vs,W1,?_,?_,λ _ _=>trivial,?_,(by intro h;cases h),?_⟩
  ·rw[hW1];exact run_enterLoop_outer _ _ _ _ _
  ·simp only[resolve,hav];simp[go_sem]
  ·simp only[invoke,callFunc,JlG,run_program,JlE,hf,hnm,hb,Jmb,if_false,Option.isNone_some,JlH]
  rw[← hW1]at hS1;refine PS.2 (YI (X:=λ vs R=>Calls P f vs W1 R) (λ _ _ _ h hr=>h.mono hr) (xs:=.yld st.objs.length::caps) hS1 ⟨by simp;omega,λ i x v hx hv=>?_⟩ (λ N F ρ' _ hS' hcr=>hcall N F ρ' W1 _ hS' hcr) hnb (λ r O1 hr=>(hR r O1 hr).1) hord λ r objs1 hr v w' F2 ρ2 hF2 hρ2 hS2 _ hmu=>?_)
  ·cases i with
   | zero=>
    simp at hx hv;subst hx;subst hv;exact .yld _ _ hρl
   | succ i=>
    have hx:caps[i]?=some x:=by simpa using hx
    have hv:vs[i]?=some v:=by simpa [Array.getElem?_append]using hv
    exact(hrep i x v hx hv).mono hF1 hρ1
  ·obtain⟨hnb1,j,hj,hQ⟩:=hR r objs1 hr;obtain⟨d,ts',vs',hob,hdj⟩:=Jfp hj;have hρn:=hρ2 _ _ hρl;obtain⟨⟨rc,hrc,_,_,_,_,hst,_⟩,hNl,hFl⟩:=hS2.obj _ _ _ hρn hob;simp only at hrc;have hS3:=hS2.wipe (.loop { rc with state:=.exhausted }) hρn hob;have hInv:Inv N H0 F0 w0 Γ.nt ⟨st.env,(Dk (rgO Γ ps asg body js ts st) (AL (rgO Γ ps asg body js ts st) (.yld st.objs.length::caps)) nb objs1).set st.objs.length none⟩ { a with defers:=[PD w.heap.size]++a.defers } (w'.putObj (w.heap.size+1) (.loop { rc with state:=.exhausted })):=by
    refine⟨F2,ρ2,hS3,hSl.mono (hF1.trans hF2) (hρ1.trans hρ2),hn,?_,hdf.2.1.trans (hmu1.trans (hmu.trans ⟨rfl,rfl,by simp,rfl,JlO _⟩)),hdf.2.2.mono (hρ1.trans hρ2)⟩;obtain⟨l,q1,q2,q3⟩:=hdf.1.mono (hF1.trans hF2);obtain⟨l',q1',_,q3'⟩:=hdf.1;refine⟨w.heap.size::l,.mark _ q1,List.nodup_cons.2 ⟨λ hm=>?_,q2⟩,λ b hb=>?_⟩
    ·have hll:l=l':=q1.uniq q1';rw[hll]at hm;have:=Av (hS.frz _ _ (q3' _ hm).2);omega
    ·rcases List.mem_cons.1 hb with rfl|hb
     ·exact⟨hdf.2.1.size,hF2 _ _ hFD⟩
     ·exact q3 b hb
   have hend:rc.state≠.busy->(Instr.endLoop (w.heap.size+1)).run P w'=.ok rc.pending (w'.putObj (w.heap.size+1) (.loop { rc with state:=.exhausted })):=λ hb=>run_endLoop hrc hb
   match j,hst,hQ with
   | 0,hst,hQ=>
    rcases hst with⟨_,h2,h3⟩|⟨h2,_⟩|⟨c,h2,_⟩
    ·exact⟨none,_,by rw[hend (by rw[h2];simp),h3],.normal,_,rfl,hQ,hInv⟩
    ·omega
    ·omega
   | 1,_,hQ=>exact hQ.elim
   | i+2,hst,hQ=>
    rcases hst with⟨h2,_⟩|⟨h2,_⟩|⟨c,_,h2,h3,h4⟩
    ·omega
    ·omega
    ·simp only[Nat.add_sub_cancel,hdj]at h2;refine⟨some c,w'.putObj (w.heap.size+1) (.loop { rc with state:=.exhausted }),by rw[hend (by rw[h3];simp),h4],?_⟩;simp only[Uq,h2]at hQ;split at hQ
     ·rename_i he;cases he;exact wpIn_ret (⟨.ret,_,rfl,hQ,hInv⟩:OK N H0 F0 w0 Γ.nt Q .ret _ _)
     ·rename_i k he;cases he;exact wpIn_exit (⟨.exit k,_,rfl,hQ,hInv⟩:OK N H0 F0 w0 Γ.nt Q (.exit k) _ _)
     ·exact hQ.elim
theorem Tl {Γ:Cx} (hΓ:Gv P Γ) {rd:Option Nat} (hrd:Γ.rd=rd.isSome) {g:Operand} {ps:Array Tmp} {asg body:Code} {Q:Ex->St->Prop} {st:St} {a:Act} (h:S0 Γ g ps asg body Q st) (hI:Inv N H0 F0 w0 Γ.nt st a w) :
  (Code.rangeFunc g ps asg body).wpIn (GF rd) 0 P (OK N H0 F0 w0 Γ.nt Q) a w:=by
 refine Qb hrd ?_ hI;unfold S0 at h;unfold Tk;split at h
 ·rename_i f caps hgv;simp only[hgv];obtain⟨js,ts,nb,R,h1,hl,h2⟩:=h;exact⟨js,ts,nb,R,h1,hΓ.lentS _ _ _ _ _ hl,h2⟩
 ·exact h.elim
theorem Va {Γ:Cx} (hΓ:Gv P Γ) {rd:Option Nat} (hrd:Γ.rd=rd.isSome) {g:Operand} {ps:Array Tmp} {asg body:Code} {Q:Ex->St->Prop} {st:St} {a:Act} (h:SZ Γ g ps asg body Q st) (hI:Inv N H0 F0 w0 Γ.nt st a w) :
  (Code.rangeFunc g ps asg body).wpIn (GF rd) 0 P (OK N H0 F0 w0 Γ.nt Q) a w:=by
 refine Qb hrd ?_ hI;unfold SZ at h;unfold Tk;split at h
 ·rename_i f caps hgv;simp only[hgv];obtain⟨js,ts,nb,r,objs1,j,h1,hl,hnb,hnb1,hord,hj,hQ⟩:=h;exact⟨js,ts,nb,_,h1,(hΓ.lent _ _ _ _ _ _ hl).S,hnb,hord,λ r' O' hr=>by obtain⟨rfl,rfl⟩:=hr;exact⟨hnb1,j,hj,hQ⟩⟩
 ·exact h.elim
end Go.AI
end
section
namespace Go.AI
variable {P:Program} {F F':Nat->Option Obj} {ρ ρ':Nat->Option Loc} {N:Nat->Prop} {H0 F0:Nat->Option Obj} {O objs:List (Option Ob)} {w:World} {w0:W0}
theorem Ga {op:Op} (h:HA op=true):HX op=true/\isW op=false:=by
 cases op with
 | call c=>
  obtain⟨callee,args,ts⟩:=c;cases callee with
  | value f=>cases h
  | invoke r m=>cases h
  | builtin b=>cases b<;>first|exact⟨rfl,rfl⟩|cases h
 | _=>first|exact⟨rfl,rfl⟩|cases h
theorem Ms {op:Op} (h:HA op=true) (hm:DG op=true):∃ t a,op=.load t a:=by
 cases op with
 | call c=>
  obtain⟨callee,args,ts⟩:=c;cases callee with
  | value f=>cases h
  | invoke r m=>cases h
  | builtin b=>cases b<;>first|(cases h;done)|(cases hm;done)
 | load t a=>exact⟨t,a,rfl⟩
 | _=>first|(cases h;done)|(cases hm;done)
theorem Ww {Γ:Nat->Ty} {ev:Operand->AV} {op:Op} (h:Ez op=true):opA Γ ev objs op=none:=by
 cases op with
 | call c=>
  obtain⟨callee,args,ts⟩:=c;cases callee with
  | value f=>rfl
  | invoke r m=>cases h
  | builtin b=>cases h
 | _=>cases h
theorem Ko {op:Op} (h:Ez op=true) (hq:HA op=true):False:=by
 cases op with
 | call c=>
  obtain⟨callee,args,ts⟩:=c;cases callee with
  | value f=>cases hq
  | invoke r m=>cases h
  | builtin b=>cases h
 | _=>cases h
structure Z6 (P:Program) (Γ:Cx) (ops:Array Oper) (m x i:Nat) (o:Oper) (s s':St) (g:Bool) (v:AV):Prop where
 gd:Bw (ops.toList.take m) s.env o.guard=some g
 dst:BE Γ.nt o.dst=true
 env:s'.env=putA o.dst o.guard.isSome g v s.env
 quiet:HA o.op=true->(∃ obs:List Ob,s'.objs=s.objs++obs.map some)/\(g=true->∃ e,opA Γ.ty (λ y=>unG (Al s.env y)) s.objs o.op=some e/\Fu true (o.op.operands.toList.map (Al s.env))/\e.ob/\v=e.v)
 call:Ez o.op=true->(g=false->∃ obs:List Ob,s'.objs=s.objs++obs.map some)/\(g=true->∀ env,(∀ y∈o.op.operands.toList,Al env y=Al s.env y)->Γ.ext Γ.nt o true ⟨env,s.objs⟩ ⟨putA o.dst o.guard.isSome true v env,s'.objs⟩)
theorem Wx {Γ:Cx} {ops:Array Oper} {m x i:Nat} {o:Oper} {s s':St} (hk:HA o.op=true\/Ez o.op=true) (hx:∀ o',ops[x]?=some o'->Ez o'.op=true) (h:A1 (cxX Γ ops x) false (ops.toList.take m) o (λ z=>z=s') s):∃ g v,Z6 P Γ ops m x i o s s' g v:=by
 unfold A1 at h;split at h
 ·exact h.elim
 rename_i g hg;cases hdst:BE Γ.nt o.dst with
 | false=>rw[show(cxX Γ ops x).nt=Γ.nt from rfl,hdst]at h;exact h.elim
 | true=>
  rw[show(cxX Γ ops x).nt=Γ.nt from rfl,hdst,JlM,cond_false]at h;cases g with
  | false=>
   obtain⟨v,obs,_,hv⟩:=h.2 rfl;cases hv;exact⟨false,v,hg,hdst,rfl,λ _=>⟨⟨obs,rfl⟩,λ h=>by cases h⟩,λ _=>⟨λ _=>⟨obs,rfl⟩,λ h=>by cases h⟩⟩
  | true=>
   have hext:∀ st',Ji1 Γ ops x Γ.nt o true s st'->Ez o.op=true/\∃ v,st'=⟨putA o.dst o.guard.isSome true v s.env,st'.objs⟩/\∀ env,(∀ y∈o.op.operands.toList,Al env y=Al s.env y)->Γ.ext Γ.nt o true ⟨env,s.objs⟩ ⟨putA o.dst o.guard.isSome true v env,st'.objs⟩:=by
    rintro st' ⟨h1,v,O1,rfl,h2⟩;exact⟨hx o h1,v,rfl,h2⟩
   have others:∀ op,o.op=op->(match opA Γ.ty (λ x=>unG (Al s.env x)) s.objs op with
     | some e=>Fu true (op.operands.toList.map (Al s.env))/\(true=true->e.ob)/\(bif (e.upd.isSome&&o.guard.isSome)||(!e.rm.isEmpty&&(o.guard.isSome||(false&&!isW op)))then False else DV o.dst o.guard.isSome true e s=s')
     | none=>False)->∃ g v,Z6 P Γ ops m x i o s s' g v:=by
    intro op hop h;subst hop;split at h
    ·rename_i e he;obtain⟨h1,h2,h3⟩:=h;have hq:HA o.op=true:=by
      rcases hk with h|h
      ·exact h
      ·rw[Ww h]at he;cases he
     obtain⟨q2,q3,q1⟩:=Tb (Ga hq).1 he;have hs:DV o.dst o.guard.isSome true e s=s':=by
      rw[q1,q3]at h3;simpa using h3
     subst hs;refine⟨true,e.v,hg,hdst,rfl,λ _=>⟨⟨[],?_⟩,λ _=>⟨e,he,h1,h2 rfl,rfl⟩⟩,λ hc=>(Ko hc hq).elim⟩;simp[DV,q1,q2,q3,rmA,BG]
    ·exact h.elim
   rcases h.1 rfl with h|h|h
   ·unfold stepG at h;split at h
    ·obtain⟨_,h⟩:=h;unfold JD at h;split at h
     ·obtain⟨_,m,r,hc,_⟩:=h;exact(hc rfl).elim
     ·exact h.elim
    ·rename_i c y z hop;rcases hk with h|h
     ·rw[hop]at h;cases h
     ·rw[hop]at h;cases h
    ·exact others _ rfl h
   ·exfalso;unfold Fg opF at h;split at h
    ·rename_i es he;split at he
     ·rename_i t len parts hop;rcases hk with h|h
      ·rw[hop]at h;cases h
      ·rw[hop]at h;cases h
     ·cases he
    ·exact h
   ·obtain⟨_,⟨st',h1,rfl⟩|⟨_,h|h⟩⟩:=h
    ·obtain⟨h1,v,h2,h3⟩:=hext _ h1;refine⟨true,v,hg,hdst,by rw[h2],λ hq=>(Ko h1 hq).elim,λ _=>⟨λ h=>(by cases h),λ _=>h3⟩⟩
    ·exfalso;unfold opK at h;split at h
     ·rename_i esz es he;split at he
      ·rename_i t len parts hop;rcases hk with h|h
       ·rw[hop]at h;cases h
       ·rw[hop]at h;cases h
      ·cases he
     ·exact h
    ·exfalso;split at h
     ·obtain⟨_,nb,r,o1,hl,_⟩:=h;exact hl
     ·exact h
theorem Z7 {Γ:Nat->Ty} {t:TypeId} {a:Operand} {ev:Operand->AV} {v:AV} (hok:(Γ t).ok=true) (h:ldX (Γ t) objs (ev a)=some v):∃ ob:Prop,ob/\opA Γ ev objs (.load t a)=some ⟨v,[],[],none,ob⟩:=by
 generalize hp:ev a=p at h;unfold ldX at h;split at h
 ·rename_i k off;split at h
  ·rename_i cells hc;cases hb:Nat.ble (off+(Γ t).size) cells.length with
   | false=>rw[hb]at h;cases h
   | true=>
    rw[hb,cond_true]at h;exact⟨_,Jme hb,by simp only[opA,hok,cond_true,hp,CX,hc,h,A9]⟩
  ·cases h
 ·rename_i e off;cases hb:Nat.ble (off+(Γ t).size) e.length with
  | false=>rw[hb]at h;cases h
  | true=>
   rw[hb,cond_true]at h;exact⟨_,Jme hb,by simp only[opA,hok,cond_true,hp,CX,h,A9]⟩
 ·cases h
theorem Qc {Γ:Nat->Ty} {t:TypeId} {a:Operand} {ev:Operand->AV} {e:Eff} (O:List (Option Ob)) (h:opA Γ ev objs (.load t a)=some e):opA Γ ev (objs++O) (.load t a)=some e:=by
 simp only[opA]at h⊢;cases hok:(Γ t).ok with
 | false=>rw[hok]at h;cases h
 | true=>
  rw[hok,cond_true]at h;rw[cond_true];have hap:∀ k ob,obA objs k=some ob->obA (objs++O) k=some ob:=λ k ob hk=>by rw[AM,if_pos (A6 hk)];exact hk
  unfold CX at h⊢;split at h
  ·split at h
   ·rename_i hk;rw[hap _ _ hk];exact h
   ·cases h
  ·split at h
   ·rename_i hk;rw[hap _ _ hk];exact h
   ·rename_i hk;rw[hap _ _ hk];exact h
   ·cases h
  ·exact h
  ·cases h
theorem Z8 {ops:Array Oper} {b x m i:Nat} (hbi:b<=i) (hix:i≠x) (hx:x<m) (h1:i<x->¬((Region.before ops).getD x 0).testBit i=true) (h2:x<i->¬((Region.before ops).getD i 0).testBit x=true)  :exX ops b x m i=false:=by
 rw[← JlN];intro h;unfold exX at h;simp only[Jmi,Jl0]at h;rcases h with (((h|h)|h)|h)|h
 ·have:=Jme h;omega
 ·exact hix (Jl6 h)
 ·have:=Jme h;omega
 ·exact h1 (Jme h.1) h.2
 ·exact h2 (Jme h.1) h.2
theorem NR {ops:Array Oper} {b x m:Nat} (h:Mn ops b x m=true):(m<ops.size/\b<=x/\b<=m)/\(∀ o',ops[x]?=some o'->Ez o'.op=true) /\
  (∀ (j:Nat) oj,ops[j]?=some oj->(∀ e∈oj.after.toList,Region.binds .any e=true->e.on<j)/\(b<=j->j<m->Gw ops m j/\(HA oj.op=true\/Ez oj.op=true\/(j+1=m/\alB oj=true))/\(Ez oj.op=true->j=x))/\(b<=j->m<j->Gw ops j m)/\(∀ k b,oj.guard=some (k,b)->k<j) /\
   ∀ (i:Nat) oi d,ops[i]?=some oi->i≠j->oi.dst=some d->oj.dst≠some d/\(d∈CH ops.toList oj->(i<j->Region.waitsFor .any ops j i=true)/\(j<i->Region.waitsFor .any ops i j=true))):=by
 unfold Mn at h;simp only[Jl0]at h;obtain⟨⟨⟨⟨h1,hbx⟩,hbm⟩,hx⟩,h2⟩:=h;have hz:∀ (j:Nat) oj,ops[j]?=some oj->(oj,j)∈ops.toList.zipIdx:=λ j oj hj=>by
  rw[List.mem_zipIdx_iff_getElem?];simpa using hj
 refine⟨⟨Jme h1,Jme hbx,Jme hbm⟩,λ o' ho'=>?_,λ j oj hj=>?_⟩
 ·rw[ho']at hx;exact hx
 have h3:=JlJ.1 h2 _ (hz j oj hj);simp only[Jl0]at h3;obtain⟨⟨⟨h3,h4⟩,h5⟩,h6⟩:=h3;refine⟨λ e he hb=>?_,λ hbj hjm=>?_,λ hbj hmj=>?_,λ k b hg=>?_,λ i oi d hi hne hd=>?_⟩
 ·have:=Array.all_eq_true_iff_forall_mem.1 h3 e (by simpa using he);rw[hb,JlM,Bool.false_or]at this;exact of_decide_eq_true this
 ·have hb:Nat.blt j m=true:=Nat.ble_eq_true_of_le hjm;have hb0:Nat.blt j b=false:=by
   cases hb:Nat.blt j b with
   | false=>rfl
   | true=>have:=Jme hb;omega
  rw[hb0,Bool.false_or,hb,cond_true,Jl0]at h4;refine⟨Ck _ _ _ h4.1,?_,λ hc=>?_⟩
  ·cases hjx:Nat.beq j x with
   | true=>rw[hjx,cond_true]at h4;exact .inr (.inl h4.2)
   | false=>
    rw[hjx,cond_false,Jmi,Jl0]at h4;rcases h4.2 with h5|h5
    ·exact .inl h5
    ·exact .inr (.inr ⟨Jl6 h5.1,h5.2⟩)
  ·cases hjx:Nat.beq j x with
   | true=>exact Jl6 hjx
   | false=>
    rw[hjx,cond_false,Jmi,Jl0]at h4;rcases h4.2 with h5|h5
    ·exact(Ko hc h5).elim
    ·have h6:=h5.2;unfold alB at h6;revert h6;cases hop:oj.op<;>intro h6<;>first|(cases h6;done)|(rw[hop]at hc;cases hc)
 ·have hb:Nat.blt j m=false:=by
   cases hb:Nat.blt j m with
   | false=>rfl
   | true=>have:=Jme hb;omega
  have hb0:Nat.blt j b=false:=by
   cases hb:Nat.blt j b with
   | false=>rfl
   | true=>have:=Jme hb;omega
  rw[hb0,Bool.false_or,hb,cond_false,Jmi]at h4;rcases h4 with h4|h4
  ·have:=Jl6 h4;omega
  ·exact Ck _ _ _ h4
 ·rw[hg]at h5;exact of_decide_eq_true h5
 ·have h7:=JlJ.1 h6 _ (hz i oi hi);simp only[Jmi,beq_iff_eq]at h7;rcases h7 with h7|h7
  ·exact absurd h7 hne
  rw[hd]at h7;simp only[Jl0,bne_iff_ne,ne_eq,Jmi,Bool.not_eq_true']at h7;refine⟨h7.1,λ hm=>?_⟩;have h8:=h7.2;rw[List.contains_iff_mem.2 hm]at h8;rcases h8 with h8|h8
  ·cases h8
  refine⟨λ hlt=>?_,λ hlt=>?_⟩
  ·rw[decide_eq_true hlt,cond_true]at h8;exact h8
  ·rw[decide_eq_false (by omega),cond_false]at h8;exact h8
theorem Sv (env:List (Nat×AV)):∃ B,∀ t,B<=t->lkA env t=.top:=by
 induction env with
 | nil=>exact⟨0,λ t _=>rfl⟩
 | cons p env ih=>
  obtain⟨B,hB⟩:=ih;obtain⟨k,v⟩:=p;refine⟨B+k+1,λ t ht=>?_⟩;rw[Bi,if_neg (by omega)];exact hB t (by omega)
theorem Wy (S:Nat->St):∀ n,∃ B,∀ i,i<=n->∀ t,B<=t->lkA (S i).env t=.top:=by
 intro n;induction n with
 | zero=>
  obtain⟨B,hB⟩:=Sv (S 0).env;refine⟨B,λ i hi t ht=>?_⟩;have:i=0:=by omega
  subst this;exact hB t ht
 | succ n ih=>
  obtain⟨B,hB⟩:=ih;obtain⟨B',hB'⟩:=Sv (S (n+1)).env;refine⟨B+B',λ i hi t ht=>?_⟩;by_cases e:i=n+1
  ·subst e;exact hB' t (by omega)
  ·exact hB i (by omega) t (by omega)
theorem Jdm (f:Nat->AV) (B:Nat) (hf:∀ t,B<=t->f t=.top) (t:Nat):lkA ((List.range B).map λ t=>(t,f t)) t=f t:=by
 have key:∀ (l:List Nat),lkA (l.map λ t=>(t,f t)) t=if t∈l then f t else .top:=by
  intro l;induction l with
  | nil=>rfl
  | cons x l ih=>
   rw[JlV,Bi,ih];by_cases e:x=t
   ·subst e;simp
   ·rw[if_neg e];simp[Ne.symm e]
 rw[key];split
 ·rfl
 ·rename_i h;rw[List.mem_range]at h;exact(hf t (by omega)).symm
theorem Jdn {Fc:Fence} {n:Nat} {o:Oper} {a:Act} {w:World} {K:Act->World->Prop} {Q:Exit->Act->World->Prop} (h:o.wpIn Fc n P a w K Q):o.wpIn Fc n P a w (λ a' w'=>K a' w'/\∀ t,o.dst≠some t->a'.tmps.getD t undef=a.tmps.getD t undef) Q:=by
 have hp:∀ (b:Act) (v:Value),b.tmps=a.tmps->∀ t,o.dst≠some t->(b.put o.dst v).tmps.getD t undef=a.tmps.getD t undef:=λ b v hb t ht=>by
  rw[← hb];cases hd:o.dst with
  | none=>rfl
  | some d=>
   have hne:d≠t:=λ e=>ht (by rw[hd,e]);rw[Jl5,Jl5];simp only[Act.put];rw[JlQ hne]
 unfold Oper.wpIn at h⊢;refine⟨h.1,?_⟩;have h:=h.2;generalize (o.semAt Fc.round a.eval).run P w=r at h⊢;cases r with
 | ok x w'=>
  cases x with
  | value u=>exact⟨h,hp a u rfl⟩
  | skip=>exact⟨h,hp a undef rfl⟩
  | defer q=>exact⟨h,hp { a with defers:=q::a.defers } undef rfl⟩
  | enter f args=>
   refine⟨h.1,CallsIn.mono h.2 λ e w'' he=>?_⟩;cases e with
   | returned u=>exact⟨he,hp a u rfl⟩
   | panicked c=>exact he
   | outgrown=>exact he
  | row row args=>exact⟨h.1,RowsIn.mono h.2 λ u w'' he=>⟨he,hp a u rfl⟩⟩
  | round l f tmps assign body=>
   refine⟨h.1,RoundIn.mono h.2 λ e w'' he=>?_⟩;cases e with
   | returned u=>exact⟨he,hp a u rfl⟩
   | panicked c=>exact he
   | outgrown=>exact he
  | _=>exact h
 | halt x w'=>
  cases x with
  | panic u=>exact h
  | _=>exact h
theorem Sim.beside {h:Array Obj} (hS:Sim N H0 F0 F ρ O h) (x:Obj):Sim (λ b=>N b/\b≠h.size) (λ b=>if b=h.size then some x else H0 b) F0 F ρ O (h.push x):=by
 have hlt:∀ b o,F b=some o->b<h.size:=λ b o hb=>Av (hS.frz b o hb);obtain⟨σ,hσ⟩:=hS.inn;refine { size:=λ b hb=>⟨hS.size b (by simp at hb;omega),by simp at hb;omega⟩,old:=λ b hb=>?_,f0:=hS.f0,fnew:=λ b o hb hn=>hS.fnew b o hb λ hN=>hn ⟨hN,by have:=hlt b o hb;omega⟩,frz:=λ b o hb=>by rw[Cy (hlt b o hb)];exact hS.frz b o hb,loc:=λ k L hk=>by have:=hS.loc k L hk;simp;omega,dom:=hS.dom,obj:=λ k L ob hk hob=>?_,sep:=hS.sep,inn:=⟨σ,λ k c M hM=>?_,hσ.obj,hσ.sep,λ k L ob0 sz es hk ho hr0 i e j isz xs hi hj o1 v hb hv=>?_⟩ }
 ·by_cases e:b=h.size
  ·subst e;simp
  ·rw[if_neg e];have hn:¬N b:=λ hN=>hb ⟨hN,e⟩;rw[Cy (hS.lt_size hn)];exact hS.old b hn
 ·obtain⟨h1,h2,h3⟩:=hS.obj k L ob hk hob;have hL:=hS.loc k L hk;exact⟨h1.mono (FLe.refl _) (RLe.refl _) (Cy hL),⟨h2,by omega⟩,h3⟩
 ·obtain⟨g1,g2,g3⟩:=hσ.new k c M hM;exact⟨⟨g1,by omega⟩,by simp;omega,g3⟩
 ·rw[Cy (hS.loc k L hk)]at hb;exact(hσ.rep k L ob0 sz es hk ho hr0 i e j isz xs hi hj o1 v hb hv).mono (FLe.refl _) λ L' hL'=>Cy (hσ.new k _ L' hL').2.1
theorem Sim.beside_in {h:Array Obj} {b0:Nat} {cs:Array Value} {t:TypeId} {cells:List AV} (hS:Sim (λ b=>N b/\b≠b0) (λ b=>if b=b0 then some (.cells cs t)else H0 b) F0 F ρ O h) (hN:N b0) (hF:F0 b0=none) (hb:b0<h.size) (hc:CR F ρ cells cs.toList) :
  RLe ρ (upR ρ O.length ⟨b0,0,cells.length⟩)/\Sim N H0 F0 F (upR ρ O.length ⟨b0,0,cells.length⟩) (O++[some (.box cells)]) h:=by
 have hfr:ρ O.length=none:=by
  cases hr:ρ O.length with
  | none=>rfl
  | some L=>have:=hS.dom _ L hr;omega
 have hle:RLe ρ (upR ρ O.length ⟨b0,0,cells.length⟩):=Dp hfr;have hb0:h[b0]?=some (.cells cs t):=by
  rw[hS.old b0 λ hh=>hh.2 rfl,if_pos rfl]
 have hFb:F b0=none:=by
  cases hf:F b0 with
  | none=>rfl
  | some o=>have:=hS.fnew b0 o hf λ hh=>hh.2 rfl;rw[hF]at this;cases this
 have hold:∀ k L ob,k≠O.length->upR ρ O.length ⟨b0,0,cells.length⟩ k=some L->obA (O++[some (.box cells)]) k=some ob->ρ k=some L/\obA O k=some ob:=λ k L ob hk hL ho=>by
  rw[Bj hk]at hL;have:=hS.dom k L hL;rw[AM,if_pos this]at ho;exact⟨hL,ho⟩
 have hnew:∀ ob,obA (O++[some (.box cells)]) O.length=some ob->ob=.box cells:=λ ob ho=>by
  rw[AM,if_neg (by omega)]at ho;simp[obA]at ho;exact ho.symm
 have hlen:cells.length=cs.size:=by have:=hc.1;simpa using this
 obtain⟨σ,hσ⟩:=hS.inn;refine⟨hle,{ size:=λ b hb=>(hS.size b hb).1,old:=λ b hn=>?_,f0:=hS.f0,fnew:=λ b o hb hn=>hS.fnew b o hb λ hh=>hn hh.1,frz:=hS.frz,loc:=λ k L hk=>?_,dom:=λ k L hk=>?_,obj:=λ k L ob hk ho=>?_,sep:=λ k k' L L' ob ob' hk hk' ho ho' hne=>?_,inn:=⟨σ,λ k c M hM=>?_,λ k c M k' L ob hM hk' ho=>?_,hσ.sep,λ k L ob0 sz es hk ho hr0 i e j isz xs hi hj o1 v hb hv=>?_⟩ }⟩
 ·have:=hS.old b λ hh=>hn hh.1;rwa[if_neg (λ e=>by subst e;exact hn hN)]at this
 ·by_cases e:k=O.length
  ·subst e;rw[AP]at hk;cases hk;exact hb
  ·rw[Bj e]at hk;exact hS.loc k L hk
 ·by_cases e:k=O.length
  ·subst e;simp
  ·rw[Bj e]at hk;have:=hS.dom k L hk;simp;omega
 ·by_cases e:k=O.length
  ·subst e;rw[AP]at hk;cases hk;rw[hnew ob ho];refine⟨⟨rfl,rfl,cs,t,(0,0),hb0,hlen.symm,PJ _,λ i a v ha hv=>(hc.2 i a v ha (by simpa using hv)).mono (FLe.refl _) hle⟩,hN,hFb⟩
  ·obtain⟨h1,h2⟩:=hold k L ob e hk ho;obtain⟨g1,g2,g3⟩:=hS.obj k L ob h1 h2;exact⟨g1.mono (FLe.refl _) hle rfl,g2.1,g3⟩
 ·by_cases e:k=O.length
  ·subst e;rw[AP]at hk;cases hk;obtain⟨h1,h2⟩:=hold k' L' ob' (Ne.symm hne) hk' ho';exact λ hh=>(hS.obj k' L' ob' h1 h2).2.1.2 hh.symm
  ·obtain⟨h1,h2⟩:=hold k L ob e hk ho;by_cases e':k'=O.length
   ·subst e';rw[AP]at hk';cases hk';exact(hS.obj k L ob h1 h2).2.1.2
   ·obtain⟨h1',h2'⟩:=hold k' L' ob' e' hk' ho';exact hS.sep k k' L L' ob ob' h1 h1' h2 h2' hne
 ·obtain⟨g1,g2,g3⟩:=hσ.new k c M hM;exact⟨g1.1,g2,g3⟩
 ·by_cases e:k'=O.length
  ·subst e;rw[AP]at hk';cases hk';exact λ hh=>(hσ.new k c M hM).1.2 hh.symm
  ·obtain⟨h1,h2⟩:=hold k' L ob e hk' ho;exact hσ.obj k c M k' L ob hM h1 h2
 ·by_cases e:k=O.length
  ·subst e;rw[hnew ob0 ho]at hr0;cases hr0
  ·obtain⟨h1,h2⟩:=hold k L ob0 e hk ho;exact hσ.rep k L ob0 sz es h1 h2 hr0 i _ j isz xs hi hj o1 v hb hv
theorem Ji5 (ops:Array Oper) (b m:Nat):(yM ops b m=m/\∀ o,b<=m-1->0<m->ops[m-1]?=some o->alB o=false)\/(yM ops b m+1=m/\b<=yM ops b m/\∃ o,ops[yM ops b m]?=some o/\alB o=true):=by
 cases m with
 | zero=>exact .inl ⟨rfl,λ o _ h=>absurd h (Nat.lt_irrefl 0)⟩
 | succ k=>
  rw[show k+1-1=k by omega];cases hb:Nat.ble b k with
  | false=>
   refine .inl ⟨by simp only[yM,hb,Bool.false_and,cond_false],λ o h=>?_⟩;have:=Nat.ble_eq_true_of_le h;rw[hb]at this;cases this
  | true=>
   cases ho:ops[k]? with
   | none=>exact .inl ⟨by simp only[yM,hb,ho,Bool.and_false,cond_false],λ o _ _ h=>by cases h⟩
   | some o=>
    cases ha:alB o with
    | false=>exact .inl ⟨by simp only[yM,hb,ho,ha,Bool.and_false,cond_false],λ o' _ _ h=>by cases h;exact ha⟩
    | true=>
     have e:yM ops b (k+1)=k:=by simp only[yM,hb,ho,ha,Bool.and_self,cond_true]
     rw[e];exact .inr ⟨rfl,Jme hb,o,ho,ha⟩
def NwX (N:Nat->Prop) (H0 F0:Nat->Option Obj) (T:Nat->Ty) (ops:Array Oper) (m y:Nat) (listed:Array Bool) (a:Act) (w:World) (N':Nat->Prop) (H0':Nat->Option Obj):Prop:=
 (listed.getD y false=false/\N'=N/\H0'=H0)\/(listed.getD y false=true/\y<m/\∃ (b0:Nat) (oy:Oper) (d:Tmp) (cs:Array Value) (t:TypeId),ops[y]?=some oy/\oy.dst=some d/\oy.op=.alloc t/\N'=(λ b=>N b/\b≠b0)/\H0'=(λ b=>if b=b0 then some (.cells cs t)else H0 b)/\N b0/\F0 b0=none/\b0<w.heap.size/\a.tmps.getD d undef=.pointer (some ⟨b0,0,none⟩)/\∀ F ρ,CR F ρ ((T t).zero.map .d) cs.toList)
structure DX (N:Nat->Prop) (H0 F0:Nat->Option Obj) (w0:W0) (T:Nat->Ty) (nt:Slt) (ops:Array Oper) (b m x y:Nat) (S:Nat->St) (listed:Array Bool) (a:Act) (w:World):Prop where
 size:listed.size=ops.size
 closed:∀ (j:Nat) oj,ops[j]?=some oj->listed.getD j false=true->∀ e∈oj.after.toList,Region.binds .any e=true->listed.getD e.on false=true
 tsz:TS nt w0.kp a.tmps
 mu:Mu w0.w w
 last:∀ j,m<=j->listed.getD j false=false
 base:∀ j,j<b->listed.getD j false=true
 ex:∃ F ρ N' H0',NwX N H0 F0 T ops m y listed a w N' H0'/\(RK w0 nt ρ/\Dfr w0 nt F a.defers)/\Sim N' H0' F0 F ρ (if listed.getD x false=true then(S y).objs else(S b).objs) w.heap /\
  ∀ t,(∀ (i:Nat) o,b<=i->i<y->ops[i]?=some o->o.dst=some t->listed.getD i false=true->Ak F ρ (lkA (S (i+1)).env t) (a.tmps.getD t undef))/\((∀ (i:Nat) o,b<=i->i<m->ops[i]?=some o->o.dst=some t->listed.getD i false=false)->Ak F ρ (lkA (S b).env t) (a.tmps.getD t undef))
theorem Z9 {Γ:Cx} (hΓ:Gv P Γ) (rd:Option Nat) (hqr:Γ.nt.qf≠[]->rd=none) (n:Nat) {ops:Array Oper} {b x m:Nat} {Q:St->Prop} {st:St} {a:Act} (hB:Mn ops b x m=true)
  (h:HR (cxX Γ ops x) false (ops.toList.take m) ((ops.toList.take m).drop b) (λ s=>Jfh Γ.ty ops b x m st.env s.env st.objs (bif Nat.blt (yM ops b m) m then s.objs.dropLast else s.objs)/\∃ F,ops[m]?=some F/\A1 Γ false ops.toList F Q s) st) (hI:Inv N H0 F0 w0 Γ.nt st a w)
  {Qw:Exit->Act->World->Prop} {listed0:Array Bool} (hs0:listed0.size=ops.size) (hl0:∀ k,k<b->listed0.getD k false=true) (hl1:∀ k,b<=k->listed0.getD k false=false)
  (hQ:∀ st' a' w' (listed':Array Bool) (fuel:Nat),Q st'->Inv N H0 F0 w0 Γ.nt st' a' w'->listed'.size=ops.size->(∀ k,k<m+1->listed'.getD k false=true)->(∀ k,m+1<=k->listed'.getD k false=false)->m+1+fuel=ops.size->wpAnyIn (GF rd) n P .any ops Qw fuel listed' a' w') :
  wpAnyIn (GF rd) n P .any ops Qw (ops.size-b) listed0 a w:=by
 obtain⟨S',h0',hst',hend⟩:=F7 _ _ _ h;obtain⟨⟨hn1,hbx,hbm⟩,hxc,hops⟩:=NR hB;have hlen:((ops.toList.take m).drop b).length=m-b:=by rw[List.length_drop,List.length_take];simp;omega
 rw[hlen]at hend;obtain⟨hlds,Fo,hF,hFs⟩:=hend;obtain⟨S,hSd⟩:∃ S:Nat->St,S=λ i=>S' (i-b):=⟨_,rfl⟩;have h0:S b=st:=by rw[hSd];simpa using h0'
 have hSm:S m=S' (m-b):=by rw[hSd]
 rw[← hSm]at hlds hFs;have hget:∀ (i:Nat) o,i<m->ops[i]?=some o->(ops.toList.take m)[i]?=some o:=λ i o hi ho=>by
  rw[Jmj hi];simpa using ho
 have hst:∀ (i:Nat) o,b<=i->i<m->ops[i]?=some o->A1 (cxX Γ ops x) false (ops.toList.take m) o (λ z=>z=S (i+1)) (S i):=λ i o hbi hi ho=>by
  have:=hst' (i-b) o (by rw[JlS,show b+(i-b)=i by omega];exact hget i o hi ho);rw[hSd];show A1 _ _ _ o (λ z=>z=S' (i+1-b)) (S' (i-b));rw[show i+1-b=i-b+1 by omega];exact this
 obtain⟨y,hyd⟩:∃ y,y=yM ops b m:=⟨_,rfl⟩;rw[← hyd]at hlds;have hyc:(y=m/\∀ o,b<=m-1->0<m->ops[m-1]?=some o->alB o=false)\/(y+1=m/\b<=y/\∃ o,ops[y]?=some o/\alB o=true):=by rw[hyd];exact Ji5 ops b m
 have hby:b<=y:=by rcases hyc with h|h<;>omega
 have hym:y<=m:=by rcases hyc with h|h<;>omega
 have hqc:∀ (i:Nat) o,b<=i->i<y->ops[i]?=some o->HA o.op=true\/Ez o.op=true:=λ i o hbi hi ho=>by
  rcases ((hops i o ho).2.1 hbi (by omega)).2.1 with h|h|⟨h,h'⟩
  ·exact .inl h
  ·exact .inr h
  ·exfalso;rcases hyc with⟨q1,q2⟩|⟨q1,_⟩
   ·have:=q2 o (by omega) (by omega) (by rw[show m-1=i by omega];exact ho);rw[this]at h';cases h'
   ·omega
 have hxy:x<m->x<y:=λ hx=>by
  rcases hyc with⟨q1,_⟩|⟨q1,q2,o,q3,q4⟩
  ·omega
  ·have:x≠y:=λ e=>by
    subst e;have:=hxc o q3;unfold alB at q4;revert q4;cases hop:o.op<;>intro q4<;>first|(cases q4;done)|(rw[hop]at this;cases this)
   omega
 have hcf:∀ (i:Nat) o,b<=i->i<y->ops[i]?=some o->∃ g v,Z6 P Γ ops m x i o (S i) (S (i+1)) g v:=λ i o hbi hi ho=>
  Wx (hqc i o hbi hi ho) hxc (hst i o hbi (by omega) ho)
 have hal:y<m->∃ oy d t,ops[y]?=some oy/\oy.dst=some d/\oy.op=.alloc t/\oy.guard=none/\(Γ.ty t).ok=true/\BE Γ.nt (some d)=true/\(S m).env=(d,.ptr (S y).objs.length 0)::(S y).env/\(S m).objs=(S y).objs++[some (.box ((Γ.ty t).zero.map .d))]:=λ hlt=>by
  rcases hyc with⟨q1,_⟩|⟨q1,q2,o,q3,q4⟩
  ·omega
  ·have hs:=hst y o q2 (by omega) q3;rw[q1]at hs;unfold alB at q4;simp only[Jl0,Option.isNone_iff_eq_none,Option.isSome_iff_exists]at q4;obtain⟨⟨a1,a2⟩,d,a3⟩:=q4;cases hop:o.op with
   | alloc t=>
    unfold A1 at hs;rw[a2]at hs;simp only[Bw]at hs;cases hdst:BE Γ.nt o.dst with
    | false=>rw[show(cxX Γ ops x).nt=Γ.nt from rfl,hdst]at hs;exact hs.elim
    | true=>
     rw[show(cxX Γ ops x).nt=Γ.nt from rfl,hdst,JlM,cond_false]at hs;rcases hs.1 trivial with h|h|h
     ·unfold stepG at h;simp only[hop,opA]at h;cases hok:(Γ.ty t).ok with
      | false=>rw[show(cxX Γ ops x).ty=Γ.ty from rfl,hok]at h;exact h.elim
      | true=>
       rw[show(cxX Γ ops x).ty=Γ.ty from rfl,hok,cond_true]at h;obtain⟨_,_,h3⟩:=h;have h3:DV o.dst o.guard.isSome true ⟨.ptr (S y).objs.length 0,[.box ((Γ.ty t).zero.map .d)],[],none,True⟩ (S y)=S m:=by simpa [a2]using h3
       refine⟨o,d,t,q3,a3,hop,a2,hok,by rw[← a3];exact hdst,?_,?_⟩
       ·rw[← h3,a3];simp[DV,putA,a2]
       ·rw[← h3];simp[DV,rmA,BG]
     ·unfold Fg opF at h;rw[hop]at h;exact h.elim
     ·obtain⟨_,⟨st',h1,_⟩|⟨_,h|h⟩⟩:=h
      ·have:=hxc o h1.1;rw[hop]at this;cases this
      ·unfold opK at h;rw[hop]at h;exact h.elim
      ·rw[hop]at h;exact h.elim
   | _=>rw[hop]at a1;cases a1
 have env_trk:∀ j,b<=j->j<=y->∀ t,(∃ i o,b<=i/\i<j/\ops[i]?=some o/\o.dst=some t/\lkA (S j).env t=lkA (S (i+1)).env t)\/((∀ i o,b<=i->i<j->ops[i]?=some o->o.dst≠some t)/\lkA (S j).env t=lkA (S b).env t):=by
  intro j hbj;induction hbj with
  | refl=>intro _ t;exact .inr ⟨λ i o hbi hi=>by omega,rfl⟩
  | @step j hbj ih=>
   intro hj t;have hbj:b<=j:=hbj;have hoj:=Jl4 (show j<ops.size by omega);obtain⟨g,v,hc⟩:=hcf j _ hbj (by omega) hoj;by_cases hd:(ops[j]).dst=some t
   ·exact .inl ⟨j,_,hbj,by omega,hoj,hd,rfl⟩
   ·have hlk:lkA (S (j+1)).env t=lkA (S j).env t:=by
     rw[hc.env];cases hdd:(ops[j]).dst with
     | none=>rfl
     | some d=>
      simp only[putA];rw[Bi,if_neg];intro e;subst e;exact hd hdd
    rcases ih (by omega) t with⟨i,o,hbi,h1,h2,h3,h4⟩|⟨h1,h2⟩
    ·exact .inl ⟨i,o,hbi,by omega,h2,h3,by rw[Nat.succ_eq_add_one,hlk,h4]⟩
    ·refine .inr ⟨λ i o hbi hi ho=>?_,by rw[Nat.succ_eq_add_one,hlk,h2]⟩;by_cases e:i=j
     ·subst e;rw[hoj]at ho;cases ho;exact hd
     ·exact h1 i o hbi (by omega) ho
 have hdd:∀ (i j:Nat) oi oj d,ops[i]?=some oi->ops[j]?=some oj->i≠j->oi.dst=some d->oj.dst≠some d:=λ i j oi oj d hi hj hne hd=>((hops j oj hj).2.2.2.2 i oi d hi hne hd).1;have env_m:∀ t,(∀ oy,y<m->ops[y]?=some oy->oy.dst≠some t)->lkA (S m).env t=lkA (S y).env t:=λ t ht=>by
  rcases JlP y m with h|h
  ·obtain⟨oy,d,ty,q1,q2,_,_,_,_,q3,_⟩:=hal h;rw[q3,Bi,if_neg];intro e;subst e;exact ht oy h q1 q2
  ·rw[show y=m by omega]
 have hval:∀ (i:Nat),b<=i->i<=y->∀ z,PB ops.toList (S b).env (S m).env i z=Al (S i).env z:=by
  intro i hbi hi z;cases z with
  | tmp t=>
   simp only[PB,Al];cases hany:(ops.toList.take i).any (λ o=>match o.dst with|some d=>Nat.beq d t|none=>false)with
   | true=>
    rw[cond_true];rw[List.any_eq_true]at hany;obtain⟨o,ho,hot⟩:=hany;obtain⟨j,hj⟩:=List.getElem?_of_mem ho;have hji:j<i:=by have:=Af hj;simp at this;omega
    rw[Jmj hji]at hj;have hoj:ops[j]?=some o:=by simpa using hj
    have hdt:o.dst=some t:=by
     cases hdo:o.dst with
     | none=>rw[hdo]at hot;cases hot
     | some d=>rw[hdo]at hot;rw[Jl6 hot]
    have hem:lkA (S m).env t=lkA (S y).env t:=env_m t λ oy hlt hoy=>(hdd j y o oy t hoj hoy (by omega) hdt);rw[hem];rcases JlP j b with hjb|hbj
    ·have one:∀ q,b<=q->q<=y->lkA (S q).env t=lkA (S b).env t:=λ q h1 h2=>by
      rcases env_trk q h1 h2 t with⟨k,ok',q0,q1,q2,q3,q4⟩|⟨_,q2⟩
      ·exact absurd q3 (hdd j k o ok' t hoj q2 (by omega) hdt)
      ·exact q2
     rw[one i hbi hi,one y hby (JlO _)]
    ·have one:∀ q,j<q->q<=y->lkA (S q).env t=lkA (S (j+1)).env t:=λ q h1 h2=>by
      rcases env_trk q (by omega) h2 t with⟨k,ok',q0,q1,q2,q3,q4⟩|⟨q1,_⟩
      ·by_cases hkj:k=j
       ·rw[q4,hkj]
       ·exact absurd q3 (hdd j k o ok' t hoj q2 (Ne.symm hkj) hdt)
      ·exact absurd hdt (q1 j o hbj h1 hoj)
     rw[one i hji hi,one y (by omega) (JlO _)]
   | false=>
    rw[cond_false];rcases env_trk i hbi hi t with⟨k,ok',q0,q1,q2,q3,q4⟩|⟨_,q2⟩
    ·exfalso;rw[List.any_eq_false]at hany;refine hany ok' ?_ ?_
     ·apply Jl1 (i:=k);rw[Jmj q1];simpa using q2
     ·simp[q3]
    ·rw[q2]
  | _=>rfl
 have grow:∀ d i,b<=i->i+d<=y->(i+d<=x\/x<i)->∃ obs:List Ob,(S (i+d)).objs=(S i).objs++obs.map some:=by
  intro d;induction d with
  | zero=>intro i _ _ _;exact⟨[],by simp⟩
  | succ d ih=>
   intro i hbi hi hx;obtain⟨obs,ho⟩:=ih i hbi (by omega) (by omega);have hoi:=Jl4 (show i+d<ops.size by omega);obtain⟨g,v,hc⟩:=hcf (i+d) _ (by omega) (by omega) hoi;have hq:HA (ops[i+d]).op=true:=by
    rcases hqc (i+d) _ (by omega) (by omega) hoi with h1|h1
    ·exact h1
    ·have:=((hops (i+d) _ hoi).2.1 (by omega) (by omega)).2.2 h1;omega
   obtain⟨obs',ho'⟩:=(hc.quiet hq).1;exact⟨obs++obs',by rw[← JlT,ho',ho,List.map_append,List.append_assoc]⟩
 have hnox:y<=x->∃ obs:List Ob,(S y).objs=(S b).objs++obs.map some:=λ hx=>by
  have:=grow (y-b) b (JlO _) (by omega) (.inl (by omega));rwa[show b+(y-b)=y by omega]at this
 have hdl:(bif Nat.blt y m then(S m).objs.dropLast else(S m).objs)=(S y).objs:=by
  cases hb:Nat.blt y m with
  | true=>
   obtain⟨_,_,_,_,_,_,_,_,_,_,q⟩:=hal (Jme hb);rw[cond_true,q,List.dropLast_concat]
  | false=>
   have:y=m:=by
    rcases JlP y m with h|h
    ·have:=Nat.ble_eq_true_of_le h;rw[show Nat.ble (y+1) m=Nat.blt y m from rfl,hb]at this;cases this
    ·omega
   rw[cond_false,this]
 rw[hdl]at hlds;obtain⟨B,hBd⟩:=Wy S m;have hload:∀ (i:Nat) o t p,b<=i->i<y->exX ops b x m i=false->ops[i]?=some o->o.op=.load t p->(Γ.ty t).ok=true->∃ (v:AV) (o0 om:Prop),o0/\om/\opA Γ.ty (λ y=>unG (Al (S i).env y)) (S b).objs (.load t p)=some ⟨v,[],[],none,o0⟩/\opA Γ.ty (λ y=>unG (Al (S i).env y)) (S y).objs (.load t p)=some ⟨v,[],[],none,om⟩:=by
  intro i o t p hbi hi hix ho hop hok;obtain⟨h1,h2⟩:=hlds;rw[← h0]at h1 h2;have hz:(ldL Γ.ty ops b x m (S b).env (S m).env (S b).objs)[i]?=some (ldX (Γ.ty t) (S b).objs (unG (Al (S i).env p))):=by
   unfold ldL;rw[Jl3,List.getElem?_zipIdx,hget i o (by omega) ho];simp[hop,hix,hval i hbi (by omega) p]
  have hz':(ldL Γ.ty ops b x m (S b).env (S m).env (S y).objs)[i]?=some (ldX (Γ.ty t) (S y).objs (unG (Al (S i).env p))):=by
   unfold ldL;rw[Jl3,List.getElem?_zipIdx,hget i o (by omega) ho];simp[hop,hix,hval i hbi (by omega) p]
  have hsome:=JlJ.1 h2 _ (Jl1 hz);cases hv:ldX (Γ.ty t) (S b).objs (unG (Al (S i).env p))with
  | none=>rw[hv]at hsome;cases hsome
  | some v=>
   rw[h1,hz',hv]at hz;obtain⟨o0,e1,e2⟩:=Z7 (a:=p) (ev:=λ y=>unG (Al (S i).env y)) hok hv;obtain⟨om,f1,f2⟩:=Z7 (a:=p) (ev:=λ y=>unG (Al (S i).env y)) hok (Option.some.inj hz);exact⟨v,o0,om,e1,f1,e2,f2⟩
 have hfin:∀ listed a w,DX N H0 F0 w0 Γ.ty Γ.nt ops b m x y S listed a w->(∀ k,k<m->listed.getD k false=true)->Inv N H0 F0 w0 Γ.nt (S m) a w:=by
  intro listed a w hD hl;obtain⟨F,ρ,N',H0',hnw,hrk,hS,hsl⟩:=hD.ex;have hSy:Sim N' H0' F0 F ρ (S y).objs w.heap:=by
   by_cases hx:x<m
   ·rw[if_pos (hl x hx)]at hS;exact hS
   ·obtain⟨obs,ho⟩:=hnox (by omega);split at hS
    ·exact hS
    ·rw[ho];exact hS.grow _
  have hslots:∀ t,(∀ oy,y<m->ops[y]?=some oy->oy.dst≠some t)->Ak F ρ (lkA (S y).env t) (a.tmps.getD t undef):=λ t hne=>by
   rcases env_trk y hby (JlO _) t with⟨i,o,h0,h1,h2,h3,h4⟩|⟨h1,h2⟩
   ·rw[h4];exact(hsl t).1 i o h0 h1 h2 h3 (hl i (by omega))
   ·rw[h2];exact(hsl t).2 λ i o hbi hi ho hd=>by
     rcases JlP i y with h|h
     ·exact absurd hd (h1 i o hbi h ho)
     ·have:i=y:=by rcases hyc with⟨q,_⟩|⟨q,_⟩<;>omega
      subst this;exact absurd hd (hne o hi ho)
  rcases hnw with⟨q1,rfl,rfl⟩|⟨q1,hlt,b0,oy,d,cs,ty,r1,r2,r3,rfl,rfl,r4,r5,r6,r7,r8⟩
  ·have hym':y=m:=by
    rcases JlP y m with h|h
    ·rw[hl y h]at q1;cases q1
    ·omega
   rw[← hym'];exact⟨F,ρ,hSy,λ t=>hslots t λ oy h=>by omega,hD.tsz,hrk.2,hD.mu,hrk.1⟩
  ·obtain⟨oy',d',ty',s1,s2,s3,_,_,_,s4,s5⟩:=hal hlt;rw[r1]at s1;cases s1;rw[r2]at s2;cases s2;rw[r3]at s3;cases s3;obtain⟨hle,hS2⟩:=hSy.beside_in r4 r5 r6 (r8 F ρ);refine⟨F,_,by rw[s5];exact hS2,λ t=>?_,hD.tsz,hrk.2,hD.mu,hrk.1.mono hle⟩;rw[s4,Bi];split
   ·rename_i e;subst e;rw[r7];exact .ptr (S y).objs.length 0 ⟨b0,0,_⟩ (AP _ _ _)
   ·rename_i e;exact(hslots t λ oy h ho hd=>by rw[r1]at ho;cases ho;rw[r2]at hd;cases hd;exact e rfl).mono (FLe.refl _) hle
 have main:∀ (fuel:Nat) (listed:Array Bool) (a:Act) (w:World),DX N H0 F0 w0 Γ.ty Γ.nt ops b m x y S listed a w->unl listed ops.size=fuel->wpAnyIn (GF rd) n P .any ops Qw fuel listed a w:=by
  intro fuel;induction fuel with
  | zero=>
   intro listed a w hD hu;have:=M1 ops.size hu m (by omega);have h2:=hD.last m (JlO _);rw[this]at h2;cases h2
  | succ fuel ih=>
   intro listed a w hD hu;have hall:Region.ready .any ops listed=[]->∀ k,k<ops.size->listed.getD k false=true:=by
    intro hr k;induction k using Nat.strongRecOn with
    | _ k ihk=>
     intro hk;cases hl:listed.getD k false with
     | true=>rfl
     | false=>
      have:k∈Region.ready .any ops listed:=by
       rw[mem_ready];refine⟨getD_in (by rw[hD.size];exact hk) hl,_,Jl4 hk,λ e he hb=>?_⟩;have hlt:=(hops k _ (Jl4 hk)).1 e (by simpa using he) hb;exact ihk e.on hlt (by omega)
      rw[hr]at this;cases this
   refine⟨λ hr=>?_,λ i hi=>?_⟩
   ·have:=hall hr m (by omega);have h2:=hD.last m (JlO _);rw[this]at h2;cases h2
   obtain⟨hun,o,ho,hedges⟩:=mem_ready.1 hi;have hui:=getD_both hun;have hio:=Av ho;have hidx:i<listed.size:=by rw[hD.size];exact hio
   have hdirect:∀ k,Region.waitsFor .any ops i k=true->listed.getD k false=true:=λ k hk=>by
    obtain⟨o',ho',e,he,hb,hon⟩:=Region.waitsFor_spec hk;rw[ho]at ho';cases ho';rw[← hon];exact hedges e he hb
   have hne:∀ k,k≠i->(listed.setIfInBounds i true).getD k false=listed.getD k false:=λ k hk=>by
    rw[Jl5,Jl5,JlQ (Ne.symm hk)]
   have heq:(listed.setIfInBounds i true).getD i false=true:=by simp[hidx]
   have hunl:=Pr hidx hui ops.size hio;unfold wpOpIn;rw[ho];simp only;have hbi:b<=i:=by
    rcases JlP i b with h|h
    ·rw[hD.base i h]at hui;cases hui
    ·exact h
   by_cases him:m<=i
   ·
    have him':i=m:=by
     rcases JlP m i with h|h
     ·have h3:=BJ hD.closed ((hops i o ho).2.2.1 hbi h) hdirect;rw[hD.last m (JlO _)]at h3;cases h3
     ·omega
    subst him';have hl:∀ k,k<i->listed.getD k false=true:=λ k hk=>by
     rcases JlP k b with h|h
     ·exact hD.base k h
     ·have hr:=((hops k _ (Jl4 (show k<ops.size by omega))).2.1 h (by omega)).1;exact BJ hD.closed hr hdirect
    have hI':=hfin listed a w hD hl;rw[hF]at ho;cases ho;refine PV hΓ rd hqr n (all:=ops) hFs hI' λ st' a' w' hq hI2=>?_;have hfz:i+1+fuel=ops.size:=by
     have key:∀ q,q<=ops.size->unl listed q=q-i:=by
      intro q;induction q with
      | zero=>intro _;simp[unl]
      | succ q ihq=>
       intro hq';simp only[unl];rw[ihq (by omega)];rcases JlP q i with h|h
       ·rw[if_pos (hl q h)];omega
       ·rw[if_neg (by rw[hD.last q h];simp)];omega
     have:=key ops.size (JlO _);omega
    refine hQ st' a' w' _ fuel hq hI2 (by simpa using hD.size) (λ q hq'=>?_) (λ q hq'=>?_) hfz
    ·by_cases e:q=i
     ·subst e;exact heq
     ·rw[hne q e];exact hl q (by omega)
    ·rw[hne q (by omega)];exact hD.last q (by omega)
   obtain⟨F,ρ,N',H0',hnw,hrk,hS,hsl⟩:=hD.ex;have hcl:∀ (j:Nat) oj,ops[j]?=some oj->(listed.setIfInBounds i true).getD j false=true->∀ e∈oj.after.toList,Region.binds .any e=true->(listed.setIfInBounds i true).getD e.on false=true:=λ j oj hj hl e he hb=>by
    by_cases hji:j=i
    ·subst hji;rw[ho]at hj;cases hj;have:=hedges e (by simpa using he) hb;by_cases hee:e.on=j
     ·rw[hee];exact heq
     ·rw[hne _ hee];exact this
    ·rw[hne j hji]at hl;have:=hD.closed j oj hj hl e he hb;by_cases hee:e.on=i
     ·rw[hee];exact heq
     ·rw[hne _ hee];exact this
   have hput0:∀ (v:Value) (t:Tmp),o.dst≠some t->(a.put o.dst v).tmps.getD t undef=a.tmps.getD t undef:=λ v t hdt=>by
    cases hde:o.dst with
    | none=>rfl
    | some d=>
     have hdne:d≠t:=λ e=>hdt (by rw[hde,e]);rw[Jl5,Jl5];simp only[Act.put];rw[JlQ hdne]
   by_cases hiy:y<=i
   ·
    have e:i=y:=by rcases hyc with⟨q,_⟩|⟨q,_⟩<;>omega
    obtain⟨oy,d,ty,s1,s2,s3,s4,s5,s6,_,_⟩:=hal (by omega);have hoy:o=oy:=by rw[e,s1]at ho;cases ho;rfl
    subst hoy;obtain⟨ii,z,hi1,his,hz,hzc⟩:=(hΓ.ty ty s5).info;have hw:Region.wanted o (yielded ops a.tmps)=true:=by simp[Region.wanted,s4]
    rw[hw,if_pos rfl];have hr:(execOp a.eval o).run P w=.ok (.value (.pointer (some ⟨w.heap.size,0,none⟩))) { w with heap:=w.heap.push (.cells z.cells ty) }:=by
     simp only[execOp,s3];exact Ec (by simp[Instr.alloc,BH w hi1 hz,newVar,newRow])
    refine C3 (λ c hc=>by rw[s3]at hc;cases hc) ?_;unfold Oper.wp;rw[hr,Oper.upon_value];have hnl:N'=N/\H0'=H0:=by
     rcases hnw with⟨_,h1,h2⟩|⟨h,_⟩
     ·exact⟨h1,h2⟩
     ·rw[← e,hui]at h;cases h
    obtain⟨rfl,rfl⟩:=hnl;have hxi:x≠i:=λ hh=>by have:=hxy (by omega);omega
    refine ih _ _ _ { size:=by simpa using hD.size,closed:=hcl,tsz:=hD.tsz.put (by rw[s2];exact s6),mu:=hD.mu.trans (Mu.push rfl rfl rfl),last:=λ j hj=>by rw[hne j (by omega)];exact hD.last j hj,base:=λ j hj=>by rw[hne j (by omega)];exact hD.base j hj,ex:=⟨F,ρ,_,_,.inr ⟨by rw[← e];exact heq,by omega,w.heap.size,o,d,z.cells,ty,s1,s2,s3,rfl,rfl,hS.size _ (JlO _),?_,by simp,?_,λ F1 ρ1=>?_⟩,⟨hrk.1,by rw[put_defers];exact hrk.2⟩,by rw[hne x hxi];exact hS.beside (.cells z.cells ty),λ t=>?_⟩ } (by omega)
    ·cases hf:F0 w.heap.size with
     | none=>rfl
     | some o'=>have:=Av (hS.frz _ _ (hS.f0 _ _ hf));omega
    ·rw[s2];have:d<a.tmps.size:=hD.tsz.lt s6;simp[Act.put,this]
    ·rw[hzc];refine⟨by simp,λ j a v ha hv=>?_⟩;simp only[Jl3,Jl2]at ha hv;obtain⟨x,hx,rfl⟩:=ha;obtain⟨x',hx',rfl⟩:=hv;rw[hx]at hx';cases hx';exact .d _ _ (Bo.val F1 (JlJ.1 (hΓ.ty ty s5).plain x (Jl1 hx)))
    ·refine⟨λ k ok' hbk hkm hk hd hl=>?_,λ hno=>?_⟩
     ·rw[hput0 _ t ((hdd k i ok' o t hk ho (by omega) hd)),];rw[hne k (by omega)]at hl;exact(hsl t).1 k ok' hbk hkm hk hd hl
     ·have hdt:o.dst≠some t:=λ hdt=>by
       have:=hno i o hbi (by omega) ho hdt;rw[heq]at this;cases this
      rw[hput0 _ t hdt];refine(hsl t).2 λ k ok' hbk hkm hk hd=>?_;have hki:k≠i:=λ e=>by subst e;rw[ho]at hk;cases hk;exact hdt hd
      have:=hno k ok' hbk hkm hk hd;rwa[hne k hki]at this
   have him:i<y:=by omega
   obtain⟨g,v0,hc⟩:=hcf i o hbi him ho;have hnw':∀ (a':Act) (w':World),(∀ b0,b0<w.heap.size->¬ N' b0->b0<w'.heap.size)->(∀ t,o.dst≠some t->a'.tmps.getD t undef=a.tmps.getD t undef)->NwX N H0 F0 Γ.ty ops m y (listed.setIfInBounds i true) a' w' N' H0':=λ a' w' hsz htm=>by
    rcases hnw with⟨q1,q2,q3⟩|⟨q1,hlt,b0,oy,d,cs,ty,r1,r2,r3,r0,r0',r4,r5,r6,r7,r8⟩
    ·exact .inl ⟨by rw[hne y (by omega)];exact q1,q2,q3⟩
    ·exact .inr ⟨by rw[hne y (by omega)];exact q1,hlt,b0,oy,d,cs,ty,r1,r2,r3,r0,r0',r4,r5,hsz b0 r6 (by rw[r0];exact λ h=>h.2 rfl),by rw[htm d (hdd y i oy o d r1 ho (by omega) r2)];exact r7,r8⟩
   have hrs:RS F ρ (S i).env a.tmps (CH ops.toList o):=by
    intro t ht;rcases env_trk i hbi (by omega) t with⟨k,ok',h0,h1,h2,h3,h4⟩|⟨h1,h2⟩
    ·rw[h4];refine(hsl t).1 k ok' h0 (by omega) h2 h3 (hdirect k ?_);exact(((hops i o ho).2.2.2.2 k ok' t h2 (by omega) h3).2 ht).1 h1
    ·rw[h2];refine(hsl t).2 λ k ok' hbk hkm hk hd=>?_;rcases Nat.lt_trichotomy k i with hlt|he|hgt
     ·exact absurd hd (h1 k ok' hbk hlt hk)
     ·rw[he];exact hui
     ·cases hl:listed.getD k false with
      | false=>rfl
      | true=>
       obtain⟨o',ho',e,he,hb,hon⟩:=Region.waitsFor_spec ((((hops i o ho).2.2.2.2 k ok' t hk (by omega) hd).2 ht).2 hgt);have:=hD.closed k o' ho' hl e (by simpa using he) hb;rw[hon,hui]at this;cases this
   have hSl:Cf F ρ (Ef (S i).env (CH ops.toList o)) a.tmps:=Jlu hrs;have hev:∀ y∈o.op.operands.toList,Ak F ρ (Al (S i).env y) (a.eval y):=λ y hy=>by
    have:=A5 hSl y;cases y with
    | tmp t=>
     simp only[Al]at this⊢;rw[Kk,if_pos (by unfold CH;exact List.mem_append_left _ (I7 hy))]at this;exact this
    | _=>exact this
   have hgd:Bw ops.toList (Ef (S i).env (CH ops.toList o)) o.guard=some g:=by
    have:=hc.gd;unfold Bw at this⊢;split at this
    ·exact this
    ·rename_i j want hg;have hj:=(hops i o ho).2.2.2.1 j want hg;have hoj:=Jl4 (show j<ops.size by omega);rw[hget j _ (by omega) hoj]at this;have hoj':ops.toList[j]?=some ops[j]:=by simp
     rw[hoj'];simp only at this⊢;split at this
     ·rename_i t ht;rw[ht];simp only;rw[Kk,if_pos (by unfold CH MO;rw[hg];simp only[hoj',ht];simp)];exact this
     ·cases this
   have hw:=Gu hSl hgd;rw[hw];have next:∀ (v:Value) (w':World) (F':Nat->Option Obj) (ρ':Nat->Option Loc),FLe F F'->RLe ρ ρ'->Sim N' H0' F0 F' ρ' (if(listed.setIfInBounds i true).getD x false=true then(S y).objs else(S b).objs) w'.heap->(∀ d,o.dst=some d->Ak F' ρ' (lkA (S (i+1)).env d) v)->Mu w w'->wpAnyIn (GF rd) n P .any ops Qw fuel (listed.setIfInBounds i true) (a.put o.dst v) w':=by
    intro v w' F' ρ' hF' hρ' hS' hv hmu;refine ih _ _ _ { size:=by simpa using hD.size,closed:=λ j oj hj hl e he hb=>?_,tsz:=hD.tsz.put hc.dst,mu:=hD.mu.trans hmu,last:=λ j hj=>by rw[hne j (by omega)];exact hD.last j hj,base:=λ j hj=>by rw[hne j (by omega)];exact hD.base j hj,ex:=⟨F',ρ',N',H0',hnw' _ w' (λ b0 h _=>Nat.lt_of_lt_of_le h hmu.size) (λ t ht=>hput0 v t ht),⟨hrk.1.mono hρ',by rw[put_defers];exact hrk.2.mono hF'⟩,hS',λ t=>?_⟩ } (by omega)
    ·by_cases hji:j=i
     ·subst hji;rw[ho]at hj;cases hj;have:=hedges e (by simpa using he) hb;by_cases hee:e.on=j
      ·rw[hee];exact heq
      ·rw[hne _ hee];exact this
     ·rw[hne j hji]at hl;have:=hD.closed j oj hj hl e he hb;by_cases hee:e.on=i
      ·rw[hee];exact heq
      ·rw[hne _ hee];exact this
    ·by_cases hdt:o.dst=some t
     ·have hvl:(a.put o.dst v).tmps.getD t undef=v:=by
       have hd:=hc.dst;rw[hdt]at hd⊢;have:t<a.tmps.size:=hD.tsz.lt hd;simp[Act.put,this]
      rw[hvl];refine⟨λ k ok' hbk hkm hk hd _=>?_,λ hno=>?_⟩
      ·by_cases hki:k=i
       ·subst hki;exact hv t hdt
       ·exact absurd hd (hdd i k o ok' t ho hk (Ne.symm hki) hdt)
      ·have:=hno i o hbi (by omega) ho hdt;rw[heq]at this;cases this
     ·have hvl:(a.put o.dst v).tmps.getD t undef=a.tmps.getD t undef:=by
       cases hde:o.dst with
       | none=>rfl
       | some d=>
        have hdne:d≠t:=λ e=>hdt (by rw[hde,e]);rw[Jl5,Jl5];simp only[Act.put];rw[JlQ hdne]
      rw[hvl];refine⟨λ k ok' hbk hkm hk hd hl=>?_,λ hno=>?_⟩
      ·have hki:k≠i:=λ e=>by subst e;rw[ho]at hk;cases hk;exact hdt hd
       rw[hne k hki]at hl;exact((hsl t).1 k ok' hbk (by omega) hk hd hl).mono hF' hρ'
      ·refine((hsl t).2 λ k ok' hbk hkm hk hd=>?_).mono hF' hρ';have hki:k≠i:=λ e=>by subst e;rw[ho]at hk;cases hk;exact hdt hd
       have:=hno k ok' hbk (by omega) hk hd;rwa[hne k hki]at this
   have hput:∀ (F':Nat->Option Obj) (ρ':Nat->Option Loc) (v:Value) d,o.dst=some d->Ak F' ρ' (bif o.guard.isSome then .gv g v0 else v0) v->Ak F' ρ' (lkA (S (i+1)).env d) v:=λ F' ρ' v d hd hv=>by
    rw[hc.env,hd];simp only[putA];rw[Bi,if_pos rfl];exact hv
   by_cases hix:i=x
   ·subst hix;have hcall:Ez o.op=true:=hxc o ho;rw[hui]at hS;simp only[Jmb,if_false]at hS;obtain⟨obs0,hobs0⟩:=grow (i-b) b (JlO _) (by omega) (.inl (by omega));rw[show b+(i-b)=i by omega]at hobs0;obtain⟨obs1,hobs1⟩:=grow (y-(i+1)) (i+1) (by omega) (by omega) (.inr (by omega));rw[show i+1+(y-(i+1))=y by omega]at hobs1;cases g with
    | false=>
     rw[if_neg (by simp)];refine⟨λ _ _=>trivial,?_⟩;obtain⟨obs2,hobs2⟩:=(hc.call hcall).1 rfl;have hgs:o.guard.isSome=true:=by
      cases hgo:o.guard with
      | some y=>rfl
      | none=>have:=hc.gd;rw[hgo]at this;cases this
     refine next undef w F ρ (FLe.refl _) (RLe.refl _) ?_ (λ d hd=>hput F ρ _ d hd (by rw[hgs];exact .gvF _)) (Mu.refl w)
     rw[heq,if_pos rfl,hobs1,hobs2,hobs0];exact((hS.grow _).grow _).grow _
    | true=>
     rw[if_pos rfl];let f:Nat->AV:=λ t=>@dite _ (∃ k ok',b<=k/\k<y/\ops[k]?=some ok'/\ok'.dst=some t/\listed.getD k false=true) (Classical.propDecidable _) (λ h=>lkA (S (Classical.choose h+1)).env t) λ _=>@ite _ (∃ k ok',b<=k/\k<m/\ops[k]?=some ok'/\ok'.dst=some t/\listed.getD k false=true) (Classical.propDecidable _) AV.top (lkA (S b).env t);have hf1:∀ k ok' t,b<=k->k<y->ops[k]?=some ok'->ok'.dst=some t->listed.getD k false=true->f t=lkA (S (k+1)).env t:=λ k ok' t h0 h1 h2 h3 h4=>by
      have hex:∃ k ok',b<=k/\k<y/\ops[k]?=some ok'/\ok'.dst=some t/\listed.getD k false=true:=⟨k,ok',h0,h1,h2,h3,h4⟩;have e:f t=lkA (S (Classical.choose hex+1)).env t:=dif_pos hex;rw[e];obtain⟨ok2,q0,q1,q2,q3,q4⟩:=Classical.choose_spec hex;by_cases hkk:Classical.choose hex=k
      ·rw[hkk]
      ·exact absurd h3 (hdd _ k ok2 ok' t q2 h2 hkk q3)
     have hf0:∀ t,(∀ (k:Nat) ok',b<=k->k<m->ops[k]?=some ok'->ok'.dst=some t->listed.getD k false=false)->f t=lkA (S b).env t:=λ t hno=>by
      have hnex:¬∃ k ok',b<=k/\k<m/\ops[k]?=some ok'/\ok'.dst=some t/\listed.getD k false=true:=by
       rintro⟨k,ok',h0,h1,h2,h3,h4⟩;rw[hno k ok' h0 h1 h2 h3]at h4;cases h4
      have hnex':¬∃ k ok',b<=k/\k<y/\ops[k]?=some ok'/\ok'.dst=some t/\listed.getD k false=true:=by
       rintro⟨k,ok',h0,h1,h2⟩;exact hnex ⟨k,ok',h0,by omega,h2⟩
      have e:f t=@ite _ (∃ k ok',b<=k/\k<m/\ops[k]?=some ok'/\ok'.dst=some t/\listed.getD k false=true) (Classical.propDecidable _) AV.top (lkA (S b).env t):=dif_neg hnex';rw[e];exact if_neg hnex
     have hfc:∀ t,(∃ k ok',b<=k/\k<y/\ops[k]?=some ok'/\ok'.dst=some t/\listed.getD k false=true)\/f t=.top\/∀ (k:Nat) ok',b<=k->k<m->ops[k]?=some ok'->ok'.dst=some t->listed.getD k false=false:=λ t=>by
      rcases Classical.em (∃ k ok',b<=k/\k<y/\ops[k]?=some ok'/\ok'.dst=some t/\listed.getD k false=true)with h|h
      ·exact .inl h
      ·rcases Classical.em (∃ k ok',b<=k/\k<m/\ops[k]?=some ok'/\ok'.dst=some t/\listed.getD k false=true)with h'|h'
       ·refine .inr (.inl ?_);have e:f t=@ite _ (∃ k ok',b<=k/\k<m/\ops[k]?=some ok'/\ok'.dst=some t/\listed.getD k false=true) (Classical.propDecidable _) AV.top (lkA (S b).env t):=dif_neg h;rw[e];exact if_pos h'
       ·refine .inr (.inr λ k ok' h0 h1 h2 h3=>?_);cases hl:listed.getD k false with
        | false=>rfl
        | true=>exact absurd ⟨k,ok',h0,h1,h2,h3,hl⟩ h'
     have hfB:∀ t,B<=t->f t=.top:=λ t ht=>by
      rcases hfc t with⟨k,ok',h0,h1,h2,h3,h4⟩|hno|hno
      ·rw[hf1 k ok' t h0 h1 h2 h3 h4];exact hBd (k+1) (by omega) t ht
      ·exact hno
      ·rw[hf0 t hno];exact hBd b (by omega) t ht
     have hlk:=Jdm f B hfB;have hSlE:Cf F ρ ((List.range B).map λ t=>(t,f t)) a.tmps:=λ t=>by
      rw[hlk];rcases hfc t with⟨k,ok',h0,h1,h2,h3,h4⟩|hno|hno
      ·rw[hf1 k ok' t h0 h1 h2 h3 h4];exact(hsl t).1 k ok' h0 h1 h2 h3 h4
      ·rw[hno];exact .top _
      ·rw[hf0 t hno];exact(hsl t).2 hno
     have hfr:∀ t∈CH ops.toList o,f t=lkA (S i).env t:=λ t ht=>by
      rcases env_trk i hbi (by omega) t with⟨k,ok',h0,h1,h2,h3,h4⟩|⟨h1,h2⟩
      ·rw[h4];exact hf1 k ok' t h0 (by omega) h2 h3 (hdirect k ((((hops i o ho).2.2.2.2 k ok' t h2 (by omega) h3).2 ht).1 h1))
      ·rw[h2];refine hf0 t λ k ok' hbk hkm hk hd=>?_;rcases Nat.lt_trichotomy k i with hlt|he|hgt
       ·exact absurd hd (h1 k ok' hbk hlt hk)
       ·rw[he];exact hui
       ·cases hl:listed.getD k false with
        | false=>rfl
        | true=>
         obtain⟨o',ho',e,he,hb,hon⟩:=Region.waitsFor_spec ((((hops i o ho).2.2.2.2 k ok' t hk (by omega) hd).2 ht).2 hgt);have:=hD.closed k o' ho' hl e (by simpa using he) hb;rw[hon,hui]at this;cases this
     have hext:=(hc.call hcall).2 rfl ((List.range B).map λ t=>(t,f t)) λ y hy=>by
      cases y with
      | tmp t=>
       simp only[Al];rw[hlk,hfr t (by unfold CH;exact List.mem_append_left _ (I7 hy))]
      | _=>rfl
     have hSx:Sim N' H0' F0 F ρ (S i).objs w.heap:=by rw[hobs0];exact hS.grow _
     refine Oper.wpIn_mono (λ a' w' hh=>?_) (Jdn (hΓ.ext _ _ _ _ _ hext N' H0' F0 w0 a w rfl ⟨F,ρ,hSx,hSlE,hD.tsz,hrk.2,hD.mu,hrk.1⟩ hc.dst rd n (λ a' w'=>Inv N' H0' F0 w0 Γ.nt _ a' w') Qw hqr λ a' w' h=>h));obtain⟨hI',htm⟩:=hh;obtain⟨F',ρ',hS',hSl',hts',hdf',hmu',hrk'⟩:=hI';have hslot:∀ t,Ak F' ρ' (if o.dst=some t then lkA (S (i+1)).env t else f t) (a'.tmps.getD t undef):=λ t=>by
      have:=hSl' t;cases hd:o.dst with
      | none=>rw[hd]at this;simp only[putA]at this;rw[hlk]at this;simpa using this
      | some d=>
       rw[hd]at this;simp only[putA]at this;rw[Bi,hlk]at this;by_cases e:d=t
       ·subst e;rw[if_pos rfl]at this⊢;rw[hc.env,hd];simp only[putA];rw[Bi,if_pos rfl];exact this
       ·rw[if_neg e]at this;rw[if_neg (λ h=>e (Option.some.inj h))];exact this
     refine ih _ _ _ { size:=by simpa using hD.size,closed:=λ j oj hj hl e he hb=>?_,tsz:=hts',mu:=hmu',last:=λ j hj=>by rw[hne j (by omega)];exact hD.last j hj,base:=λ j hj=>by rw[hne j (by omega)];exact hD.base j hj,ex:=⟨F',ρ',N',H0',hnw' a' w' (λ b0 hb0 hn=>by
       have h1:=hS'.old b0 hn;rw[← hS.old b0 hn,Jl4 hb0]at h1;exact Av h1) htm,⟨hrk',hdf'⟩,by rw[heq,if_pos rfl,hobs1];exact hS'.grow _,λ t=>?_⟩ } (by omega)
     ·by_cases hji:j=i
      ·subst hji;rw[ho]at hj;cases hj;have:=hedges e (by simpa using he) hb;by_cases hee:e.on=j
       ·rw[hee];exact heq
       ·rw[hne _ hee];exact this
      ·rw[hne j hji]at hl;have:=hD.closed j oj hj hl e he hb;by_cases hee:e.on=i
       ·rw[hee];exact heq
       ·rw[hne _ hee];exact this
     ·have hs:=hslot t;by_cases hdt:o.dst=some t
      ·rw[if_pos hdt]at hs;refine⟨λ k ok' hbk hkm hk hd _=>?_,λ hno=>?_⟩
       ·by_cases hki:k=i
        ·subst hki;exact hs
        ·exact absurd hd (hdd i k o ok' t ho hk (Ne.symm hki) hdt)
       ·have:=hno i o hbi (by omega) ho hdt;rw[heq]at this;cases this
      ·rw[if_neg hdt]at hs;refine⟨λ k ok' hbk hkm hk hd hl=>?_,λ hno=>?_⟩
       ·have hki:k≠i:=λ e=>by subst e;rw[ho]at hk;cases hk;exact hdt hd
        rw[hne k hki]at hl;rw[← hf1 k ok' t hbk (by omega) hk hd hl];exact hs
       ·rw[hf0 t λ k ok' hbk hkm hk hd=>by
         have hki:k≠i:=λ e=>by subst e;rw[ho]at hk;cases hk;exact hdt hd
         have:=hno k ok' hbk (by omega) hk hd;rwa[hne k hki]at this]at hs
        exact hs
   ·
    have hq:HA o.op=true:=by
     rcases hqc i o hbi him ho with h1|h1
     ·exact h1
     ·exact absurd (((hops i o ho).2.1 hbi (by omega)).2.2 h1) hix
    have hSn:Sim N' H0' F0 F ρ (if(listed.setIfInBounds i true).getD x false=true then(S y).objs else(S b).objs) w.heap:=by
     rw[hne x (λ e=>hix e.symm)];exact hS
    cases g with
    | false=>
     rw[if_neg (by simp)];have hgs:o.guard.isSome=true:=by
      cases hgo:o.guard with
      | some y=>rfl
      | none=>have:=hc.gd;rw[hgo]at this;cases this
     exact⟨λ _ _=>trivial,next undef w F ρ (FLe.refl _) (RLe.refl _) hSn (λ d hd=>hput F ρ _ d hd (by rw[hgs];exact .gvF _)) (Mu.refl w)⟩
    | true=>
     rw[if_pos rfl];obtain⟨e,he,hgob,hob,rfl⟩:=(hc.quiet hq).2 rfl;have hevu:∀ y∈o.op.operands.toList,Ak F ρ (unG (Al (S i).env y)) (a.eval y):=λ y hy=>BM rfl _ hgob _ (List.mem_map_of_mem hy) _ (hev y hy);have hrun:∃ v,(execOp a.eval o).run P w=.ok (.value v) w/\Ak F ρ e.v v:=by
      cases hmo:DG o.op with
      | false=>
       rw[M0 _ hmo (Ga hq).2]at he;exact(CZ hΓ.ty hS (λ k ob h=>by simp[obA]at h) o (Ga hq).1 he hob hevu).2
      | true=>
       have hok:∀ t p,o.op=.load t p->(Γ.ty t).ok=true:=λ t p hop=>by
        rw[hop]at he;simp only[opA]at he;cases hk:(Γ.ty t).ok with
        | true=>rfl
        | false=>rw[hk]at he;cases he
       by_cases hlx:listed.getD x false=true
       ·have hxm:x<m:=by
         rcases Nat.lt_trichotomy x m with h1|h1|h1
         ·exact h1
         ·subst h1;have:=hD.last x (JlO _);rw[hlx]at this;cases this
         ·have:=hD.last x (by omega);rw[hlx]at this;cases this
        rw[if_pos hlx]at hS;by_cases hxi:x<i
        ·obtain⟨obs,ho2⟩:=grow (y-i) i hbi (by omega) (.inr hxi);rw[show i+(y-i)=y by omega]at ho2;obtain⟨t,p,hop⟩:=Ms hq hmo;rw[hop]at he;have he':=Qc (obs.map some) he;rw[← ho2]at he';exact(CZ hΓ.ty hS (λ _ _ h=>h) o (Ga hq).1 (by rw[hop];exact he') hob hevu).2
        ·have hex:exX ops b x m i=false:=Z8 hbi hix (by omega) (λ _ ht=>by
          have:=BJ hD.closed (Ck _ _ _ ht) λ k hk=>by
           obtain⟨o',ho',e,he,hb,hon⟩:=Region.waitsFor_spec hk;rw[← hon];exact hD.closed x o' ho' hlx e (by simpa using he) hb
          rw[hui]at this;cases this) λ h=>absurd h hxi
         obtain⟨t,p,hop⟩:=Ms hq hmo;obtain⟨v,o0,om,q1,q2,q3,q4⟩:=hload i o t p hbi him hex ho hop (hok t p hop);obtain⟨obs,ho2⟩:=grow (i-b) b (JlO _) (by omega) (.inl (by omega));rw[show b+(i-b)=i by omega]at ho2;have hev':=Qc (obs.map some) q3;rw[← ho2]at hev';rw[hop,hev']at he;cases he;exact(CZ hΓ.ty hS (λ _ _ h=>h) o (Ga hq).1 (ev:=λ y=>unG (Al (S i).env y)) (e:=⟨v,[],[],none,om⟩) (by rw[hop];exact q4) q2 hevu).2
       ·rw[if_neg hlx]at hS;by_cases hxi:i<x
        ·obtain⟨obs,ho2⟩:=grow (i-b) b (JlO _) (by omega) (.inl (by omega));rw[show b+(i-b)=i by omega]at ho2;have hSi:=hS.grow (obs.map some);rw[← ho2]at hSi;exact(CZ hΓ.ty hSi (λ _ _ h=>h) o (Ga hq).1 he hob hevu).2
        ·have hex:exX ops b x m i=false:=Z8 hbi hix (by omega) (λ h=>absurd h hxi) λ _ ht=>hlx (BJ hD.closed (Ck _ _ _ ht) hdirect);obtain⟨t,p,hop⟩:=Ms hq hmo;obtain⟨v,o0,om,q1,q2,q3,q4⟩:=hload i o t p hbi him hex ho hop (hok t p hop);obtain⟨obs,ho2⟩:=grow (y-i) i hbi (by omega) (.inr (by omega));rw[show i+(y-i)=y by omega]at ho2;rw[hop]at he;have he':=Qc (obs.map some) he;rw[← ho2,q4]at he';cases he';exact(CZ hΓ.ty hS (λ _ _ h=>h) o (Ga hq).1 (ev:=λ y=>unG (Al (S i).env y)) (e:=⟨v,[],[],none,o0⟩) (by rw[hop];exact q3) q1 hevu).2
     obtain⟨v,hv,hr⟩:=hrun;refine C3 (λ c hcd=>by rw[hcd]at hq;cases hq) ?_;unfold Oper.wp;rw[hv,Oper.upon_value];refine next v w F ρ (FLe.refl _) (RLe.refl _) hSn (λ d hd=>hput F ρ _ d hd ?_) (Mu.refl w)
     cases o.guard.isSome with
     | false=>exact hr
     | true=>exact .gvT _ _ hr
 obtain⟨F,ρ,hS,hSl,hts,hdf⟩:=hI;refine main (ops.size-b) _ a _ { size:=hs0,closed:=λ j oj hj hl e he hb=>?_,tsz:=hts,mu:=hdf.2.1,last:=λ j hj=>hl1 j (by omega),base:=hl0,ex:=⟨F,ρ,N,H0,.inl ⟨hl1 y hby,rfl,rfl⟩,⟨hdf.2.2,hdf.1⟩,by rw[hl1 x hbx,h0];exact hS,λ t=>⟨λ i o hbi _ _ _ hl=>(by rw[hl1 i hbi]at hl;cases hl),λ _=>by rw[h0];exact hSl t⟩⟩ } ?_
 ·have hjb:j<b:=by
   rcases JlP j b with h|h
   ·exact h
   ·rw[hl1 j h]at hl;cases hl
  exact hl0 _ (Nat.lt_trans ((hops j oj hj).1 e he hb) hjb)
 ·have:∀ q,unl listed0 q=q-b:=by
   intro q;induction q with
   | zero=>simp[unl]
   | succ q ihq=>
    simp only[unl];rw[ihq];rcases JlP q b with h|h
    ·rw[if_pos (hl0 q h)];omega
    ·rw[if_neg (by rw[hl1 q h];simp)];omega
  exact this _
theorem Tm {Γ:Cx} (hΓ:Gv P Γ) (rd:Option Nat) (hqr:Γ.nt.qf≠[]->rd=none) (n:Nat) {ops:Array Oper} {Q:St->Prop} {Qw:Exit->Act->World->Prop} (hQ:∀ st' a' w',Q st'->Inv N H0 F0 w0 Γ.nt st' a' w'->Qw .normal a' w'):∀ (f b:Nat) (st:St) (a:Act) (w:World) (listed:Array Bool),phX Γ ops Q f b st->Inv N H0 F0 w0 Γ.nt st a w->listed.size=ops.size->(∀ k,k<b->listed.getD k false=true)->(∀ k,b<=k->listed.getD k false=false)->wpAnyIn (GF rd) n P .any ops Qw (ops.size-b) listed a w:=by
 have done:∀ (b:Nat) (st:St) (a:Act) (w:World) (listed:Array Bool),b=ops.size->Q st->Inv N H0 F0 w0 Γ.nt st a w->(∀ k,k<b->listed.getD k false=true)->wpAnyIn (GF rd) n P .any ops Qw (ops.size-b) listed a w:=by
  intro b st a w listed hb hq hI hl;subst hb;rw[Nat.sub_self];refine⟨?_,hQ st a w hq hI⟩;rw[List.eq_nil_iff_forall_not_mem];intro k hk;obtain⟨h1,o',ho',_⟩:=mem_ready.1 hk;have hk':=Av ho';have:=getD_both h1;rw[hl k hk']at this;cases this
 intro f;induction f with
 | zero=>intro b st a w listed h hI hs h1 h2;exact done b st a w listed h.1 h.2 hI h1
 | succ f ih=>
  intro b st a w listed h hI hs h1 h2;rcases h with h|⟨x,m,hbm,hB,h⟩
  ·exact done b st a w listed h.1 h.2 hI h1
  ·refine Z9 hΓ rd hqr n hB h hI hs h1 h2 λ st' a' w' listed' fuel hq hI' q1 q2 q3 q4=>?_;have:=ih (m+1) st' a' w' listed' hq hI' q1 q2 q3;rwa[show ops.size-(m+1)=fuel by omega]at this
end Go.AI
end
section
namespace Go.AI
variable {P:Program} {F:Fence} {n:Nat} {ops:Array Oper} {Q:Exit->Act->World->Prop}
theorem HC {a:Act} {dst:Option Tmp} {t:Tmp} (h:dst≠some t) (v:Value):(a.put dst v).tmps.getD t undef=a.tmps.getD t undef:=by
 cases dst with
 | none=>rfl
 | some d=>
  have hne:d≠t:=λ e=>h (by rw[e]);rw[Jl5,Jl5];simp only[Act.put];rw[JlQ hne]
theorem Ji6 {j:Nat} {oj:Oper} {d t:Tmp} {v:Value} {K:Act->World->Prop} {a:Act} {w:World} (hj:ops[j]?=some oj) (hnd:∀ c,oj.op≠.defer c) (hsj:∀ cs b,oj.op≠.select cs b)
  (h1:d ∉ oj.looksAt ops) (h2:oj.dst≠some d) (h3:oj.dst≠some t) (hQ:∀ e a w,Q e a w->e=.normal) (h:wpOpIn F n P ops Q j K (a.put (some d) v) w) :
  wpOpIn F n P ops Q j (λ b w'=>K (b.put (some d) v) w'/\b.tmps.getD t undef=a.tmps.getD t undef) a w:=by
 have e1:∀ x,some d=some x->x ∉ oj.looksAt ops:=λ x hx=>by cases hx;exact h1
 have e2:∀ x,some d=some x->oj.dst≠some x:=λ x hx=>by cases hx;exact h2
 have sw:∀ (b:Act) (u:Value) (w':World),K ((b.put (some d) v).put oj.dst u) w'->K ((b.put oj.dst u).put (some d) v) w':=λ b u w' hk=>by
  rw[← Act.put_comm b v u e2];exact hk
 have hp:∀ c (b:Act) w',¬ Q (.panic c) b w':=λ c b w' hq=>by cases hQ _ _ _ hq
 unfold wpOpIn at h⊢;simp only[hj]at h⊢;rw[wanted_put oj a (some d) v e1,about_put oj w a (some d) v e1]at h;split
 ·rename_i hw;simp only[hw,if_true]at h;unfold Oper.wpIn at h⊢;rw[about_put oj w a (some d) v e1]at h;refine⟨h.1,?_⟩;have h:=h.2;rw[Oper.semAt_eq _ _ _ hnd,execOp_put oj hsj a (some d) v e1]at h;rw[Oper.semAt_eq _ _ _ hnd];generalize (execOp a.eval oj).run P w=r at h⊢;cases r with
  | ok x w'=>
   cases x with
   | value u=>exact⟨sw a u w' h,HC h3 u⟩
   | skip=>exact⟨sw a undef w' h,HC h3 undef⟩
   | defer q=>
    refine⟨?_,HC h3 undef⟩;refine sw { a with defers:=q::a.defers } undef w' ?_;rw[← Act.put_defers];exact h
   | enter f args=>
    refine⟨h.1,CallsIn.mono h.2 λ e w'' he=>?_⟩;cases e with
    | returned u=>exact⟨sw a u w'' he,HC h3 u⟩
    | panicked c=>exact absurd he (hp _ _ _)
    | outgrown=>exact he
   | row row args=>exact⟨h.1,RowsIn.mono h.2 λ u w'' he=>⟨sw a u w'' he,HC h3 u⟩⟩
   | round l f tmps assign body=>
    refine⟨h.1,RoundIn.mono h.2 λ e w'' he=>?_⟩;cases e with
    | returned u=>exact⟨sw a u w'' he,HC h3 u⟩
    | panicked c=>exact absurd he (hp _ _ _)
    | outgrown=>exact he
   | _=>exact h
  | halt x w'=>
   cases x with
   | panic u=>exact absurd h (hp _ _ _)
   | _=>exact h
 ·rename_i hw;simp only[hw]at h;exact⟨h.1,sw a undef w h.2,HC h3 undef⟩
theorem Jaa {d t:Tmp} (h:lzF ops=some (d,t)):∃ o,ops[0]?=some o/\o.dst=some d/\o.op=.move (.tmp t)/\o.guard=none/\o.after=#[]/\d≠t:=by
 unfold lzF at h;split at h
 ·rename_i o ho;split at h
  ·rename_i d' t' hd hop;cases hc:(o.guard.isNone&&o.after.isEmpty&&!(Nat.beq d' t'))with
   | false=>rw[hc]at h;cases h
   | true=>
    rw[hc]at h;cases h;simp only[Jl0,Bool.not_eq_true',Option.isNone_iff_eq_none]at hc;refine⟨o,ho,hd,hop,hc.1.1,by simpa using hc.1.2,λ e=>?_⟩;subst e;have h1:=hc.2;rw[Nat.beq_refl]at h1;cases h1
  ·cases h
 ·cases h
theorem Jfq {rd:Option Nat} {d t:Tmp} (hz:lzF ops=some (d,t)) (hB:Xr ops=true) (hQ:∀ e a w,Q e a w->e=.normal) :
  ∀ (fuel:Nat) (listed:Array Bool) (a:Act) (w:World),0∈Region.ready .any ops listed ->
   wpAnyIn (GF rd) n P .any ops Q fuel (listed.setIfInBounds 0 true) (a.put (some d) (a.tmps.getD t undef)) w->wpAnyIn (GF rd) n P .any ops Q (fuel+1) listed a w:=by
 obtain⟨o0,ho0,hd0,hop0,hg0,ha0,hdt⟩:=Jaa hz;have hops:∀ j oj,ops[j]?=some oj->ndB oj.op=true/\(∀ cs b,oj.op≠.select cs b)/\(j=0\/(∃ e∈oj.after.toList,Region.binds .any e=true/\e.on=0)\/(d ∉ oj.looksAt ops/\oj.dst≠some d/\oj.dst≠some t)):=λ j oj hj=>by
  unfold Xr at hB;rw[hz]at hB;have h1:=JlJ.1 hB (oj,j) (by rw[List.mem_zipIdx_iff_getElem?];simpa using hj);simp only[Jl0,Jmi]at h1;obtain⟨⟨h2,h3⟩,h4⟩:=h1;refine⟨h2,?_,?_⟩
  ·intro cs b hs;rw[hs]at h3;cases h3
  rcases h4 with (h4|h4)|h4
  ·exact .inl (Jl6 h4)
  ·obtain⟨e,he,hb⟩:=Array.any_eq_true'.1 h4;simp only[Jl0]at hb;exact .inr (.inl ⟨e,by simpa using he,hb.1,Jl6 hb.2⟩)
  ·simp only[Bool.not_eq_true',bne_iff_ne,ne_eq]at h4;exact .inr (.inr ⟨λ hm=>(by have h5:=h4.1.1;rw[List.contains_iff_mem.2 hm]at h5;cases h5),h4.1.2,h4.2⟩)
 have first:∀ (K:Act->World->Prop) (a:Act) (w:World),K (a.put (some d) (a.tmps.getD t undef)) w->wpOpIn (GF rd) n P ops Q 0 K a w:=λ K a w hk=>by
  unfold wpOpIn;rw[ho0];have hw:Region.wanted o0 (yielded ops a.tmps)=true:=by simp[Region.wanted,hg0]
  simp only[hw,if_true];have hr:(execOp a.eval o0).run P w=.ok (.value (a.tmps.getD t undef)) w:=by
   simp only[execOp,hop0,JlH];rfl
  refine C3 (λ c hc=>by rw[hop0]at hc;cases hc) ?_;unfold Oper.wp;rw[hr,Oper.upon_value,hd0];exact hk
 intro fuel;induction fuel with
 | zero=>
  intro listed a w hr H;refine⟨λ h=>(by rw[h]at hr;cases hr),λ j hj=>?_⟩;by_cases hj0:j=0
  ·subst hj0;exact first _ a w H
  ·have:=ready_mono hj hj0;rw[H.1]at this;cases this
 | succ fuel ih=>
  intro listed a w hr H;refine⟨λ h=>(by rw[h]at hr;cases hr),λ j hj=>?_⟩;by_cases hj0:j=0
  ·subst hj0;exact first _ a w H
  ·obtain⟨hjun,oj,hoj,hall⟩:=mem_ready.1 hj;obtain⟨q1,q2,q3⟩:=hops j oj hoj;rcases q3 with q3|⟨e,he,hb,hon⟩|⟨q3,q4,q5⟩
   ·exact absurd q3 hj0
   ·exfalso;have h1:=hall e (by simpa using he) hb;have h0:=(mem_ready.1 hr).1;rw[hon]at h1;rw[getD_both h0]at h1;cases h1
   ·refine wpOpIn_mono (λ b w' hb=>?_) (Ji6 hoj (S8 q1) q2 q3 q4 q5 hQ (H.2 j (ready_mono hj hj0)));refine ih _ b w' (ready_mono hr (Ne.symm hj0)) ?_;rw[hb.2,Array.setIfInBounds_comm _ _ hj0];exact hb.1
end Go.AI
end
section
namespace Go.AI
variable {P:Program} {N:Nat->Prop} {H0 F0:Nat->Option Obj} {w:World} {w0:W0}
theorem Tn {ops:Array Oper} {m:Nat} (h:Jc8 ops m=true):m<ops.size/\∀ (j:Nat) oj,ops[j]?=some oj->(∀ e∈oj.after.toList,Region.binds .any e=true->e.on<j)/\(∀ k b,oj.guard=some (k,b)->k<j)/\(m<j->Gw ops j m)/\(m<=j->∀ i,i<m->Gw ops j i):=by
 unfold Jc8 at h;simp only[Jl0]at h;obtain⟨h1,h2⟩:=h;refine⟨Jme h1,λ j oj hj=>?_⟩;have hz:(oj,j)∈ops.toList.zipIdx:=by
  rw[List.mem_zipIdx_iff_getElem?];simpa using hj
 have h3:=JlJ.1 h2 _ hz;simp only[Jl0]at h3;obtain⟨⟨h3,h5⟩,h4⟩:=h3;refine⟨λ e he hb=>?_,λ k b hg=>?_,λ hm=>?_,λ hm i hi=>?_⟩
 ·have:=Array.all_eq_true_iff_forall_mem.1 h3 e (by simpa using he);rw[hb,JlM,Bool.false_or]at this;exact of_decide_eq_true this
 ·rw[hg]at h5;exact of_decide_eq_true h5
 all_goals
  have hlt:Nat.blt j m=false:=by
   cases hb:Nat.blt j m with
   | false=>rfl
   | true=>have:=Jme hb;omega
  rw[hlt,Bool.false_or,Jl0]at h4
 ·rcases Jmi _ _▸h4.1 with h|h
  ·have:=Jl6 h;omega
  ·exact Ck _ _ _ h
 ·exact Ck _ _ _ (JlJ.1 h4.2 i (List.mem_range.2 hi))
theorem Vb {F:Fence} {n:Nat} {o:Oper} {a:Act} {K:Act->World->Prop} {Q Q':Exit->Act->World->Prop} (hq:∀ e a w,Q e a w->e=.normal) (h:o.wpIn F n P a w K Q):o.wpIn F n P a w K Q':=by
 have hL:¬LetsOut Q:=by
  rintro⟨a,w,h⟩;cases hq _ _ _ h
 unfold Oper.wpIn at h⊢;refine⟨h.1,?_⟩;have hh:=h.2;clear h;generalize (o.semAt F.round a.eval).run P w=r at hh;cases r with
 | ok x w'=>
  cases x<;>simp only[Oper.uponIn]at hh⊢ <;>
   first
    | exact hh
    | exact⟨hh.1,CallsIn.mono hh.2 (λ e w'' he=>by cases e<;>first|exact he|exact absurd he hL|(have:=hq _ _ _ he;cases this))⟩
    | exact⟨hh.1,RoundIn.mono hh.2 (λ e w'' he=>by cases e<;>first|exact he|exact absurd he hL|(have:=hq _ _ _ he;cases this))⟩
 | halt x w'=>cases x<;>simp only[Oper.uponIn]at hh⊢<;>first|exact hh|(have:=hq _ _ _ hh;cases this)
theorem Qd {ops:Array Oper} {m i:Nat} (hi:i<m):(ops.toList.take m).toArray[i]?=ops[i]? := by
 rw[List.getElem?_toArray,Jmj hi,Array.getElem?_toList]
theorem Jfr {F:Fence} {n:Nat} {ops:Array Oper} {m:Nat} (hB:Jc8 ops m=true) {Q Q':Exit->Act->World->Prop} (hq:∀ e a w,Q e a w->e=.normal)
  (hk:∀ a' w' (listed':Array Bool),Q .normal a' w'->listed'.size=ops.size->(∀ k,k<m->listed'.getD k false=true)->(∀ k,m<=k->listed'.getD k false=false)->wpAnyIn F n P .any ops Q' (ops.size-m) listed' a' w') :
  ∀ (f:Nat) (listed ls:Array Bool) (a:Act) (w:World),listed.size=ops.size->ls.size=m->(∀ k,k<m->ls.getD k false=listed.getD k false)->(∀ k,m<=k->listed.getD k false=false) ->
   (∀ (j:Nat) oj,ops[j]?=some oj->listed.getD j false=true->∀ e∈oj.after.toList,Region.binds .any e=true->listed.getD e.on false=true)->unl listed m=f ->
   wpAnyIn F n P .any (ops.toList.take m).toArray Q f ls a w->wpAnyIn F n P .any ops Q' (f+(ops.size-m)) listed a w:=by
 obtain⟨hm,hop⟩:=Tn hB;have hgT:∀ (l:Array Bool) (k:Nat),k<l.size->l.getD k true=l.getD k false:=λ l k hk=>by
  rw[Jl5,Jl5,Jl4 hk];rfl
 intro f;induction f with
 | zero=>
  intro listed ls a w h1 h2 h3 h4 h5 h6 h;rw[Jmd];exact hk a w listed h.2 h1 (M1 m h6) h4
 | succ f ih=>
  intro listed ls a w h1 h2 h3 h4 h5 h6 h;have hex:∃ k,k<m/\listed.getD k false=false/\∀ i,i<k->listed.getD i false=true:=by
   refine Classical.byContradiction λ hn=>?_;have hall:∀ k,k<m->listed.getD k false=true:=by
    intro k;induction k using Nat.strongRecOn with
    | _ k ihk=>
     intro hkm;cases hl:listed.getD k false with
     | true=>rfl
     | false=>exact absurd ⟨k,hkm,hl,λ i hi=>ihk i hi (by omega)⟩ hn
   have:∀ n,n<=m->unl listed n=0:=by
    intro n;induction n with
    | zero=>intro _;rfl
    | succ n ihn=>intro hn;simp only[unl];rw[ihn (by omega),if_pos (hall n (by omega))]
   rw[this m (JlO _)]at h6;omega
  obtain⟨k0,hk0,hkl,hkb⟩:=hex;show wpAnyIn F n P .any ops Q' (f+1+(ops.size-m)) listed a w;rw[show f+1+(ops.size-m)=(f+(ops.size-m))+1 by omega];refine⟨λ hr=>?_,λ i hi=>?_⟩
  ·have hg0:=Jl4 (show k0<ops.size by omega);have:k0∈Region.ready .any ops listed:=mem_ready.2 ⟨by rw[hgT _ _ (by omega)];exact hkl,_,hg0,λ e he hb=>hkb _ ((hop k0 _ hg0).1 e (by simpa using he) hb)⟩;rw[hr]at this;cases this
  ·obtain⟨r1,oi,r2,r3⟩:=mem_ready.1 hi;have hisz:=Av r2;rw[hgT _ _ (by omega)]at r1;have him:i<m:=by
    refine Classical.byContradiction λ hge=>?_;have:=BJ h5 ((hop i oi r2).2.2.2 (by omega) k0 hk0) λ k hkw=>by
     obtain⟨ok,hok,e,he,hb,hon⟩:=Region.waitsFor_spec hkw;rw[r2]at hok;cases hok;rw[← hon];exact r3 e he hb
    rw[hkl]at this;cases this
   have hsub:(ops.toList.take m).toArray.size=m:=by simp;omega
   have hi':i∈Region.ready .any (ops.toList.take m).toArray ls:=mem_ready.2 ⟨by rw[hgT _ _ (by omega),h3 i him];exact r1,oi,by rw[Qd him];exact r2,λ e he hb=>by
    rw[h3 _ (Nat.lt_trans ((hop i oi r2).1 e (by simpa using he) hb) him)];exact r3 e he hb⟩
   have hw:=h.2 i hi';have hK:∀ a w,wpAnyIn F n P .any (ops.toList.take m).toArray Q f (ls.setIfInBounds i true) a w->wpAnyIn F n P .any ops Q' (f+(ops.size-m)) (listed.setIfInBounds i true) a w:=by
    intro a w hh;have hne:∀ (l:Array Bool) (k:Nat),k≠i->(l.setIfInBounds i true).getD k false=l.getD k false:=λ l k hk=>by
     rw[Jl5,Jl5,JlQ (Ne.symm hk)]
    have heq:∀ (l:Array Bool),i<l.size->(l.setIfInBounds i true).getD i false=true:=λ l hl=>by simp[hl]
    refine ih _ _ a w (by simpa using h1) (by simpa using h2) (λ k hk=>?_) (λ k hk=>?_) (λ j oj hj hl e he hb=>?_) ?_ hh
    ·by_cases e:k=i
     ·subst e;rw[heq _ (by omega),heq _ (by omega)]
     ·rw[hne _ _ e,hne _ _ e];exact h3 k hk
    ·rw[hne _ _ (by omega)];exact h4 k hk
    ·have hlt:=(hop j oj hj).1 e he hb;by_cases e2:e.on=i
     ·rw[e2];exact heq _ (by omega)
     ·rw[hne _ _ e2];by_cases e1:j=i
      ·subst e1;rw[r2]at hj;cases hj;exact r3 e (by simpa using he) hb
      ·rw[hne _ _ e1]at hl;exact h5 j oj hj hl e he hb
    ·have:=Pr (l:=listed) (i:=i) (by omega) r1 m him;omega
   unfold wpOpIn at hw⊢;rw[Qd him,r2]at hw;rw[r2];simp only at hw⊢;have hy:Region.wanted oi (yielded (ops.toList.take m).toArray a.tmps)=Region.wanted oi (yielded ops a.tmps):=by
    unfold Region.wanted;cases hg:oi.guard with
    | none=>rfl
    | some q=>
     obtain⟨k,b⟩:=q;have hkm:=(hop i oi r2).2.1 k b hg;simp only[yielded,Qd (ops:=ops) (show k<m by omega)]
   rw[hy]at hw;split
   ·rename_i hyes;rw[if_pos hyes]at hw;exact Oper.wpIn_mono hK (Vb hq hw)
   ·rename_i hyes;rw[if_neg hyes]at hw;exact⟨hw.1,hK _ _ hw.2⟩
theorem Ji7 {ops:Array Oper} {F:Fence} {n:Nat} {Q Q':Exit->Act->World->Prop} (hq:∀ e a w,Q e a w->e=.normal) (hQ:∀ a w,Q .normal a w->Q' .normal a w):∀ (fuel:Nat) (listed:Array Bool) (a:Act) (w:World),wpAnyIn F n P .any ops Q fuel listed a w->wpAnyIn F n P .any ops Q' fuel listed a w:=by
 intro fuel;induction fuel with
 | zero=>intro listed a w h;exact⟨h.1,hQ _ _ h.2⟩
 | succ fuel ih=>
  intro listed a w h;refine⟨λ hr=>hQ _ _ (h.1 hr),λ i hi=>?_⟩;have hw:=h.2 i hi;unfold wpOpIn at hw⊢;split
  ·rename_i ho;rw[ho]at hw;exact ih _ _ _ hw
  ·rename_i o ho;rw[ho]at hw;simp only at hw;split
   ·rename_i hyes;rw[if_pos hyes]at hw;exact Oper.wpIn_mono (ih _) (Vb hq hw)
   ·rename_i hyes;rw[if_neg hyes]at hw;exact⟨hw.1,ih _ _ _ hw.2⟩
theorem Jab {Γ:Cx} (hΓ:Gv P Γ) (rd:Option Nat) (hqr:Γ.nt.qf≠[]->rd=none) (n:Nat) {ops:Array Oper} {Q:St->Prop} {st:St} {a:Act} (h:Ji2 Γ ops Q st) (hI:Inv N H0 F0 w0 Γ.nt st a w)
  {Qw:Exit->Act->World->Prop} (hQ:∀ st' a' w',Q st'->Inv N H0 F0 w0 Γ.nt st' a' w'->Qw .normal a' w'):wpAnyIn (GF rd) n P .any ops Qw ops.size (Array.replicate ops.size false) a { w with drawn:=w.drawn+1 }:=by
 have hz:∀ k,(Array.replicate ops.size false).getD k false=false:=λ k=>getD_replicate_false _ _;rcases h with⟨f,h⟩|⟨f,m,hB,h⟩|⟨f,hlz,h⟩
 rotate_left 2
 ·simp only[Jl0]at hlz;obtain⟨hlz,hld⟩:=hlz;cases hf:lzF ops with
  | none=>unfold lzD at hld;rw[hf]at hld;cases hld
  | some p=>
   obtain⟨d,t⟩:=p;unfold lzD at hld;unfold lzS at h;rw[hf]at hld h;simp only at hld h;obtain⟨o0,ho0,_,_,_,ha0,_⟩:=Jaa hf;obtain⟨F,ρ,hS,hSl,hts,hdf⟩:=hI;let QW:Exit->Act->World->Prop:=λ e a w=>e=.normal/\Qw .normal a w;have hne:∀ k,k≠0->((Array.replicate ops.size false).setIfInBounds 0 true).getD k false=false:=λ k hk=>by
    rw[Jl5,JlQ (Ne.symm hk),← Jl5];exact hz k
   have hsz:=Av ho0;have h1:=Tm hΓ rd hqr n (Qw:=QW) (λ st' a' w' hq hI'=>⟨rfl,hQ st' a' w' hq hI'⟩) f 1 _ (a.put (some d) (a.tmps.getD t undef)) { w with drawn:=w.drawn+1 } ((Array.replicate ops.size false).setIfInBounds 0 true) h
    ⟨F,ρ,hS,hSl.put (hts.lt hld) (hSl t),hts.put hld,by rw[put_defers];exact hdf.1,hdf.2.1.draw,hdf.2.2⟩ (by simp) (λ k hk=>by
     have:k=0:=by omega
     subst this;simp;omega) (λ k hk=>hne k (by omega))
   have h2:=Jfq hf hlz (Q:=QW) (λ e a w h=>h.1) (ops.size-1) (Array.replicate ops.size false) a { w with drawn:=w.drawn+1 } (mem_ready.2 ⟨by rw[Jl5,Jl4 (by simpa using hsz)];simp,o0,ho0,λ e he=>by rw[ha0]at he;simp at he⟩) h1;rw[show ops.size-1+1=ops.size by omega]at h2;exact Ji7 (λ e a w h=>h.1) (λ a w h=>h.2) _ _ _ _ h2
 ·obtain⟨F,ρ,hS,hSl,hts,hdf⟩:=hI;exact Tm hΓ rd hqr n hQ f 0 st a _ _ h ⟨F,ρ,hS,hSl,hts,hdf.1,hdf.2.1.draw,hdf.2.2⟩ (by simp) (λ k hk=>by omega) (λ k _=>hz k)
 ·have hm:=(Tn hB).1;have hsub:(ops.toList.take m).toArray.size=m:=by simp;omega
  have hnd:∀ o∈(ops.toList.take m).toArray.toList,ndB o.op=true:=by
   obtain⟨S,_,_,hQS⟩:=F7 _ _ _ h;exact(PC hQS.1).2
  let Q1:St->Prop:=λ s=>∃ F,ops[m]?=some F/\A1 Γ false ops.toList F (λ s'=>phX Γ ops Q f (m+1) s') s;let QW:Exit->Act->World->Prop:=λ e a' w'=>e=.normal/\∃ st',Q1 st'/\Inv N H0 F0 w0 Γ.nt st' a' w';have hL:¬LetsOut QW:=by
   rintro⟨a,w,h,_⟩;cases h
  have main:wpAny P .any (ops.toList.take m).toArray QW m (Array.replicate m false) a { w with drawn:=w.drawn+1 }:=by
   cases hd:MP (ops.toList.take m).toArray with
   | true=>
    have:=P0 (Q:=λ s=>MQ true (ops.toList.take m).toArray st.env s.env=true/\Q1 s) hΓ hd h hI (Qw:=QW) λ st' a' w' hq hI'=>⟨rfl,st',hq.2,hI'⟩;rwa[hsub]at this
   | false=>
    have:=OJ hΓ hd h hI (Qw:=QW) λ st' a' w' hq hI'=>⟨rfl,st',hq,hI'⟩;rwa[hsub]at this
  have hin:=PT (r:=rd) (n:=n) hL hnd _ _ _ _ main
  have hlen:∀ n,unl (Array.replicate ops.size false) n=n:=by
   intro n;induction n with
   | zero=>rfl
   | succ n ih=>simp only[unl,ih,hz];rfl
  have:=Jfr (F:=GF rd) (n:=n) (P:=P) (ops:=ops) (m:=m) hB (Q:=QW) (Q':=Qw) (λ e a w h=>h.1) (λ a' w' listed' hq q1 q2 q3=>?_) m (Array.replicate ops.size false) (Array.replicate m false) a _ (by simp) (by simp) (λ k hk=>by rw[hz];exact getD_replicate_false _ _) (λ k _=>hz k) (λ j oj _ hl=>by rw[hz]at hl;cases hl) (hlen m) hin
  ·rwa[show m+(ops.size-m)=ops.size by omega]at this
  ·have hq:Exit.normal=Exit.normal/\∃ st',(∃ F,ops[m]?=some F/\A1 Γ false ops.toList F (λ s'=>phX Γ ops Q f (m+1) s') st')/\Inv N H0 F0 w0 Γ.nt st' a' w':=hq;obtain⟨_,st',⟨Fo,hF,hst⟩,hI'⟩:=hq;obtain⟨_,hop⟩:=Tn hB;have hgT:∀ (l:Array Bool) (k:Nat),k<l.size->l.getD k true=l.getD k false:=λ l k hk=>by
    rw[Jl5,Jl5,Jl4 hk];rfl
   have hmr:m∈Region.ready .any ops listed':=mem_ready.2 ⟨by rw[hgT _ _ (by omega)];exact q3 m (JlO _),Fo,hF,λ e he hb=>q2 _ ((hop m Fo hF).1 e (by simpa using he) hb)⟩;have hro:∀ i∈Region.ready .any ops listed',i=m:=by
    intro i hi;obtain⟨r1,oi,r2,r3⟩:=mem_ready.1 hi;have hisz:=Av r2;rw[hgT _ _ (by omega)]at r1;rcases Nat.lt_trichotomy i m with hlt|rfl|hgt
    ·rw[q2 i hlt]at r1;cases r1
    ·rfl
    ·have hcl:∀ (j:Nat) oj,ops[j]?=some oj->listed'.getD j false=true->∀ e∈oj.after.toList,Region.binds .any e=true->listed'.getD e.on false=true:=λ j oj hj hl e he hb=>by
      rcases JlP j m with h|h
      ·exact q2 _ (Nat.lt_trans ((hop j oj hj).1 e he hb) h)
      ·rw[q3 j h]at hl;cases hl
     have:=BJ hcl ((hop i oi r2).2.2.1 hgt) λ k hkw=>by
      obtain⟨ok,hok,e,he,hb,hon⟩:=Region.waitsFor_spec hkw;rw[r2]at hok;cases hok;rw[← hon];exact r3 e he hb
     rw[q3 m (JlO _)]at this;cases this
   obtain⟨k,hk⟩:∃ k,ops.size-m=k+1:=⟨ops.size-m-1,by omega⟩;rw[hk];refine⟨λ hr=>by (rw[hr]at hmr;cases hmr),λ i hi=>?_⟩;have:=hro i hi;subst this;unfold wpOpIn;rw[hF];simp only;have hne:∀ (l:Array Bool) (k:Nat),k≠i->(l.setIfInBounds i true).getD k false=l.getD k false:=λ l k hk=>by
    rw[Jl5,Jl5,JlQ (Ne.symm hk)]
   have hstep:=PV hΓ rd hqr n (all:=ops) hst hI' (K:=λ a w=>wpAnyIn (GF rd) n P .any ops Qw k (listed'.setIfInBounds i true) a w) (Qw:=Qw) λ s2 a2 w2 hq2 hI2=>by
    have:=Tm hΓ rd hqr n hQ f (i+1) s2 a2 w2 (listed'.setIfInBounds i true) hq2 hI2 (by simpa using q1) (λ q hq=>by
     by_cases e:q=i
     ·subst e;simp;omega
     ·rw[hne _ _ e];exact q2 q (by omega)) (λ q hq=>by rw[hne _ _ (by omega)];exact q3 q (by omega))
    rwa[show ops.size-(i+1)=k by omega]at this
   exact hstep
end Go.AI
end
section
namespace Go.AI
variable {P:Program} {F F':Nat->Option Obj} {ρ ρ':Nat->Option Loc} {N:Nat->Prop} {H0 F0:Nat->Option Obj} {O objs:List (Option Ob)} {w:World} {w0:W0}
theorem Vc {Γ:Cx} (hfol:P.follows .mixedOrders=true) (hΓ:Gv P Γ) {rd:Option Nat} (hrd:Γ.rd=rd.isSome):∀ (c:Code) (Q:Ex->St->Prop) (st:St) (a:Act) (w:World),wpA Γ c Q st->Inv N H0 F0 w0 Γ.nt st a w->c.wpIn (GF rd) 0 P (OK N H0 F0 w0 Γ.nt Q) a w:=by
 have hqr:Γ.nt.qf≠[]->rd=none:=λ hne=>by
  cases rd with
  | none=>rfl
  | some r=>exact absurd (hΓ.rq hrd) hne
 intro c;induction c with
 | skip=>intro Q st a w h hI;exact wpIn_skip ⟨.normal,st,rfl,h,hI⟩
 | region id ops draw=>
  intro Q st a w h hI;obtain⟨s1,hsh,h|⟨hdr,h⟩|⟨hdr,h⟩⟩:=h
  rotate_left
  ·subst hdr;exact wpIn_region_any hfol (Jab hΓ rd hqr 0 h (Dr rfl hsh hI) λ st' a' w' hq hI'=>⟨.normal,st',rfl,hq,hI'⟩)
  ·subst hdr;exact wpIn_region_list (ZX hΓ rd hqr 0 h (Dr rfl hsh hI) λ st' a' w' hq hI'=>⟨.normal,st',rfl,hq,hI'⟩)
  replace hI:=Dr rfl hsh hI;cases draw with
  | false=>exact wpIn_region_list (XB hΓ rd hqr 0 ops.toList _ s1 a w h hI λ st' a' w' hq hI'=>⟨.normal,st',rfl,hq.2,hI'⟩)
  | true=>
   have hnd:∀ o∈ops.toList,ndB o.op=true:=by
    obtain⟨S,_,_,hQS⟩:=F7 _ _ _ h;exact(PC hQS.1).2
   have hQ:¬LetsOut (OK N H0 F0 w0 Γ.nt Q):=by
    rintro⟨a,w,e',st',h1,_⟩;cases e'<;>cases h1
   refine wpIn_region_any hfol (PT hQ hnd _ _ _ _ ?_);cases hB:MP ops with
   | true=>exact P0 (Q:=λ s=>MQ true ops s1.env s.env=true/\Q .normal s) hΓ hB h hI λ st' a' w' hq hI'=>⟨.normal,st',rfl,hq.2,hI'⟩
   | false=>exact OJ hΓ hB h hI λ st' a' w' hq hI'=>⟨.normal,st',rfl,hq,hI'⟩
 | seq x y ihx ihy=>
  intro Q st a w h hI;refine wpIn_seq (wpIn_mono (ihx _ st a w h hI) λ e a' w' hp=>?_);obtain⟨e',st',rfl,hq,hI'⟩:=hp;cases e' with
  | normal=>
   obtain⟨s1,hsh,hq⟩:=hq;exact ihy Q s1 a' w' hq (Dr rfl hsh hI')
  | exit i=>exact⟨.exit i,st',rfl,hq,hI'⟩
  | ret=>exact⟨.ret,st',rfl,hq,hI'⟩
 | cond c x y ihx ihy=>
  intro Q st a w h hI;obtain⟨F,ρ,hS,hSl,hn,hdf⟩:=hI;simp only[wpA]at h;unfold Xq at h;split at h
  ·rename_i t ht;have hc:=A5 hSl c;rw[ht]at hc;refine wpIn_cond_split hc.bool (λ e=>ihx Q st a w (h.1 e) ⟨F,ρ,hS,hSl,hn,hdf⟩) (λ e=>ihy Q st a w (h.2 e) ⟨F,ρ,hS,hSl,hn,hdf⟩)
  ·exact h.elim
 | block id c ih=>
  intro Q st a w h hI;refine wpIn_block (wpIn_mono (ih _ st a w h hI) λ e a' w' hp=>?_);obtain⟨e',st',rfl,hq,hI'⟩:=hp;cases e' with
  | normal=>exact⟨.normal,st',rfl,hq,hI'⟩
  | ret=>exact⟨.ret,st',rfl,hq,hI'⟩
  | exit i=>
   simp only[IZ]at hq;show if i=id then _ else _
   cases hb:Nat.beq i id with
   | true=>
    rw[hb,cond_true]at hq;rw[if_pos (Jl6 hb)];exact⟨.normal,st',rfl,hq,hI'⟩
   | false=>
    rw[hb,cond_false]at hq;have hne:i≠id:=λ e=>by subst e;simp at hb
    rw[if_neg hne];exact⟨.exit i,st',rfl,hq,hI'⟩
 | loop c ih=>
  intro Q st a w h hI;obtain⟨I,n,⟨s0,hsh0,h0⟩,hround⟩:=h;have key:∀ (k m:Nat) (st:St) (a:Act) (w:World),m<k->I m st->Inv N H0 F0 w0 Γ.nt st a w->Code.roundsIn (GF rd) 0 P c (OK N H0 F0 w0 Γ.nt Q) k a w:=by
   intro k;induction k with
   | zero=>intro m st a w hm;omega
   | succ k ihk=>
    intro m st a w hm hIm hI;refine wpIn_mono (ih _ st a w (hround m st hIm) hI) λ e a' w' hp=>?_;obtain⟨e',st',rfl,hq,hI'⟩:=hp;cases e' with
    | normal=>
     obtain⟨m',s1,hm',hsh,hq⟩:=hq;exact ihk m' s1 a' w' (by omega) hq (Dr rfl hsh hI')
    | exit i=>exact⟨.exit i,st',rfl,hq,hI'⟩
    | ret=>exact⟨.ret,st',rfl,hq,hI'⟩
  exact wpIn_loop_rounds (n+1) (key (n+1) n s0 a w (by omega) h0 (Dr rfl hsh0 hI))
 | exit id=>intro Q st a w h hI;exact wpIn_exit ⟨.exit id,st,rfl,h,hI⟩
 | ret=>intro Q st a w h hI;exact wpIn_ret ⟨.ret,st,rfl,h,hI⟩
 | scope c ih=>
  intro Q st a w h hI;refine LC (wpIn_mono (ih Q st a w h hI) λ e a' w' hp=>?_);obtain⟨e',st',rfl,hq,hI'⟩:=hp;cases e'<;>exact⟨_,st',rfl,hq,hI'⟩
 | label l=>intro Q st a w h hI;exact wpIn_label ⟨.normal,st,rfl,h,hI⟩
 | rangeFunc g ps asg body=>
  intro Q st a w h hI;obtain⟨s1,hsh,h⟩:=h;rcases h with h|h
  ·exact Va hΓ hrd h (Dr rfl hsh hI)
  ·exact Tl hΓ hrd h (Dr rfl hsh hI)
 | _=>intro Q st a w h;exact h.elim
def YJ (Γ:Nat->Ty) (st:St):ResultVar->Option (AV×Prop)
 | .tmp t=>some (lkA st.env t,True)
 | .cell a t=>bif (Γ t).ok then(match CX (Γ t) st.objs (lkA st.env a)with
  | some e=>some (e.v,e.ob)
  | none=>none)else none
def Qe (Γ:Nat->Ty) (st:St):List ResultVar->Option (List AV×Prop)
 | []=>some ([],True)
 | r::rs=>match YJ Γ st r,Qe Γ st rs with
  | some (v,p),some (vs,q)=>some (v::vs,p/\q)
  | _,_=>none
def Vd (Γ:Nat->Ty) (rs:List ResultVar) (r:AV) (st:St):Prop:=
 match Qe Γ st rs with
 | some ([v],p)=>p/\P4 st.objs v r/\(ksE (LE v r)).Nodup
 | some (vs,p)=>match r with
  | .tup l=>p/\Wn st.objs vs l/\(ksE (LF vs l)).Nodup
  | _=>False
 | none=>False
def Ve (Γ:Nat->Ty) (rs:List ResultVar) (r:AV):Ex->St->Prop
 | .exit _,_=>False
 | _,st=>Vd Γ rs r st
def YK (tmps:Array Value):ResultVar->Sem Value
 | .tmp t=>pure (tmps.getD t undef)
 | .cell a t=>do loadVar t (← asAddr (tmps.getD a undef))
theorem Qf (fn:Func) (tmps:Array Value):results fn tmps=(do let vs ← fn.results.mapM (YK tmps);pure (if h:vs.size=1 then vs[0]else .tuple vs)):=by
 rfl
theorem Wz {Γ:Nat->Ty} (hΓ:I0 P Γ) {st:St} {tmps:Array Value} (hS:Sim N H0 F0 F ρ st.objs w.heap) (hSl:Cf F ρ st.env tmps) {r:ResultVar} {v:AV} {p:Prop} (h:YJ Γ st r=some (v,p)) (hp:p) :
  ∃ x,(YK tmps r).run P w=.ok x w/\Ak F ρ v x:=by
 cases r with
 | tmp t=>simp only[YJ,Jl9,Prod.mk.injEq]at h;obtain⟨rfl,rfl⟩:=h;exact⟨_,rfl,hSl t⟩
 | cell a t=>
  simp only[YJ]at h;cases hok:(Γ t).ok with
  | false=>rw[hok]at h;cases h
  | true=>
   rw[hok,cond_true]at h;split at h
   ·rename_i e he;simp only[Jl9,Prod.mk.injEq]at h;obtain⟨rfl,rfl⟩:=h;obtain⟨_,_,_,x,hx,hr⟩:=Ot (hΓ t hok) hS (λ _ _ h=>h) he hp (hSl a);refine⟨x,?_,hr⟩;simp only[Instr.loadAt,YK,JlG]at hx⊢;cases hv:tmps.getD a undef with
    | pointer q=>
     cases q with
     | none=>rw[hv]at hx;simp[Instr.sureAddr]at hx
     | some q=>rw[hv]at hx;simpa [Instr.sureAddr,asAddr]using hx
    | _=>rw[hv]at hx;simp[Instr.sureAddr]at hx
   ·cases h
theorem H2 {Γ:Nat->Ty} (hΓ:I0 P Γ) {st:St} {tmps:Array Value} (hS:Sim N H0 F0 F ρ st.objs w.heap) (hSl:Cf F ρ st.env tmps):∀ (rs:List ResultVar) (vs:List AV) (p:Prop),Qe Γ st rs=some (vs,p)->p ->
  ∃ xs:List Value,(rs.mapM (YK tmps)).run P w=.ok xs w/\CR F ρ vs xs:=by
 intro rs;induction rs with
 | nil=>intro vs p h _;cases h;exact⟨[],rfl,rfl,λ i a v ha=>by simp at ha⟩
 | cons r rs ih=>
  intro vs p h hp;simp only[Qe]at h;split at h
  ·rename_i v p1 vs' q h1 h2;cases h;obtain⟨x,hx,hr⟩:=Wz hΓ hS hSl h1 hp.1;obtain⟨xs,hxs,hc⟩:=ih vs' q h2 hp.2;refine⟨x::xs,?_,by simp[hc.1],λ i a u ha hu=>?_⟩
   ·rw[List.mapM_cons];simp only[JlG,hx,JlE,hxs,JlH]
   ·cases i with
    | zero=>simp at ha hu;subst ha;subst hu;exact hr
    | succ i=>exact hc.2 i a u (by simpa using ha) (by simpa using hu)
  ·cases h
theorem YL {Γ:Cx} (hfol:P.follows .mixedOrders=true) (hΓ:Gv P Γ) (hrd:Γ.rd=false) {f:FuncId} {fn:Func} {c:Code} {args:List AV} {r:AV} (hf:P.funcs[f]? = some fn) (hb:fn.body=some c) (hnm:(fn.name == "runtime.NumGoroutine")=false)
  (hnt:Γ.nt.n=fn.ntmps) (hlen:args.length<=fn.ntmps) (h:wpA Γ c (Ve Γ.ty fn.results.toList r) ⟨(List.range args.length).zip args,[]⟩):AQ P f args r:=by
 refine⟨⟨fn,c,hf,hb,hnm⟩,λ F w vs hvs hF=>?_⟩;have hvl:args.length=vs.size:=by have:=hvs.1;simpa using this
 refine callsIn_wide.1 (callsIn_of_wp_marks (F:=Fence.wide) (n:=0) hf hb trivial ?_ rfl);have hS:Sim (λ b=>w.heap.size<=b) (λ b=>w.heap[b]?) F F noR [] w.heap:={ size:=λ b hb=>hb,old:=λ b _=>rfl,f0:=FLe.refl _,fnew:=λ b o h _=>h,frz:=hF,loc:=λ k L h=>by simp[noR]at h,dom:=λ k L h=>by simp[noR]at h,obj:=λ k L ob h=>by simp[noR]at h,sep:=λ k k' L L' ob ob' h=>by simp[noR]at h,inn:=⟨λ _ _=>none,⟨(λ k c M h=>by cases h),(λ k c M k' L ob h=>by cases h),(λ k c M k' c' M' h=>by cases h),(λ k L ob0 sz es h=>by simp[noR]at h)⟩⟩ };have hSl:Cf F noR ((List.range args.length).zip args) (vs++Array.replicate (fn.ntmps-vs.size) undef):=by
  intro t;rcases S6 (List.range args.length) args t (by simp)with h|⟨i,a,h1,h2,h3⟩
  ·rw[h];exact .top _
  ·rw[h3];have hi:=Af h2;have:i=t:=by
    rw[List.getElem?_range hi]at h1;exact Option.some.inj h1
   subst this;have hv:vs[i]?=some vs[i]:=Jl4 (by omega);have:(vs++Array.replicate (fn.ntmps-vs.size) undef).getD i undef=vs[i]:=by
    rw[Jl5,Array.getElem?_append_left (by omega),hv];rfl
   rw[this];exact hvs.2 i a _ h2 (by simp)
 refine wpIn_mono (Vc (rd:=none) (hrd:=hrd) (w0:=⟨w,λ _=>none,λ _=>none⟩) hfol hΓ c _ _ _ w h ⟨F,noR,hS,hSl,⟨by simp[hnt];omega,λ t v h=>by cases h⟩,Dfr.nil,Mu.refl w,λ j L h=>by cases h⟩) λ e a' w' hp=>?_;obtain⟨e',st',rfl,hq,F',ρ',hS',hSl',hn',hdf'⟩:=hp;obtain⟨l,hl1,hl2,hl3⟩:=hdf'.1;have hF0:∀ b,w.heap.size<=b->F b=none:=λ b hb=>by
  cases hf:F b with
  | none=>rfl
  | some o=>have:=Av (hF b o hf);omega
 have fin:Vd Γ.ty fn.results.toList r st'->LeavesInM Fence.wide 0 P fn a'.tmps (λ e w'=>∃ v F' ρ,e=.returned v/\Sim (λ b=>w.heap.size<=b) (λ b=>w.heap[b]?) F F' ρ ((BZ true 0 r).2.map some) w'.heap/\Ak F' ρ (BZ true 0 r).1 v/\Mu w w') a'.defers .returning w':=by
  intro hr;refine OL (w0:=⟨w,λ _=>none,λ _=>none⟩) hΓ.qf (λ b hb=>hb) hF0 hl1 F' w' hl2 hl3 hS' λ F'' w'' hFc hS'' hmu''=>?_;replace hSl':Cf F'' ρ' st'.env a'.tmps:=λ t=>(hSl' t).monoC hFc (RLe.refl _);have hmu:Mu w w'':=hdf'.2.1.trans hmu'';clear hS' hl3;revert hS'' hSl';generalize F''=F';generalize w''=w' at hmu⊢;intro hS' hSl';unfold Vd at hr;have hmap:∀ (xs:List Value),(fn.results.toList.mapM (YK a'.tmps)).run P w'=.ok xs w'->(results fn a'.tmps).run P w'=.ok (if h:xs.toArray.size=1 then xs.toArray[0]else .tuple xs.toArray) w':=by
   intro xs hxs;rw[Qf,Array.mapM_eq_mapM_toList];simp only[JlG,Sem.run_map,hxs,JlE,JlH]
  split at hr
  ·rename_i v p hres;obtain⟨hp,ho,hnd⟩:=hr;obtain⟨xs,hxs,hcr⟩:=H2 hΓ.ty hS' hSl' _ _ _ hres hp
   match xs,hcr.1 with
   | [x],_=>
    obtain⟨g1,g2⟩:=Td ho 0;refine⟨x,by rw[hmap _ hxs];rfl,x,F',G1 ρ' (LE v r),rfl,?_,?_⟩
    ·have hi:(BZ true 0 r).2=(B6 true 0 r).2:=by
      cases r with
      | tup l=>
       cases v<;>simp[P4,LD]at ho
       all_goals (rename_i y;cases y<;>simp at ho)
      | _=>rfl
     rw[hi];exact hS'.out (by rw[g1]) hnd g2
    ·have hi:(BZ true 0 r).1=(B6 true 0 r).1:=by
      cases r with
      | tup l=>
       cases v<;>simp[P4,LD]at ho
       all_goals (rename_i y;cases y<;>simp at ho)
      | _=>rfl
     rw[hi];exact⟨U0 ho (λ j x hx=>by rw[Jmd];exact hx) (hcr.2 0 v x rfl rfl),hmu⟩
  ·rename_i vs' p hne hres;split at hr
   ·rename_i l;obtain⟨hp,ho,hnd⟩:=hr;obtain⟨xs,hxs,hcr⟩:=H2 hΓ.ty hS' hSl' _ _ _ hres hp;obtain⟨g1,g2⟩:=Jdh vs' l 0 ho;have hne1:xs.toArray.size≠1:=by
     intro h1;have:vs'.length=1:=by rw[hcr.1];simpa using h1
     match vs',this with
     | [y],_=>exact hne y rfl
    refine⟨.tuple xs.toArray,by rw[hmap _ hxs,dif_neg hne1],_,F',G1 ρ' (LF vs' l),rfl,hS'.out (by rw[g1];rfl) hnd g2,?_⟩;have:=Z2 (F:=F') (ρ:=ρ') (E:=LF vs' l) vs' l 0 xs ho (λ j x hx=>by rw[Jmd];exact hx) hcr;exact⟨.tup _ _ (by have:=this.1;simpa using this) λ j a v ha hv=>this.2 j a v ha (by simpa using hv),hmu⟩
   ·exact hr.elim
  ·exact hr.elim
 cases e' with
 | normal=>exact fin hq
 | ret=>exact fin hq
 | exit i=>exact hq.elim
def Jdo (Γ:Nat->Ty) (rs:List ResultVar) (r:AV) (objs1:List (Option Ob)) (st:St):Prop:=
 st.objs=objs1/\match Qe Γ st rs with
  | some ([v],p)=>p/\v=r
  | some (vs,p)=>p/\r=.tup vs
  | none=>False
def Sw (nk:Nat) (Γ:Nat->Ty) (rs:List ResultVar) (r:AV) (objs1:List (Option Ob)):Ex->St->Prop
 | .exit _,_=>False
 | _,st=>∃ s',Ay nk st s'/\Jdo Γ rs r objs1 s'
def Ji8 (nk:Nat) (Γ:Nat->Ty) (rs:List ResultVar) (R:AV->List (Option Ob)->Prop):Ex->St->Prop
 | .exit _,_=>False
 | _,st=>∃ s',Ay nk st s'/\∃ r objs1,R r objs1/\Jdo Γ rs r objs1 s'
theorem WA {Q:Ex->St->Prop} {Γ:Cx} (hfol:P.follows .mixedOrders=true) (hΓ:Gv P Γ) (hrd:Γ.rd=false) {f:FuncId} {fn:Func} {c:Code} {args:List AV} {objs:List (Option Ob)} {nb:Nat} {R:AV->List (Option Ob)->Prop} (hf:P.funcs[f]? = some fn) (hb:fn.body=some c) (hnm:(fn.name == "runtime.NumGoroutine")=false)
  (hnt:Γ.nt=⟨fn.ntmps,[],nb,Γ.nt.qf⟩) (hlen:args.length<=fn.ntmps)
  (hQ:∀ e s,Q e s->Ji8 nb Γ.ty fn.results.toList R e s) (h:wpA Γ c Q ⟨(List.range args.length).zip args,objs⟩):HY P f args objs nb R:=by
 refine⟨⟨fn,c,hf,hb,hnm⟩,λ N F ρ w vs hS hvs=>?_⟩;have hvl:args.length=vs.size:=by have:=hvs.1;simpa using this
 refine callsIn_wide.1 (callsIn_of_wp_marks (F:=Fence.wide) (n:=0) hf hb trivial ?_ rfl);have hget:∀ i,i<vs.size->(vs++Array.replicate (fn.ntmps-vs.size) undef)[i]?=vs[i]? := λ i hi=>Array.getElem?_append_left hi;have hSl:Cf F ρ ((List.range args.length).zip args) (vs++Array.replicate (fn.ntmps-vs.size) undef):=by
  intro t;rcases S6 (List.range args.length) args t (by simp)with h|⟨i,a,h1,h2,h3⟩
  ·rw[h];exact .top _
  ·rw[h3];have hi:=Af h2;have:i=t:=by
    rw[List.getElem?_range hi]at h1;exact Option.some.inj h1
   subst this;have hv:vs[i]?=some vs[i]:=Jl4 (by omega);rw[Jl5,hget i (by omega),hv];exact hvs.2 i a _ h2 (by simp)
 have hts:TS Γ.nt (λ _=>none) (vs++Array.replicate (fn.ntmps-vs.size) undef):=by
  rw[hnt];exact⟨by simp;omega,λ t v ht=>by cases ht⟩
 have hrk:RK ⟨w,λ _=>none,λ j=>if j<nb then ρ j else none⟩ Γ.nt ρ:=λ j L hj=>by
  simp only at hj;split at hj
  ·rename_i hlt;exact⟨by rw[hnt];exact hlt,hj⟩
  ·cases hj
 refine wpIn_mono (Vc (rd:=none) (hrd:=hrd) (w0:=⟨w,λ _=>none,λ j=>if j<nb then ρ j else none⟩) hfol hΓ c _ _ _ w h ⟨F,ρ,hS,hSl,hts,Dfr.nil,Mu.refl w,hrk⟩) λ e a' w' hp=>?_
 obtain⟨e',st',rfl,hq,hI⟩:=hp;replace hq:=hQ _ _ hq;have hN:∀ b,w.heap.size<=b->N b:=hS.size;have hF0:∀ b,w.heap.size<=b->F b=none:=λ b hb=>by
  cases hf:F b with
  | none=>rfl
  | some o=>have:=Av (hS.frz b o hf);omega
 have fin:(∃ s',Ay nb st' s'/\∃ r objs1,R r objs1/\Jdo Γ.ty fn.results.toList r objs1 s')->LeavesInM Fence.wide 0 P fn a'.tmps (λ e w'=>∃ v F' ρ' r objs1,R r objs1/\e=.returned v/\Sim N (λ b=>w.heap[b]?) F F' ρ' objs1 w'.heap/\(∀ j,j<nb->∀ L,ρ j=some L->ρ' j=some L)/\Ak F' ρ' r v/\Mu w w') a'.defers .returning w':=by
  rintro⟨s',hsh,r,objs1,hR,ho,hr⟩;obtain⟨F',ρ',hS',hSl',hn',hdf'⟩:=Dr (by rw[hnt]) hsh hI;obtain⟨l,hl1,hl2,hl3⟩:=hdf'.1;refine OL (w0:=⟨w,λ _=>none,λ j=>if j<nb then ρ j else none⟩) hΓ.qf hN hF0 hl1 F' w' hl2 hl3 hS' λ F'' w'' hFc hS'' hmu''=>?_
  replace hSl':Cf F'' ρ' s'.env a'.tmps:=λ t=>(hSl' t).monoC hFc (RLe.refl _);have hmu:Mu w w'':=hdf'.2.1.trans hmu'';have hrk':=hdf'.2.2;clear hS' hl3 hI;revert hS'' hSl';generalize F''=F';generalize w''=w' at hmu⊢;intro hS' hSl';have hmap:∀ (xs:List Value),(fn.results.toList.mapM (YK a'.tmps)).run P w'=.ok xs w'->(results fn a'.tmps).run P w'=.ok (if h:xs.toArray.size=1 then xs.toArray[0]else .tuple xs.toArray) w':=by
   intro xs hxs;rw[Qf,Array.mapM_eq_mapM_toList];simp only[JlG,Sem.run_map,hxs,JlE,JlH]
  have hS1:Sim N (λ b=>w.heap[b]?) F F' ρ' objs1 w'.heap:=by rw[← ho];exact hS'
  have hkeep:∀ j,j<nb->∀ L,ρ j=some L->ρ' j=some L:=λ j hj L hL=>(hrk' j L (by simp only;rw[if_pos hj];exact hL)).2;split at hr
  ·rename_i v p hres;obtain⟨hp,rfl⟩:=hr;obtain⟨xs,hxs,hcr⟩:=H2 hΓ.ty hS' hSl' _ _ _ hres hp
   match xs,hcr.1 with
   | [x],_=>exact⟨x,by rw[hmap _ hxs];rfl,x,F',ρ',v,objs1,hR,rfl,hS1,hkeep,hcr.2 0 v x rfl rfl,hmu⟩
  ·rename_i vs' p hne hres;obtain⟨hp,rfl⟩:=hr;obtain⟨xs,hxs,hcr⟩:=H2 hΓ.ty hS' hSl' _ _ _ hres hp;have hne1:xs.toArray.size≠1:=by
    intro h1;have:vs'.length=1:=by rw[hcr.1];simpa using h1
    match vs',this with
    | [y],_=>exact hne y rfl
   exact⟨.tuple xs.toArray,by rw[hmap _ hxs,dif_neg hne1],_,F',ρ',_,objs1,hR,rfl,hS1,hkeep,.tup _ _ (by simpa using hcr.1) λ j a v ha hv=>hcr.2 j a v ha (by simpa using hv),hmu⟩
  ·exact hr.elim
 cases e' with
 | normal=>exact fin hq
 | ret=>exact fin hq
 | exit i=>exact hq.elim
theorem YM {Γ:Cx} (hfol:P.follows .mixedOrders=true) (hΓ:Gv P Γ) (hrd:Γ.rd=false) {f:FuncId} {fn:Func} {c:Code} {args:List AV} {objs objs1:List (Option Ob)} {nb:Nat} {r:AV} (hf:P.funcs[f]? = some fn) (hb:fn.body=some c) (hnm:(fn.name == "runtime.NumGoroutine")=false)
  (hnt:Γ.nt=⟨fn.ntmps,[],nb,Γ.nt.qf⟩) (hlen:args.length<=fn.ntmps)
  (h:wpA Γ c (Sw nb Γ.ty fn.results.toList r objs1) ⟨(List.range args.length).zip args,objs⟩):BV P f args objs nb r objs1:=by
 have:=WA (R:=λ r' O'=>r'=r/\O'=objs1) hfol hΓ hrd hf hb hnm hnt hlen (λ e s hs=>by
  cases e with
  | exit i=>exact hs.elim
  | normal=>obtain⟨s',h1,h2⟩:=hs;exact⟨s',h1,r,objs1,⟨rfl,rfl⟩,h2⟩
  | ret=>obtain⟨s',h1,h2⟩:=hs;exact⟨s',h1,r,objs1,⟨rfl,rfl⟩,h2⟩) h
 refine⟨this.1,λ N F ρ w vs hS hc=>(this.2 N F ρ w vs hS hc).mono λ e w' he=>?_⟩;obtain⟨v,F',ρ',_,_,⟨rfl,rfl⟩,h1,h2,h3,h4,h5⟩:=he;exact⟨v,F',ρ',h1,h2,h3,h4,h5⟩
end Go.AI
end
section
namespace Go.AI
variable {P:Program} {F F':Nat->Option Obj} {ρ ρ':Nat->Option Loc} {w:World}
def Tp (P:Program) (t:TypeId):Prop:=(∃ k,P.underlying t=some (.int k))\/P.underlying t=some .bool\/P.underlying t=some .string
theorem CK {t:TypeId} (h:Tp P t) {cs:Array Value} {o:Nat} {v:Value} (hv:cs[o]?=some v):(part t cs o).run P w=.ok v w:=by
 have hag:(isAgg t).run P w=.ok false w:=by
  rcases h with⟨k,h⟩|h|h<;>rw[Lf w h]<;>rfl
 simp only[part,JlG,hag,JlE,Jmb,if_false,hv,JlH]
def YN (P:Program) (t:TypeId):TK->Prop
 | .int _=>∃ k,P.underlying t=some (.int k)
 | .bool=>P.underlying t=some .bool
 | .string=>P.underlying t=some .string
 | _=>False
theorem Ja {t:TypeId} {k:TK} (h:YN P t k):Tp P t:=by
 cases k with
 | int _=>exact .inl h
 | bool=>exact .inr (.inl h)
 | string=>exact .inr (.inr h)
 | _=>exact h.elim
theorem Jb (d:Nat) (xs ys:Array Value):∀ (fs:List Field) (ks:List TK) (i:Nat) (l l':List AV) (r:Bool),fs.length=ks.length ->
  (∀ (j:Nat) f k,fs[j]? = some f->ks[j]? = some k->f.name ≠ "_"/\f.offset=i+j/\YN P f.type k)->Az ks l l'=some r ->
  (∀ (j:Nat) a,l[j]?=some a->∃ v,xs[i+j]?=some v/\Ak F ρ a v)->(∀ (j:Nat) a,l'[j]?=some a->∃ v,ys[i+j]?=some v/\Ak F ρ a v)->(Op.eqFields (d+1) xs ys fs).run P w=.ok r w:=by
 intro fs;induction fs with
 | nil=>
  intro ks i l l' r hn _ h _ _;cases ks with
  | cons=>cases hn
  | nil=>
   cases l with
   | cons=>simp[Az]at h
   | nil=>cases l' with
    | cons=>simp[Az]at h
    | nil=>simp[Az]at h;subst h;rfl
 | cons f fs ih=>
  intro ks i l l' r hn hf h hl hl';cases ks with
  | nil=>cases hn
  | cons k ks=>
   obtain⟨hname,hoff,hfit⟩:=hf 0 f k rfl rfl;have hrec:∀ (m m':List AV) (x y:AV) (r':Bool),l=x::m->l'=y::m'->Az ks m m'=some r'->(Op.eqFields (d+1) xs ys fs).run P w=.ok r' w:=by
    intro m m' x y r' e1 e2 hr';subst e1;subst e2;refine ih ks (i+1) m m' r' (by simpa using hn) (λ j f k hf' hk'=>?_) hr' (λ j a ha=>?_) (λ j a ha=>?_)
    ·obtain⟨a1,a2,a3⟩:=hf (j+1) f k (by simpa using hf') (by simpa using hk');exact⟨a1,by omega,a3⟩
    ·obtain⟨v,h1,h2⟩:=hl (j+1) a (by simpa using ha);exact⟨v,by rw[← h1];congr 1;omega,h2⟩
    ·obtain⟨v,h1,h2⟩:=hl' (j+1) a (by simpa using ha);exact⟨v,by rw[← h1];congr 1;omega,h2⟩
   have step:∀ (x y:AV) (m m':List AV) (b r':Bool),l=x::m->l'=y::m'->Az ks m m'=some r'->r=(b&&r')->(∀ u v,Ak F ρ x u->Ak F ρ y v->(Op.equalIn (d+1) f.type u v).run P w=.ok b w)->(Op.eqFields (d+1) xs ys (f::fs)).run P w=.ok r w:=by
    intro x y m m' b r' e1 e2 hr' hb hrun;obtain⟨u,hu1,hu2⟩:=hl 0 x (by rw[e1];rfl);obtain⟨v,hv1,hv2⟩:=hl' 0 y (by rw[e2];rfl);have hpl:=Ja hfit;simp only[Op.eqFields];rw[if_pos hname];have hp1:=CK (P:=P) (w:=w) hpl (o:=f.offset) (cs:=xs) (v:=u) (by rw[hoff];simpa using hu1);have hp2:=CK (P:=P) (w:=w) hpl (o:=f.offset) (cs:=ys) (v:=v) (by rw[hoff];simpa using hv1);simp only[JlG,hp1,hp2,JlE,hrun u v hu2 hv2];cases b with
    | false=>simp[hb]
    | true=>simp only[JlM,Jmb,if_false];rw[hrec m m' x y r' e1 e2 hr',hb];rfl
   unfold Az at h;split at h
   ·rename_i heq;cases heq
   ·rename_i k0 ks0 k1 a xs0 k2 b ys0 e0;cases e0;split at h
    ·rename_i r' hr';cases hk:(k1==k2)with
     | false=>rw[hk]at h;cases h
     | true=>
      rw[hk,cond_true]at h;have:k1=k2:=by simpa using hk
      subst this;cases h;refine step _ _ _ _ (a==b) r' rfl rfl hr' rfl λ u v hu hv=>?_;rw[hu.int,hv.int];obtain⟨k3,hk3⟩:=hfit;exact run_equalIn_int w d f.type k1 k3 a b hk3
    ·cases h
   ·rename_i ks0 a xs0 b ys0 e0;cases e0;split at h
    ·rename_i r' hr';cases h;refine step _ _ _ _ (a==b) r' rfl rfl hr' rfl λ u v hu hv=>?_;rw[hu.bool,hv.bool];exact run_equalIn_bool' w d f.type a b hfit
    ·cases h
   ·rename_i ks0 a xs0 b ys0 e0;cases e0;split at h
    ·rename_i r' hr';cases h;refine step _ _ _ _ (a==b) r' rfl rfl hr' rfl λ u v hu hv=>?_;rw[hu.str,hv.str,run_equalIn_string w d f.type _ _ hfit,Ci,Ci]
    ·cases h
   ·cases h
theorem Lj {t:TypeId} {fields:Array Field} {ks:List TK} (hd:P.underlying t=some (.struct fields)) (hst:P.stoodInHeld t=false) (hg:P.eqGuardType P.depth t=false) (hn:fields.size=ks.length)
  (hf:∀ (j:Nat) f k,fields[j]? = some f->ks[j]? = some k->f.name ≠ "_"/\f.offset=j/\YN P f.type k):MS P t ks:=by
 intro l l' r xs ys F ρ w x y h hx hy;have hfo:P.fieldsOf t=fields:=by simp[Program.fieldsOf,hd]
 have hrun:(Op.equalIn 10000 t (.agg xs) (.agg ys)).run P w=.ok r w:=by
  rw[run_equalIn_struct w 9999 t xs ys (by rw[hfo];exact hd) hst,hfo];cases hx with
  | agg _ _ hxl hxr=>
   cases hy with
   | agg _ _ hyl hyr=>
    refine Jb (F:=F) (ρ:=ρ) 9998 xs ys fields.toList ks 0 l l' r (by simpa using hn) (λ j f k h1 h2=>?_) h (λ j a ha=>?_) (λ j a ha=>?_)
    ·obtain⟨a1,a2,a3⟩:=hf j f k (by simpa using h1) h2;exact⟨a1,by omega,a3⟩
    ·have hj:=Af ha;refine⟨xs[j],?_,hxr j a _ ha (Jl4 (by omega))⟩;rw[Jmd];exact Jl4 (by omega)
    ·have hj:=Af ha;refine⟨ys[j],?_,hyr j a _ ha (Jl4 (by omega))⟩;rw[Jmd];exact Jl4 (by omega)
 constructor
 ·simp only[JlG,run_eqGuard_agg w .eql t x y xs ys hg,JlE];rw[run_eql_struct,hrun];rfl
 ·simp only[JlG,run_eqGuard_agg w .neq t x y xs ys hg,JlE];rw[run_neq_struct,hrun];rfl
def Inf (P:Program) (t:TypeId) (s b:Nat) (z:Value):Prop:=∃ i,P.info? t=some i/\i.size=s/\i.bytes=b/\i.zero=some z
theorem AK {t:TypeId} {z:Value} {s b:Nat} (h:(P.info? t).map (λ i=>(i.zero,i.size,i.bytes))=some (some z,s,b)):Inf P t s b z:=by
 rw[Jl2]at h;obtain⟨i,h1,h2⟩:=h;simp only[Prod.mk.injEq]at h2;exact⟨i,h1,h2.2.1,h2.2.2,h2.1⟩
def Jfs (P:Program) (fields:Array Field) (i o s:Nat):Prop:=∃ f j,fields[i]?=some f/\f.offset=o/\P.info? f.type=some j/\j.size=s/\s≠0/\∃ e,P.underlying f.type=some e/\(s=1->HW e=false)
theorem BW {fields:Array Field} {t:TypeId} {i o s b:Nat} {z:Value} {e:TypeDesc} (h:Inf P t s b z) (hu:P.underlying t=some e) (hf:(fields[i]?).map (λ f=>(f.type,f.offset))=some (t,o):=by rfl) (h0:s≠0:=by decide) (h1:s=1->HW e=false:=by decide):Jfs P fields i o s:=by
 obtain⟨j,g1,g2,_⟩:=h;rw[Jl2]at hf;obtain⟨f,q1,q2⟩:=hf;simp only[Prod.mk.injEq]at q2;obtain⟨rfl,rfl⟩:=q2;exact⟨f,j,q1,rfl,g1,g2,h0,e,hu,h1⟩
def StF (P:Program) (fields:Array Field) (k:Nat) (offs:List (Nat×Nat)):Prop:=∀ (i o s:Nat),offs[i]?=some (o,s)->Jfs P fields (k+i) o s
theorem FA {fields:Array Field} {k:Nat}:StF P fields k []:=λ i o s h=>by simp at h
theorem A3 {fields:Array Field} {k o s:Nat} {offs:List (Nat×Nat)} (h:Jfs P fields k o s) (ht:StF P fields (k+1) offs):StF P fields k ((o,s)::offs):=λ i o' s' hi=>by
 cases i with
 | zero=>simp only[JlW,Jl9,Prod.mk.injEq]at hi;obtain⟨rfl,rfl⟩:=hi;exact h
 | succ i=>
  have:=ht i o' s' (by simpa using hi);rwa[JlT,Nat.add_comm 1 i]at this
theorem stF {fields:Array Field} {offs:List (Nat×Nat)} (h:StF P fields 0 offs) (hl:fields.size=offs.length:=by rfl):In P (.struct fields) (.struct offs):=⟨fields,rfl,hl,λ i o s hi=>by have:=h i o s hi;rwa[Jmd]at this⟩
theorem slK {elem:TypeId} {esz eb:Nat} {ez:List D} {z:Value} (h:Inf P elem esz eb z) (hu:ez=[.int .u8 0]->P.underlying elem=some (.int .u8):=by (intro h;cases h)) (hz:z.cells.toList=ez.map D.val:=by rfl) (hp:ez.all D.isPlain=true:=by rfl) (hl:ez.length=esz:=by rfl):In P (.slice elem) (.slice esz eb ez):=by
 obtain⟨i,g1,g2,g3,g4⟩:=h;exact⟨elem,i,z,rfl,g1,g2,g3,g4,hz,hp,hl,hu⟩
theorem arK {elem:TypeId} {n esz eb:Nat} {z:Value} (h:Inf P elem esz eb z):In P (.array n elem) (.array n esz):=by
 obtain⟨i,g1,g2,_⟩:=h;exact⟨elem,i,rfl,g1,g2⟩
theorem tfM {t:TypeId} {y:Ty} {b:Nat} {z:Value} {d:TypeDesc} (h:Inf P t y.size b z) (hu:P.underlying t=some d) (hk:In P d y.kind) (he:y.eqk≠[]->MS P t y.eqk:=by exact λ h=>absurd rfl h) (ha:HW d=y.agg:=by rfl) (hz:z.cells.toList=y.zero.map D.val:=by rfl) (hp:y.zero.all D.isPlain=true:=by rfl) (h1:y.agg=false->y.size=1:=by first|exact λ _=>rfl|(intro h;cases h)) (h0:1<=y.size:=by decide):AD P t y:=by
 obtain⟨i,g1,g2,_,g4⟩:=h;exact⟨⟨i,z,g1,g2,g4,hz⟩,hp,⟨d,hu,ha,hk⟩,h1,h0,he⟩
theorem Vf (d:Nat) {e:TypeId} {k0:IntKind} (he:P.underlying e=some (.int k0)) (xs ys:Array Value):∀ (m s:Nat) (l l':List AV) (r:Bool),Az (List.replicate m (.int k0)) l l'=some r ->
  (∀ (j:Nat) a,l[j]?=some a->∃ v,xs[s+j]?=some v/\Ak F ρ a v)->(∀ (j:Nat) a,l'[j]?=some a->∃ v,ys[s+j]?=some v/\Ak F ρ a v)->(Op.eqItems (d+1) e 1 xs ys (List.range' s m)).run P w=.ok r w:=by
 intro m;induction m with
 | zero=>
  intro s l l' r h _ _;cases l with
  | cons=>simp[Az]at h
  | nil=>cases l' with
   | cons=>simp[Az]at h
   | nil=>simp[Az]at h;subst h;rfl
 | succ m ih=>
  intro s l l' r h hl hl';rw[List.replicate_succ]at h;unfold Az at h;split at h
  ·rename_i heq;cases heq
  ·rename_i k2 ks0 k1 a xs0 k2' b ys0 e0;cases e0;split at h
   ·rename_i r' hr';cases hk:(k1==k2')with
    | false=>rw[hk]at h;cases h
    | true=>
     rw[hk,cond_true]at h;have:k1=k2':=by simpa using hk
     subst this;cases h;obtain⟨u,hu1,hu2⟩:=hl 0 _ rfl;obtain⟨v,hv1,hv2⟩:=hl' 0 _ rfl;have hp1:=CK (P:=P) (w:=w) (.inl ⟨k0,he⟩) (o:=s*1) (cs:=xs) (v:=u) (by simpa using hu1);have hp2:=CK (P:=P) (w:=w) (.inl ⟨k0,he⟩) (o:=s*1) (cs:=ys) (v:=v) (by simpa using hv1);have hrec:=ih (s+1) xs0 ys0 r' hr' (λ j x hx=>by obtain⟨y,h1,h2⟩:=hl (j+1) x (by simpa using hx);exact⟨y,by rw[← h1];congr 1;omega,h2⟩) (λ j x hx=>by obtain⟨y,h1,h2⟩:=hl' (j+1) x (by simpa using hx);exact⟨y,by rw[← h1];congr 1;omega,h2⟩);have hq:(Op.equalIn (d+1) e u v).run P w=.ok (a==b) w:=by rw[hu2.int,hv2.int];exact run_equalIn_int w d e k1 k0 a b he
     rw[List.range'_succ];simp only[Op.eqItems,JlG,hp1,hp2,hq,JlE];cases hab:(a==b)with
     | false=>simp
     | true=>simp only[JlM,Jmb,if_false,Bool.true_and];exact hrec
   ·cases h
  ·rename_i e0;cases e0
  ·rename_i e0;cases e0
  ·cases h
theorem WB {t e:TypeId} {n:Nat} {k:IntKind} {b:Nat} {z:Value} (hd:P.underlying t=some (.array n e)) (hu:P.underlying e=some (.int k)) (hi:Inf P e 1 b z) (hg:P.eqGuardType P.depth t=false):MS P t (List.replicate n (.int k)):=by
 intro l l' r xs ys F ρ w x y h hx hy;obtain⟨i,hi1,hi2,_⟩:=hi;have hc:P.cellsOf e=1:=by simp[Program.cellsOf,hi1,hi2]
 have hrun:(Op.equalIn 10000 t (.agg xs) (.agg ys)).run P w=.ok r w:=by
  rw[run_equalIn_array w 9999 xs ys hd hi1,hc,List.range_eq_range'];cases hx with
  | agg _ _ hxl hxr=>
   cases hy with
   | agg _ _ hyl hyr=>
    refine Vf (F:=F) (ρ:=ρ) 9998 hu xs ys n 0 l l' r h (λ j a ha=>?_) (λ j a ha=>?_)
    ·have hj:=Af ha;refine⟨xs[j],?_,hxr j a _ ha (Jl4 (by omega))⟩;rw[Jmd];exact Jl4 (by omega)
    ·have hj:=Af ha;refine⟨ys[j],?_,hyr j a _ ha (Jl4 (by omega))⟩;rw[Jmd];exact Jl4 (by omega)
 constructor
 ·simp only[JlG,run_eqGuard_agg w .eql t x y xs ys hg,JlE];rw[run_eql_struct,hrun];rfl
 ·simp only[JlG,run_eqGuard_agg w .neq t x y xs ys hg,JlE];rw[run_neq_struct,hrun];rfl
end Go.AI
end
section
namespace Go.AI
variable {P:Program} {F F':Nat->Option Obj} {ρ ρ':Nat->Option Loc} {w:World}
theorem LG {t:TypeId} (h:Tp P t) (e:Bool) (n:Nat) (v:Value):(Instr.checkKey e (n+1) t v).run P w=.ok () w:=by
 rcases h with⟨k,h⟩|h|h<;>simp only[Instr.checkKey,JlG,run_underlying h,JlE]<;>rfl
theorem O7 (e:Bool) (n:Nat) (cs:Array Value):∀ (fs:List Field),(∀ f∈fs,Tp P f.type/\∃ v,cs[f.offset]?=some v) ->
  (forIn fs PUnit.unit λ (f:Field) (_:PUnit)=>(do
   if f.name ≠ "_" then Instr.checkKey e (n+1) f.type (← part f.type cs f.offset)
   pure (ForInStep.yield PUnit.unit):Sem (ForInStep PUnit))).run P w=.ok PUnit.unit w:=by
 intro fs;induction fs with
 | nil=>intro _;rfl
 | cons f fs ih=>
  intro h;obtain ⟨hp,v,hv⟩:=h f (by simp);have ih':=ih λ g hg=>h g (by simp [hg]);rw [List.forIn_cons];by_cases hn:f.name ≠ "_"
  ·simp only[hn,ne_eq,not_false_eq_true,if_true,JlG,CK (w:=w) hp hv,JlE,LG (w:=w) hp e n v,JlH];simpa using ih'
  ·simp only[hn,if_false,JlG,JlE,JlH];simpa using ih'
theorem WC (s:ByteArray):(s==s)=true:=by
 show(s.data==s.data)=true;simp
theorem Gy:∀ (ks:List TK) (l l':List AV) (r:Bool),Az ks l l'=some r->l.length=ks.length/\l'.length=ks.length:=by
 intro ks;induction ks with
 | nil=>
  intro l l' r h;cases l with
  | cons=>simp[Az]at h
  | nil=>cases l' with
   | cons=>simp[Az]at h
   | nil=>exact⟨rfl,rfl⟩
 | cons k ks ih=>
  intro l l' r h;unfold Az at h;split at h
  ·rename_i heq;cases heq
  ·rename_i e0;cases e0;split at h
   ·rename_i r' hr';obtain⟨a,b⟩:=ih _ _ _ hr';simp[a,b]
   ·cases h
  ·rename_i e0;cases e0;split at h
   ·rename_i r' hr';obtain⟨a,b⟩:=ih _ _ _ hr';simp[a,b]
   ·cases h
  ·rename_i e0;cases e0;split at h
   ·rename_i r' hr';obtain⟨a,b⟩:=ih _ _ _ hr';simp[a,b]
   ·cases h
  ·cases h
theorem Tq (n:Nat):∀ (ks:List TK) (a b:List D) (xs ys:List Value),Az ks (a.map .d) (b.map .d)=some true->a.length=xs.length->b.length=ys.length ->
  (∀ (i:Nat) (x:D) (u:Value),a[i]?=some x->xs[i]?=some u->Bo F x u)->(∀ (i:Nat) (x:D) (u:Value),b[i]?=some x->ys[i]?=some u->Bo F x u)->((ys.zip xs).all λ (y,x)=>Instr.sameBits n y x)=true:=by
 intro ks;induction ks with
 | nil=>
  intro a b xs ys h h1 h2 _ _;obtain⟨e1,e2⟩:=Gy _ _ _ _ h;have:xs=[]:=List.length_eq_zero_iff.1 (by rw[← h1];simpa using e1);subst this;simp
 | cons k ks ih=>
  intro a b xs ys h h1 h2 ha hb;obtain⟨e1,e2⟩:=Gy _ _ _ _ h
  match a,e1 with
  | x::a,_=>
   match b,e2 with
   | y::b,_=>
    match xs,h1 with
    | u::xs,h1=>
     match ys,h2 with
     | v::ys,h2=>
      have hxu:=ha 0 x u rfl rfl;have hyv:=hb 0 y v rfl rfl;have rest:∀ r',Az ks (a.map .d) (b.map .d)=some r'->r'=true->((ys.zip xs).all λ (y,x)=>Instr.sameBits n y x)=true:=λ r' hr' e=>by
       subst e;exact ih a b xs ys hr' (by simpa using h1) (by simpa using h2) (λ i x u hx hu=>ha (i+1) x u (by simpa using hx) (by simpa using hu)) (λ i x u hx hu=>hb (i+1) x u (by simpa using hx) (by simpa using hu))
      have fin:∀ r',Az ks (a.map .d) (b.map .d)=some r'->r'=true->Instr.sameBits n v u=true->(((v::ys).zip (u::xs)).all λ (y,x)=>Instr.sameBits n y x)=true:=λ r' hr' e hs=>by
       simp only[List.zip_cons_cons,List.all_cons,hs,rest r' hr' e,Bool.and_self]
      simp only[JlV]at h;unfold Az at h;split at h
      ·rename_i heq;cases heq
      ·rename_i k0 ks0 k1 p xs0 k2 q ys0 e0 e3 e4;cases e0;simp only[List.cons.injEq,AV.d.injEq]at e3 e4;obtain⟨rfl,rfl⟩:=e3;obtain⟨rfl,rfl⟩:=e4;split at h
       ·rename_i r' hr';cases hk:(k1==k2)with
        | false=>rw[hk]at h;cases h
        | true=>
         rw[hk]at h;simp only[cond_true,Jl9,Jl0,beq_iff_eq]at h hk;cases hxu;cases hyv;refine fin r' hr' h.2 ?_;simp only[Instr.sameBits,Jl0,beq_iff_eq];exact⟨hk.symm,h.1.symm⟩
       ·cases h
      ·rename_i e0 e3 e4;cases e0;simp only[List.cons.injEq,AV.d.injEq]at e3 e4;obtain⟨rfl,rfl⟩:=e3;obtain⟨rfl,rfl⟩:=e4;split at h
       ·rename_i r' hr';simp only[Jl9,Jl0,beq_iff_eq]at h;cases hxu;cases hyv;refine fin r' hr' h.2 ?_;simp only[Instr.sameBits,beq_iff_eq];exact h.1.symm
       ·cases h
      ·rename_i e0 e3 e4;cases e0;simp only[List.cons.injEq,AV.d.injEq]at e3 e4;obtain⟨rfl,rfl⟩:=e3;obtain⟨rfl,rfl⟩:=e4;split at h
       ·rename_i r' hr';simp only[Jl9,Jl0,beq_iff_eq]at h;cases hxu;cases hyv;refine fin r' hr' h.2 ?_;obtain⟨h,_⟩:=h;subst h;simp only[Instr.sameBits];exact WC _
       ·cases h
      ·cases h
theorem NS {cs:List D} {x:Value} (h:KV F true cs x):∃ vs:Array Value,x=.agg vs/\Ak F ρ (.agg (cs.map .d)) (.agg vs)/\cs.length=vs.size/\∀ (i:Nat) (x:D) (u:Value),cs[i]?=some x->vs[i]?=some u->Bo F x u:=by
 obtain⟨vs,h1,h2,h3⟩:=h;refine⟨vs,h1,.agg _ _ (by simpa using h2) λ i a v ha hv=>?_,h2,h3⟩;simp only[Jl3,Jl2]at ha;obtain⟨d,hd,rfl⟩:=ha;exact .d _ _ (h3 i d v hd hv)
theorem Gp {t:TypeId} {fields:Array Field} {ks:List TK} (hd:P.underlying t=some (.struct fields)) (hst:P.stoodInHeld t=false) (hn:fields.size=ks.length)
  (hf:∀ (j:Nat) f k,fields[j]? = some f->ks[j]? = some k->f.name ≠ "_"/\f.offset=j/\YN P f.type k):HB P t true ks:=by
 have hfo:P.fieldsOf t=fields:=by simp[Program.fieldsOf,hd]
 refine⟨λ F a x w b hx hs=>?_,⟨_,hd,λ F a b x y r hx hy h=>?_⟩,λ F a b x y r w hx hy h=>?_,λ F a b x y hx hy h=>?_⟩
 ·obtain⟨vs,rfl,_,hl,hv⟩:=NS (ρ:=λ _=>none) hx;obtain⟨r,hr⟩:=Option.isSome_iff_exists.1 hs;have hlen:=(Gy _ _ _ _ hr).1;show(Instr.checkKey b (9999+1) t (.agg vs)).run P w=_;rw[Instr.checkKey];simp only[JlG,run_underlying hd,JlE];have:=O7 (P:=P) (w:=w) b 9998 vs fields.toList (λ f hfm=>by
   obtain⟨j,hj⟩:=List.mem_iff_getElem?.1 hfm;have hj':fields[j]?=some f:=by simpa using hj
   have hjl:j<ks.length:=by rw[← hn];exact Av hj'
   obtain⟨_,h2,h3⟩:=hf j f _ hj' (JlZ hjl);refine⟨Ja h3,?_⟩;rw[h2];exact⟨_,Jl4 (by simp at hlen;omega)⟩)
  simp at this⊢;rw[this];rfl
 ·obtain⟨vs,rfl,_⟩:=NS (ρ:=λ _=>none) hx;rfl
 ·obtain⟨xs,rfl,hxr,hxl,_⟩:=NS (ρ:=λ _=>none) hx;obtain⟨ys,rfl,hyr,hyl,_⟩:=NS (ρ:=λ _=>none) hy;show(Op.equalIn 10000 t (.agg xs) (.agg ys)).run P w=.ok r w;rw[run_equalIn_struct w 9999 t xs ys (by rw[hfo];exact hd) hst,hfo];cases hxr with
  | agg _ _ hxl' hxr=>
   cases hyr with
   | agg _ _ hyl' hyr=>
    refine Jb (F:=F) (ρ:=λ _=>none) 9998 xs ys fields.toList ks 0 _ _ r (by simpa using hn) (λ j f k h1 h2=>?_) h (λ j a ha=>?_) (λ j a ha=>?_)
    ·obtain⟨a1,a2,a3⟩:=hf j f k (by simpa using h1) h2;exact⟨a1,by omega,a3⟩
    ·have hj:=Af ha;refine⟨xs[j],?_,hxr j a _ ha (Jl4 (by omega))⟩;rw[Jmd];exact Jl4 (by omega)
    ·have hj:=Af ha;refine⟨ys[j],?_,hyr j a _ ha (Jl4 (by omega))⟩;rw[Jmd];exact Jl4 (by omega)
 ·obtain⟨xs,rfl,_,hxl,hxv⟩:=NS (ρ:=λ _=>none) hx;obtain⟨ys,rfl,_,hyl,hyv⟩:=NS (ρ:=λ _=>none) hy;have hlen:=Gy _ _ _ _ h;simp only[JlU]at hlen;show Instr.sameBits (9999+1) (.agg ys) (.agg xs)=true;rw[Instr.sameBits];simp only[Jl0,beq_iff_eq];refine⟨by omega,?_⟩;exact Tq 9999 ks a b xs.toList ys.toList h (by simpa using hxl) (by simpa using hyl) (λ i x u hx hu=>hxv i x u hx (by simpa using hu)) (λ i x u hx hu=>hyv i x u hx (by simpa using hu))
end Go.AI
end
section
namespace Go.AI
def Be (k:IntKind) (a b:Int):Int:=k.wrap (a+b)
def C4 (k:IntKind) (a b:Int):Int:=k.wrap (a-b)
def Jdp (k:IntKind) (a b:Int):Int:=k.wrap (a.tdiv b)
def Bl (a b:Int):Int:=a.tmod b
def Cs (k:IntKind) (a b:Int):Int:=k.wrap (BitVec.ofInt k.bits a &&& BitVec.ofInt k.bits b).toNat
def Qg (k:IntKind) (a b:Int):Int:=k.wrap (a*2 ^ (min b.toNat k.bits))
def Jdq (k:IntKind) (a b:Int):Int:=a.fdiv (2 ^ (min b.toNat k.bits))
def idx {α:Type} (xs:List α) (i:Int):Option α:=if 0<=i then xs[i.toNat]? else none
def app {α:Type} (eb:Nat) (xs ys:List α):Option (List α):=if(xs.length+ys.length)*eb<=70368744177664 then some (xs++ys)else none
def cat (x y:List UInt8):Option (List UInt8):=if x.length+y.length<=9223372036854775807 then some (x++y)else none
def sub {α:Type} (xs:List α) (l h:Int):Option (List α):=if 0<=l/\l<=h/\h<=xs.length then some ((xs.take h.toNat).drop l.toNat)else none
def put {α:Type} (xs:List α) (i:Int) (y:α):Option (List α):=if 0<=i/\i<xs.length then some (xs.set i.toNat y)else none
def Iu (s:List UInt8) (i:Int):Option Int:=if 0<=i/\i<s.length then some (s[i.toNat]?.getD 0).toNat else none
def B7 (b:Bool):Option Unit:=if b then some ()else none
def mkl {α:Type} (eb:Nat) (n:Int) (z:α):Option (List α):=if 0<=n/\n.toNat*eb<=70368744177664 then some (List.replicate n.toNat z)else none
def Vg (bs:List Int):Option (List UInt8):=if bs.all (λ n=>decide (0<=n)&&decide (n<256))then some (bs.map λ n=>UInt8.ofNat n.toNat)else none
def Ds (s:List UInt8):List Int:=s.map λ b=>(b.toNat:Int)
def pgo {α:Type}:List α->Option (α×List α)
 | []=>none
 | p::r=>some (p,r)
def BR {κ α:Type} [DecidableEq κ] (k:κ):List (κ×α)->Option α
 | []=>none
 | p::r=>if k=p.1 then some p.2 else BR k r
def Eh {κ α:Type} [DecidableEq κ] (k:κ) (v:α):List (κ×α)->List (κ×α)
 | []=>[(k,v)]
 | p::r=>if k=p.1 then(k,v)::r else p::Eh k v r
theorem bind_some {α β:Type} {x:Option α} {f:α->Option β} {r:β} (h:x.bind f=some r):∃ a,x=some a/\f a=some r:=Option.bind_eq_some_iff.1 h
theorem Ei {β:Type} {c:Bool} {x y:Option β} {r:β} (h:(if c=true then x else y)=some r):(c=true/\x=some r)\/(c=false/\y=some r):=by
 cases c with
 | true=>exact .inl ⟨rfl,h⟩
 | false=>exact .inr ⟨rfl,h⟩
theorem CM {α:Type} {xs:List α} {i:Int} {x:α} (h:idx xs i=some x):0<=i/\i<xs.length/\xs[i.toNat]?=some x:=by
 unfold idx at h;split at h
 ·rename_i h0;have:=(List.getElem?_eq_some_iff.1 h).1;exact⟨h0,by omega,h⟩
 ·cases h
theorem Iv {α:Type} {eb:Nat} {xs ys zs:List α} (h:app eb xs ys=some zs):(xs.length+ys.length)*eb<=70368744177664/\zs=xs++ys:=by
 unfold app at h;split at h
 ·rename_i h0;cases h;exact⟨h0,rfl⟩
 ·cases h
def Cl {κ β:Type} [DecidableEq κ] (key:κ) (m:List (κ×List β)):List β:=(BR key m).getD []
def whl {σ ρ:Type} (body:σ->Option (σ⊕ρ)):Nat->σ->Option ρ
 | 0,_=>none
 | n+1,x=>match body x with
  | none=>none
  | some (.inl y)=>whl body n y
  | some (.inr r)=>some r
def Qh {α:Type} (b:α) (f:α->α):Nat->α
 | 0=>b
 | n+1=>f (Qh b f n)
end Go.AI
end
section
namespace Go.AI
def AR (f:Func):Code:=f.body.getD .skip
def Jac:Code->Nat->Code
 | .seq a b,i=>bif Nat.beq i 0 then a else b
 | .cond _ a b,i=>bif Nat.beq i 0 then a else b
 | .block _ c,_=>c
 | .loop c,_=>c
 | .scope c,_=>c
 | .rangeFunc _ _ a b,i=>bif Nat.beq i 0 then a else b
 | _,_=>.skip
def nav:List Nat->Code->Code
 | [],c=>c
 | i::p,c=>nav p (Jac c i)
def Bd:Code->List Oper
 | .region _ ops _=>ops.toList
 | _=>[]
def Cg:Code->Array Oper
 | .region _ ops _=>ops
 | _=>#[]
def JY:Code->Bool
 | .region _ _ d=>d
 | _=>false
def Iw:Code->Bool
 | .region _ _ _=>true
 | _=>false
def Tr:Code->Operand
 | .cond c _ _=>c
 | _=>.tmp 0
def A7 (Γ:Cx) (C:Code) (p:List Nat) (i:Nat) (K:St->Prop) (s:St):Prop:=HR Γ (JY (nav p C)) (Bd (nav p C)) ((Bd (nav p C)).drop i) K s
theorem HD {Γ:Cx} {d:Bool} {all:List Oper} {o:Oper} {Q Q':St->Prop} {s:St} (hQ:∀ s,Q s->Q' s) (h:A1 Γ d all o Q s):A1 Γ d all o Q' s:=by
 unfold A1 at h⊢;cases hg:Bw all s.env o.guard with
 | none=>rw[hg]at h;exact h.elim
 | some g=>
  rw[hg]at h;simp only at h⊢;cases hdst:BE Γ.nt o.dst with
  | false=>rw[hdst]at h;exact h.elim
  | true=>
   rw[hdst]at h;simp only[JlM,cond_false]at h⊢;refine⟨λ hgt=>?_,λ hgf=>by obtain⟨v,obs,hm,hq⟩:=h.2 hgf;exact⟨v,obs,hm,hQ _ hq⟩⟩;rcases h.1 hgt with h|h|h
   case inr.inr=>
    refine .inr (.inr ?_);obtain⟨hdr,⟨st',h1,h2⟩|⟨hgn,h⟩⟩:=h
    ·exact⟨hdr,.inl ⟨st',h1,hQ _ h2⟩⟩
    refine⟨hdr,.inr ⟨hgn,?_⟩⟩;rcases h with h|h
    ·left;split at h
     ·obtain⟨h1,h2⟩:=h;exact⟨h1,h2.imp (hQ _) (hQ _)⟩
     ·exact h.elim
    ·right;split at h
     ·obtain⟨h1,nb,r,O1,g1,g2,g3,g4,g5⟩:=h;exact⟨h1,nb,r,O1,g1,g2,g3,g4,hQ _ g5⟩
     ·exact h.elim
   case inr.inl=>
    refine .inr (.inl ?_);unfold Fg at h⊢;split at h
    ·exact⟨h.1,hQ _ h.2⟩
    ·exact h.elim
   refine .inl ?_;unfold stepG at h⊢;split at h
   ·obtain⟨h1,h⟩:=h;unfold JD at h⊢;split at h
    ·obtain⟨hob,m,r,hcall,hflat,hq⟩:=h;exact⟨h1,hob,m,r,hcall,hflat,hQ _ hq⟩
    ·exact h.elim
   ·split at h
    ·exact⟨h.1,hQ _ h.2⟩
    ·exact h.elim
   ·split at h
    ·rename_i e he;obtain⟨h1,h2,h3⟩:=h;refine⟨h1,h2,?_⟩;cases hc:((e.upd.isSome&&o.guard.isSome)||(!e.rm.isEmpty&&(o.guard.isSome||(d&&!isW o.op))))with
     | true=>rw[hc]at h3;exact h3.elim
     | false=>rw[hc,cond_false]at h3;rw[cond_false];exact hQ _ h3
    ·exact h.elim
theorem Fi {Γ:Cx} {d:Bool} {all:List Oper} {Q Q':St->Prop} (hQ:∀ s,Q s->Q' s):∀ (l:List Oper) (s:St),HR Γ d all l Q s->HR Γ d all l Q' s:=by
 intro l;induction l with
 | nil=>intro s h;exact hQ s h
 | cons o l ih=>intro s h;exact HD ih h
theorem Qi {Γ:Cx} {ops:Array Oper} {Q Q':St->Prop} (hQ:∀ s,Q s->Q' s):∀ (f b:Nat) (s:St),phX Γ ops Q f b s->phX Γ ops Q' f b s:=by
 intro f;induction f with
 | zero=>intro b s h;exact⟨h.1,hQ _ h.2⟩
 | succ f ih=>
  intro b s h;rcases h with h|⟨x,m,hb,hB,h⟩
  ·exact .inl ⟨h.1,hQ _ h.2⟩
  ·refine .inr ⟨x,m,hb,hB,Fi (λ s hs=>⟨hs.1,?_⟩) _ _ h⟩;obtain⟨F,q1,q2⟩:=hs.2;exact⟨F,q1,HD (λ s hs=>ih _ _ hs) q2⟩
theorem Jad {Γ:Cx} {ops:Array Oper} {Q:St->Prop}:∀ (f b:Nat) (s:St),phX Γ ops Q f b s->phX Γ ops Q (f+1) b s:=by
 intro f;induction f with
 | zero=>intro b s h;exact .inl h
 | succ f ih=>
  intro b s h;rcases h with h|⟨x,m,hb,hB,h⟩
  ·exact .inl h
  ·refine .inr ⟨x,m,hb,hB,Fi (λ s hs=>⟨hs.1,?_⟩) _ _ h⟩;obtain⟨F,q1,q2⟩:=hs.2;exact⟨F,q1,HD (λ s hs=>ih _ _ hs) q2⟩
theorem Jft {Γ:Cx} {ops:Array Oper} {Q:St->Prop} {f f' b:Nat} {s:St} (hf:f<=f') (h:phX Γ ops Q f b s):phX Γ ops Q f' b s:=by
 induction hf with
 | refl=>exact h
 | step _ ih=>exact Jad _ _ _ ih
theorem Vh {Γ:Cx}:∀ {c:Code} {Q Q':Ex->St->Prop} {s:St},(∀ e s,Q e s->Q' e s)->wpA Γ c Q s->wpA Γ c Q' s:=by
 intro c;induction c with
 | skip=>intro Q Q' s hQ h;exact hQ _ _ h
 | region id ops d=>
  intro Q Q' s hQ h;obtain⟨s',h1,h2|⟨hd,h4⟩|⟨hd,h4⟩⟩:=h
  rotate_left 2
  ·obtain⟨i,o,ho,h4⟩:=h4;refine⟨s',h1,.inr (.inr ⟨hd,i,o,ho,Fi (λ s hs=>?_) _ _ h4⟩)⟩;obtain⟨q1,q2,S,q3,q4⟩:=hs;exact⟨q1,q2,S,q3,λ st' hst=>Fi (λ s hs=>hQ _ s hs) _ _ (q4 st' hst)⟩
  ·exact⟨s',h1,.inl (Fi (λ s hs=>⟨hs.1,hQ _ s hs.2⟩) _ _ h2)⟩
  ·rcases h4 with⟨f,h4⟩|⟨f,m,hB,h4⟩|⟨f,hB,h4⟩
   rotate_left 2
   ·exact⟨s',h1,.inr (.inl ⟨hd,.inr (.inr ⟨f,hB,Qi (λ s hs=>hQ _ s hs) f 1 _ h4⟩)⟩)⟩
   ·exact⟨s',h1,.inr (.inl ⟨hd,.inl ⟨f,Qi (λ s hs=>hQ _ s hs) f 0 _ h4⟩⟩)⟩
   ·refine⟨s',h1,.inr (.inl ⟨hd,.inr (.inl ⟨f,m,hB,Fi (λ s hs=>⟨hs.1,?_⟩) _ _ h4⟩)⟩)⟩;obtain⟨F,q1,q2⟩:=hs.2;exact⟨F,q1,HD (λ s hs=>Qi (λ s hs=>hQ _ s hs) _ _ _ hs) q2⟩
 | seq a b iha ihb=>
  intro Q Q' s hQ h;refine iha (λ e s h=>?_) h;cases e with
  | normal=>obtain⟨s',h1,h2⟩:=h;exact⟨s',h1,ihb hQ h2⟩
  | exit i=>exact hQ _ _ h
  | ret=>exact hQ _ _ h
 | cond c a b iha ihb=>
  intro Q Q' s hQ h;simp only[wpA]at h⊢;unfold Xq at h⊢;split at h
  ·exact⟨λ e=>iha hQ (h.1 e),λ e=>ihb hQ (h.2 e)⟩
  ·exact h.elim
 | block id c ih=>
  intro Q Q' s hQ h;refine ih (λ e s h=>?_) h;cases e with
  | normal=>exact hQ _ _ h
  | ret=>exact hQ _ _ h
  | exit i=>
   simp only[IZ]at h⊢;cases hb:Nat.beq i id with
   | true=>rw[hb]at h;exact hQ _ _ h
   | false=>rw[hb]at h;exact hQ _ _ h
 | loop c ih=>
  intro Q Q' s hQ h;obtain⟨I,n,h0,h⟩:=h;refine⟨I,n,h0,λ n s hI=>ih (λ e s h=>?_) (h n s hI)⟩;cases e with
  | normal=>exact h
  | exit i=>exact hQ _ _ h
  | ret=>exact hQ _ _ h
 | exit id=>intro Q Q' s hQ h;exact hQ _ _ h
 | ret=>intro Q Q' s hQ h;exact hQ _ _ h
 | scope c ih=>intro Q Q' s hQ h;exact ih (s:=s) hQ h
 | label l=>intro Q Q' s hQ h;exact hQ _ _ h
 | rangeFunc g ps asg body=>
  intro Q Q' s hQ h;obtain⟨s',h1,h2⟩:=h;refine⟨s',h1,?_⟩;rcases h2 with h2|h2
  case inr=>
   right;unfold S0 at h2⊢;split at h2
   ·rename_i f caps hg;obtain⟨js,ts,nb,R,q1,q2,q3,q4,q5⟩:=h2;refine⟨js,ts,nb,R,q1,q2,q3,q4,λ r O1 hR=>?_⟩;obtain⟨q6,j,q7,q8⟩:=q5 r O1 hR;refine⟨q6,j,q7,?_⟩;unfold Uq at q8⊢;split at q8
    ·exact hQ _ _ q8
    ·exact q8.elim
    ·split at q8
     ·exact hQ _ _ q8
     ·exact hQ _ _ q8
     ·exact q8.elim
   ·exact h2.elim
  left;unfold SZ at h2⊢;split at h2
  ·rename_i f caps hg;obtain⟨js,ts,nb,r,O1,j,q1,q2,q3,q4,q5,q6,q7⟩:=h2;refine⟨js,ts,nb,r,O1,j,q1,q2,q3,q4,q5,q6,?_⟩;unfold Uq at q7⊢;split at q7
   ·exact hQ _ _ q7
   ·exact q7.elim
   ·split at q7
    ·exact hQ _ _ q7
    ·exact hQ _ _ q7
    ·exact q7.elim
  ·exact h2.elim
 | _=>intro Q Q' s hQ h;exact h.elim
variable {Γ:Cx} {C:Code} {p p0 p1:List Nat} {Q:Ex->St->Prop} {s s':St} {K:St->Prop}
theorem Jfu (h:nav p C=.seq (nav p0 C) (nav p1 C)) (hw:wpA Γ (nav p0 C) (Ry Γ.nt.nk (wpA Γ (nav p1 C) Q) Q) s):wpA Γ (nav p C) Q s:=by rw[h];exact hw
theorem Jae (id:Nat) (h:nav p C=.block id (nav p0 C)) (hw:wpA Γ (nav p0 C) (IZ id Q) s):wpA Γ (nav p C) Q s:=by rw[h];exact hw
theorem Jdr (t:Bool) (h:nav p C=.cond (Tr (nav p C)) (nav p0 C) (nav p1 C)) (hc:Al s.env (Tr (nav p C))=.d (.bool t)) (h1:t=true->wpA Γ (nav p0 C) Q s) (h2:t=false->wpA Γ (nav p1 C) Q s):wpA Γ (nav p C) Q s:=by
 rw[h];simp only[wpA,hc,Xq];exact⟨h1,h2⟩
theorem Jds (i:Nat) (h:nav p C=.exit i) (hq:Q (.exit i) s):wpA Γ (nav p C) Q s:=by rw[h];exact hq
theorem Jfv (h:nav p C=.ret) (hq:Q .ret s):wpA Γ (nav p C) Q s:=by rw[h];exact hq
theorem Jdt (h:nav p C=.skip) (hq:Q .normal s):wpA Γ (nav p C) Q s:=by rw[h];exact hq
def Ts (C:Code) (p:List Nat) (s0:St) (Q:Ex->St->Prop):Ex->St->Prop:=λ e s=>MQ (JY (nav p C)) (Cg (nav p C)) s0.env s.env=true/\Q e s
theorem Sx (h:Iw (nav p C)=true) (hs:Ay Γ.nt.nk s s') (hk:A7 Γ C p 0 (Ts C p s' Q .normal) s'):wpA Γ (nav p C) Q s:=by
 unfold A7 Ts at hk;cases hc:nav p C with
 | region id ops d=>rw[hc]at hk;exact⟨s',hs,.inl hk⟩
 | _=>rw[hc]at h;cases h
theorem NT (n:Nat) (h:Nat.ble (Bd (nav p C)).length n=true) (hk:K s):A7 Γ C p n K s:=by
 unfold A7;rw[List.drop_eq_nil_of_le (Jme h)];exact hk
theorem Jaf {id:Nat} (h:Q .normal s):IZ id Q (.exit id) s:=by
 show bif Nat.beq id id then _ else _
 have:Nat.beq id id=true:=Nat.beq_refl id;rw[this];exact h
def AO {σ ρ:Type} (nk:Nat) (st:σ->St) (E:ρ->Ex->St->Prop) (z:σ⊕ρ):Ex->St->Prop
 | .normal,s=>∃ y,z=.inl y/\Ay nk s (st y)
 | e,s=>∃ r,z=.inr r/\E r e s
theorem Jag {σ ρ:Type} {nk:Nat} {st:σ->St} {E:ρ->Ex->St->Prop} {y:σ} (h:Ay nk s (st y)):AO nk st E (.inl y) .normal s:=⟨y,rfl,h⟩
theorem WD {σ ρ:Type} {nk:Nat} {st:σ->St} {E:ρ->Ex->St->Prop} {r:ρ} {i:Nat} (h:E r (.exit i) s):AO nk st E (.inr r) (.exit i) s:=⟨r,rfl,h⟩
theorem YO {σ ρ:Type} {nk:Nat} {st:σ->St} {E:ρ->Ex->St->Prop} {r:ρ} (h:E r .ret s):AO nk st E (.inr r) .ret s:=⟨r,rfl,h⟩
theorem Jdu {σ ρ:Type} {body:σ->Option (σ⊕ρ)} {n:Nat} {x:σ} {r:ρ} (st:σ->St) (E:ρ->Ex->St->Prop) (h:nav p C=.loop (nav p0 C)) (hr:whl body n x=some r) (hs:Ay Γ.nt.nk s (st x))
  (hb:∀ x z,body x=some z->wpA Γ (nav p0 C) (AO Γ.nt.nk st E z) (st x)) (hE:∀ e s,E r e s->Q e s):wpA Γ (nav p C) Q s:=by
 rw[h];refine⟨λ m s=>∃ x,s=st x/\whl body m x=some r,n,⟨_,hs,x,rfl,hr⟩,?_⟩;rintro m _ ⟨x,rfl,hm⟩;cases m with
 | zero=>cases hm
 | succ m=>
  unfold whl at hm;split at hm
  ·cases hm
  ·rename_i y hy;have:=hb x _ hy;refine Vh ?_ this;intro e s' hq;cases e with
   | normal=>
    obtain⟨y',e1,hsh⟩:=hq;cases e1;exact⟨m,_,Nat.lt_succ_self m,hsh,y,rfl,hm⟩
   | exit i=>obtain⟨_,e1,_⟩:=hq;cases e1
   | ret=>obtain⟨_,e1,_⟩:=hq;cases e1
  ·rename_i r' hy;cases hm;have:=hb x _ hy;refine Vh ?_ this;intro e s' hq;cases e with
   | normal=>obtain⟨_,e1,_⟩:=hq;cases e1
   | exit i=>obtain⟨r',e1,he⟩:=hq;cases e1;exact hE _ _ he
   | ret=>obtain⟨r',e1,he⟩:=hq;cases e1;exact hE _ _ he
end Go.AI
end
section
namespace Go.AI
def Qj (op:BinOp) (x y:AV):Bool:=
 match op with
 | .quo=>match y with | .d (.int _ b)=>!(b==0)|_=>false
 | .rem=>match y with | .d (.int _ b)=>!(b==0)|_=>false
 | .shl=>match y with | .d (.int _ b)=>decide (0<=b)|_=>false
 | .shr=>match y with | .d (.int _ b)=>decide (0<=b)|_=>false
 | .add=>match x with | .d (.int _ _)=>true|_=>false
 | _=>true
def WE (ty:Nat->Ty) (ev:Operand->AV) (objs:List (Option Ob)):Op->Bool
 | .move _=>true
 | .assign _=>true
 | .alloc _=>true
 | .box _ _=>true
 | .build _ _=>true
 | .nilCheck _=>true
 | .unOp _ _ _=>true
 | .fieldAddr _ _ _=>true
 | .field _ _ _=>true
 | .extract _ _=>true
 | .makeMap _ _=>true
 | .load t a=>match ev a with
  | .ptr k off=>match obA objs k with
   | some (.box cells)=>Nat.ble (off+(ty t).size) cells.length
   | _=>false
  | .dptr e off=>Nat.ble (off+(ty t).size) e.length
  | _=>false
 | .store t a v=>match ev a with
  | .ptr k off=>match obA objs k with
   | some (.box cells)=>Nat.beq (Ar (ev v)).length (ty t).size&&Nat.ble (off+(ty t).size) cells.length
   | _=>false
  | _=>false
 | .binOp op _ x y _=>Qj op (ev x) (ev y)
 | .convert s _ x=>match (ty s).kind,ev x with
  | .int _,.d (.int _ _)=>true
  | .string,.d (.str _)=>true
  | _,_=>false
 | .call ⟨.builtin .len,_,_⟩=>true
 | .call ⟨.builtin .min,_,_⟩=>true
 | .call ⟨.builtin .max,_,_⟩=>true
 | .buildSlice _ _ parts=>parts.toList.all λ p=>(Ar (ev p.2)).all Ml
 | .indexAddr t x i=>match (ty t).kind,ev x,ev i with
  | .array n _,.ptr _ _,.d (.int _ m)=>decide (0<=m)&&decide (m<n)
  | .array n _,.eptr _ _ _ _,.d (.int _ m)=>decide (0<=m)&&decide (m<n)
  | .array n _,.dptr _ _,.d (.int _ m)=>decide (0<=m)&&decide (m<n)
  | _,_,_=>false
 | _=>false
theorem C5 {v:AV} {e:Eff} (h:val v=some e):e.ob:=by cases h;trivial
theorem Gz {v:AV} {ob:Prop} {e:Eff} (h:A9 v ob=some e) (ho:ob):e.ob:=by cases h;exact ho
theorem AU {α:Type} {b:Bool} {x:Option α} {e:α} (h:(bif b then x else none)=some e):b=true/\x=some e:=by
 cases b with
 | true=>exact⟨rfl,h⟩
 | false=>cases h
theorem Jdv {op:BinOp} {k k' k'':IntKind} {a b:Int} {e:Eff} (h:V2 op k a b=some e) (ho:Qj op (.d (.int k' a)) (.d (.int k'' b))=true):e.ob:=by
 cases op<;>simp only[V2]at h<;>first|exact C5 h|(refine Gz h ?_;simpa [Qj]using ho)|cases h
theorem Jdw {t:Ty} {op:BinOp} {x y:AV} {e:Eff} (h:Yc t op x y=some e) (ho:Qj op x y=true):e.ob:=by
 unfold Yc at h;split at h
 ·split at h
  ·exact Gz h (by simpa [Qj]using ho)
  ·exact Gz h (by simpa [Qj]using ho)
  ·obtain⟨_,h⟩:=AU h;exact Jdv h ho
 ·cases op<;>simp only[Um]at h<;>first|exact C5 h|(simp[Qj]at ho;done)|cases h
 ·split at h
  ·obtain⟨_,h⟩:=AU h;split at h
   ·exact C5 h
   ·exact C5 h
   ·cases h
  ·cases h
 ·obtain⟨_,h⟩:=AU h;split at h
  ·exact C5 h
  ·exact C5 h
  ·cases h
 ·cases h
theorem Jdx {objs:List (Option Ob)} {v:AV} {r:Rd D} (hd:Ml v=true) (h:IS objs v=some r):r.ob/\r.ks=[]:=by
 cases v with
 | d x=>cases x<;>(cases h;exact⟨trivial,rfl⟩)
 | _=>cases hd
theorem Jah {objs:List (Option Ob)}:∀ {l:List AV} {r:Rd (List D)},l.all Ml=true->D0 objs l=some r->r.ob/\r.ks=[]:=by
 intro l;induction l with
 | nil=>intro r _ h;cases h;exact⟨trivial,rfl⟩
 | cons v l ih=>
  intro r hd h;simp only[List.all_cons,Jl0]at hd;simp only[D0]at h;split at h
  ·rename_i r1 r2 h1 h2;cases h;obtain⟨a1,a2⟩:=Jdx hd.1 h1;obtain⟨b1,b2⟩:=ih hd.2 h2;exact⟨⟨a1,b1⟩,by simp[a2,b2]⟩
  ·cases h
theorem Jai {objs:List (Option Ob)} {esz:Nat}:∀ {parts:List (Nat×AV)} {es:List (List D)} {r:Rd (List (List D))},(parts.all λ p=>(Ar p.2).all Ml)=true->Im objs esz es parts=some r->r.ob:=by
 intro parts;induction parts with
 | nil=>intro es r _ h;cases h;trivial
 | cons p parts ih=>
  intro es r hd h;obtain⟨i,v⟩:=p;simp only[List.all_cons,Jl0]at hd;simp only[Im]at h;split at h
  ·rename_i r1 h1;obtain⟨_,h⟩:=AU h;split at h
   ·rename_i r2 h2;cases h;have h3:r1.ob:=by
     rcases IU h1 with⟨_,rfl⟩|h1
     ·trivial
     ·exact(Jah hd.1 h1).1
    exact⟨h3,ih hd.2 h2⟩
   ·cases h
  ·cases h
theorem Qk {ty:Nat->Ty} {ev:Operand->AV} {objs:List (Option Ob)} {op:Op} {e:Eff} (ho:WE ty ev objs op=true) (h:opA ty ev objs op=some e):e.ob:=by
 cases op with
 | move x=>exact C5 h
 | assign x=>exact C5 h
 | alloc t=>obtain⟨_,h⟩:=AU h;cases h;trivial
 | box t v=>obtain⟨_,h⟩:=AU h;cases h;trivial
 | build t parts=>
  obtain⟨_,h⟩:=AU h;split at h
  ·exact C5 h
  ·cases h
 | nilCheck x=>
  simp only[opA]at h;split at h<;>first|exact C5 h|cases h
 | unOp op t x=>
  cases op<;>simp only[opA]at h<;>first|(split at h<;>first|exact C5 h|cases h)|cases h
 | fieldAddr t x f=>
  obtain⟨_,h⟩:=AU h;unfold Kf at h;split at h
  ·split at h
   ·split at h<;>first|exact C5 h|cases h
   ·cases h
  ·cases h
 | field t x f=>
  simp only[opA]at h;obtain⟨_,h⟩:=AU h;unfold PA at h;split at h
  ·split at h
   ·split at h
    ·split at h<;>first|exact C5 h|cases h
    ·cases h
   ·cases h
  ·cases h
 | extract x i=>
  simp only[opA]at h;split at h
  ·split at h
   ·exact C5 h
   ·cases h
  ·cases h
 | makeMap t r=>
  cases r with
  | none=>
   obtain⟨_,h⟩:=AU h;split at h
   ·cases h;trivial
   ·cases h
  | some x=>
   obtain⟨_,h⟩:=AU h;split at h
   ·cases h;trivial
   ·cases h
 | load t a=>
  obtain⟨_,h⟩:=AU h;simp only[WE]at ho;split at ho
  ·rename_i k off ha;rw[ha]at h;simp only[CX]at h;split at ho
   ·rename_i cells hc;rw[hc]at h;simp only at h;split at h
    ·exact Gz h (Jme ho)
    ·cases h
   ·cases ho
  ·rename_i e' off ha;rw[ha]at h;simp only[CX]at h;split at h
   ·exact Gz h (Jme ho)
   ·cases h
  ·cases ho
 | store t a v=>
  obtain⟨_,h⟩:=AU h;simp only[WE]at ho;split at ho
  ·rename_i k off ha;rw[ha]at h;simp only[EO]at h;split at ho
   ·rename_i cells hc;rw[hc]at h;simp only at h;obtain⟨_,h⟩:=AU h;cases h;simp only[Jl0]at ho;exact⟨Jl6 ho.1,Jme ho.2⟩
   ·cases ho
  ·cases ho
 | binOp op t x y t'=>exact Jdw h ho
 | convert a b x=>
  obtain⟨_,h⟩:=AU h;simp only[WE]at ho;split at ho
  ·rename_i k1 k2 n hk hx;rw[hk,hx]at h;unfold ML at h;split at h
   ·rename_i heq _;cases heq
   ·exact C5 h
   ·exact C5 h
   ·cases h
  ·rename_i n hk hx;rw[hk,hx]at h;unfold ML at h;split at h
   ·rename_i heq _;cases heq
   ·exact C5 h
   ·exact C5 h
   ·cases h
  ·cases ho
 | call c=>
  obtain⟨callee,args,ts⟩:=c;cases callee with
  | value f=>cases ho
  | invoke r m=>cases ho
  | builtin b=>
   cases b<;>first|(cases ho;done)|skip
   all_goals simp only[opA]at h
   ·split at h
    ·obtain⟨_,h⟩:=AU h;unfold V3 at h;split at h<;>first|exact C5 h|cases h
    ·cases h
   ·split at h
    ·exact C5 h
    ·cases h
   ·split at h
    ·exact C5 h
    ·cases h
 | buildSlice t len parts=>
  obtain⟨_,h⟩:=AU h;split at h
  ·obtain⟨_,h⟩:=AU h;split at h
   ·rename_i r hr;cases h;refine Jai (parts:=parts.toList.map λ p=>(p.1,ev p.2)) ?_ hr;rw[List.all_map];exact ho
   ·cases h
  ·cases h
 | indexAddr t x i=>
  obtain⟨_,h⟩:=AU h;simp only[WE]at ho;split at ho
  ·rename_i n esz k off k' m hk hx hi;rw[hk,hx,hi]at h;simp only[Il,Rw]at h;exact Gz h (by simpa using ho)
  ·rename_i n esz a b c d k' m hk hx hi;rw[hk,hx,hi]at h;simp only[Il,Rw]at h;exact Gz h (by simpa using ho)
  ·rename_i n esz a b k' m hk hx hi;rw[hk,hx,hi]at h;simp only[Il,Rw]at h;exact Gz h (by simpa using ho)
  ·cases ho
 | _=>cases ho
end Go.AI
end
section
namespace Go.AI
def M6:AV->Bool
 | .gv _ _=>false
 | _=>true
theorem Lk {g:Bool}:∀ {l:List AV},l.all M6=true->Fu g l:=by
 intro l;induction l with
 | nil=>intro _;trivial
 | cons v l ih=>
  intro h;simp only[List.all_cons,Jl0]at h;cases v<;>first|exact ih h.2|(cases h.1;done)
def Jdy:Op->Bool
 | .pick _ _ _=>true
 | .call ⟨.value _,_,_⟩=>true
 | _=>false
def Jaj (Γ:Cx) (all:List Oper) (o:Oper) (st:St):Option St:=
 match Bw all st.env o.guard with
 | none=>none
 | some g=>bif BE Γ.nt o.dst&&!Jdy o.op&&WE Γ.ty (λ x=>unG (Al st.env x)) st.objs o.op&&(o.op.operands.toList.map (Al st.env)).all M6&&!(o.guard.isSome&&isW o.op)then
   (match opA Γ.ty (λ x=>unG (Al st.env x)) st.objs o.op with
   | some e=>bif (e.upd.isSome&&o.guard.isSome)||!e.rm.isEmpty then none else some (DV o.dst o.guard.isSome g e st)
   | none=>none)
  else none
theorem Ql {Γ:Cx} {d:Bool} {o:Oper} {Q:St->Prop} {st:St} {g:Bool} (hpc:Jdy o.op=false) (h:match opA Γ.ty (λ x=>unG (Al st.env x)) st.objs o.op with
   | some e=>Fu g (o.op.operands.toList.map (Al st.env))/\(g=true->e.ob)/\(bif (e.upd.isSome&&o.guard.isSome)||(!e.rm.isEmpty&&(o.guard.isSome||(d&&!isW o.op)))then False else Q (DV o.dst o.guard.isSome g e st))
   | none=>False):stepG Γ d o Q st g:=by
 unfold stepG;split
 ·rename_i hop;rw[hop]at hpc;cases hpc
 ·rename_i hop;rw[hop]at hpc;cases hpc
 ·exact h
theorem Jak {Γ:Cx} {d:Bool} {all:List Oper} {o:Oper} {st st':St} {Q:St->Prop} (h:Jaj Γ all o st=some st') (hq:Q st'):A1 Γ d all o Q st:=by
 unfold Jaj at h;unfold A1;cases hg:Bw all st.env o.guard with
 | none=>rw[hg]at h;cases h
 | some g=>
  rw[hg]at h;obtain⟨hc,h⟩:=AU h;simp only[Jl0,Bool.not_eq_true']at hc;obtain⟨⟨⟨⟨h1,h2⟩,h3⟩,h4⟩,h5⟩:=hc;simp only[h1,JlM,cond_false];split at h
  ·rename_i e he;cases hb:(e.upd.isSome&&o.guard.isSome)||!e.rm.isEmpty with
   | true=>rw[hb]at h;cases h
   | false=>
    rw[hb,cond_false]at h;cases h;simp only[JlY,Bool.not_eq_false']at hb;obtain⟨hb1,hb2⟩:=hb;have hrm:e.rm=[]:=isEmpty_nil hb2;refine⟨λ _=>.inl (Ql h2 ?_),λ hgf=>?_⟩
    ·rw[he];refine⟨Lk h4,λ _=>Qk h3 he,?_⟩;rw[hb1,hrm];exact hq
    ·have hgs:o.guard.isSome=true:=by
      cases hgo:o.guard with
      | none=>rw[hgo]at hg;cases hg;cases hgf
      | some x=>rfl
     have hupd:e.upd=none:=by
      rw[hgs,Bool.and_true]at hb1;cases hu:e.upd with
      | none=>rfl
      | some x=>rw[hu]at hb1;cases hb1
     refine⟨e.v,e.obs,λ hm=>?_,?_⟩
     ·rw[hgs,Bool.true_and]at h5;exact Sl h5 hm he
     ·subst hgf;simp only[DV,hrm,hupd,rmA,BG]at hq;exact hq
  ·cases h
def YP (Γ:Cx) (all:List Oper):List Oper->St->Option St
 | [],st=>some st
 | o::l,st=>match Jaj Γ all o st with
  | some st'=>YP Γ all l st'
  | none=>none
variable {Γ:Cx} {C:Code} {p p0 p1:List Nat} {Q:Ex->St->Prop} {s s':St} {K:St->Prop} {i:Nat}
theorem Jdz {d:Bool} {all:List Oper}:∀ (l m:List Oper) (st:St),YP Γ all l st=some s'->HR Γ d all m K s'->HR Γ d all (l++m) K st:=by
 intro l;induction l with
 | nil=>intro m st h hk;cases h;exact hk
 | cons o l ih=>
  intro m st h hk;simp only[YP]at h;split at h
  ·rename_i st1 h1;exact Jak h1 (ih m st1 h hk)
  ·cases h
theorem Ji9 (n j:Nat) (h:YP Γ (Bd (nav p C)) (((Bd (nav p C)).drop i).take n) s=some s') (hj:i+n=j) (hk:A7 Γ C p j K s'):A7 Γ C p i K s:=by
 unfold A7 at hk⊢;have:(Bd (nav p C)).drop i=((Bd (nav p C)).drop i).take n++(Bd (nav p C)).drop j:=by
  rw[← hj,← List.drop_drop,List.take_append_drop]
 rw[this];exact Jdz _ _ _ h hk
def ES (x:Option Eff) (v:AV) (obs:List Ob) (rm:List Nat) (upd:Option (Nat×Ob)):Prop:=∃ ob,x=some ⟨v,obs,rm,upd,ob⟩/\ob
def NU (Γ:Cx) (c:Code) (i:Nat) (s:St):Option Eff:=
 match (Bd c)[i]? with
 | some o=>opA Γ.ty (λ x=>unG (Al s.env x)) s.objs o.op
 | none=>none
def OM (Γ:Cx) (c:Code) (i:Nat) (v:AV) (obs:List Ob) (rm:List Nat) (upd:Option (Nat×Ob)) (s:St):Option St:=
 match (Bd c)[i]? with
 | some o=>bif o.guard.isNone&&BE Γ.nt o.dst&&!Jdy o.op&&(o.op.operands.toList.map (Al s.env)).all M6&&!(!rm.isEmpty&&(JY c&&!isW o.op))then some ⟨putA o.dst false true v s.env,BG (rmA s.objs rm) upd++obs.map some⟩else none
 | none=>none
theorem CE {all:List Oper} {o:Oper} (h:all[i]?=some o):all.drop i=o::all.drop (i+1):=by
 have hl:=Af h;rw[JlZ hl]at h;cases h;exact List.drop_eq_getElem_cons hl
theorem JkI {v:AV} {obs:List Ob} {rm:List Nat} {upd:Option (Nat×Ob)} {x:Option Eff} (j:Nat) (hx:NU Γ (nav p C) i s=x) (ho:ES x v obs rm upd) (hn:OM Γ (nav p C) i v obs rm upd s=some s') (hj:i+1=j) (hk:A7 Γ C p j K s'):A7 Γ C p i K s:=by
 subst hj;unfold A7 at hk⊢;unfold NU at hx;unfold OM at hn;split at hn
 ·rename_i o hi;rw[hi]at hx;obtain⟨hc,hn⟩:=AU hn;simp only[Jl0,Bool.not_eq_true']at hc;obtain⟨⟨⟨⟨h1,h2⟩,h3⟩,h4⟩,h5⟩:=hc;cases hn;rw[CE hi];show A1 _ _ _ _ _ _;have hgN:o.guard=none:=by simpa using h1
  unfold A1;rw[hgN];simp only[Bw,h2,JlM,cond_false];refine⟨λ _=>.inl (Ql h3 ?_),λ h=>by cases h⟩;obtain⟨ob,e1,hob⟩:=ho;simp only[hx,e1];refine⟨Lk h4,λ _=>hob,?_⟩;rw[hgN];simp only[Option.isSome_none,Bool.and_false,Bool.false_or,h5,cond_false];exact hk
 ·cases hn
def Fb (g:Bool):List Bool->Prop
 | []=>True
 | b::r=>(g=true->b=true)/\Fb g r
theorem EA {g:Bool}:Fb g []:=trivial
theorem CB {g b:Bool} {r:List Bool} (h:g=true->b=true) (hr:Fb g r):Fb g (b::r):=⟨h,hr⟩
def gvs:List AV->List Bool
 | []=>[]
 | .gv g _::r=>g::gvs r
 | _::r=>gvs r
theorem Kp {g:Bool}:∀ {l:List AV},Fb g (gvs l)->Fu g l:=by
 intro l;induction l with
 | nil=>intro _;trivial
 | cons v l ih=>
  intro h;cases v<;>first|exact ih h|exact⟨h.1,ih h.2⟩
def gAt (c:Code) (i:Nat) (s:St):Option Bool:=
 match (Bd c)[i]? with
 | some o=>match o.guard with
  | some x=>Bw (Bd c) s.env (some x)
  | none=>none
 | none=>none
def FB (c:Code) (i:Nat) (s:St):List Bool:=
 match (Bd c)[i]? with
 | some o=>gvs (o.op.operands.toList.map (Al s.env))
 | none=>[]
def Kq (Γ:Cx) (c:Code) (i:Nat) (g:Bool) (v:AV) (obs:List Ob) (s:St):Option St:=
 match (Bd c)[i]? with
 | some o=>bif o.guard.isSome&&BE Γ.nt o.dst&&!Jdy o.op&&(DG o.op||obs.isEmpty)then some ⟨putA o.dst true g v s.env,s.objs++obs.map some⟩else none
 | none=>none
theorem JeK {g:Bool} {v:AV} {obs:List Ob} {x:Option Eff} {gs:List Bool} (j:Nat) (hg:gAt (nav p C) i s=some g) (hx:NU Γ (nav p C) i s=x) (ho:g=true->ES x v obs [] none) (hgs:FB (nav p C) i s=gs) (hi:Fb g gs) (hn:Kq Γ (nav p C) i g v obs s=some s') (hj:i+1=j) (hk:A7 Γ C p j K s'):A7 Γ C p i K s:=by
 subst hj;unfold A7 at hk⊢;unfold NU at hx;unfold Kq at hn;unfold gAt at hg;unfold FB at hgs;split at hn
 ·rename_i o hii;rw[hii]at hx hg hgs;simp only at hx hg hgs;obtain⟨hc,hn⟩:=AU hn;simp only[Jl0,Bool.not_eq_true']at hc;obtain⟨⟨⟨h1,h2⟩,h3⟩,h4⟩:=hc;cases hn;rw[CE hii];show A1 _ _ _ _ _ _;unfold A1;cases hgo:o.guard with
  | none=>rw[hgo]at h1;cases h1
  | some y=>
   rw[hgo]at hg;simp only at hg;simp only[hg,h2,JlM,cond_false];refine⟨λ hgt=>.inl (Ql h3 ?_),λ hgf=>⟨v,obs,λ hm=>?_,?_⟩⟩
   ·obtain⟨ob,e1,hob⟩:=ho hgt;simp only[hx,e1];refine⟨Kp (by rw[hgs];exact hi),λ _=>hob,?_⟩;simp only[Option.isSome_none,Bool.false_and,List.isEmpty_nil,JlM,Bool.or_self,cond_false,hgo];exact hk
   ·rw[hm,Bool.false_or]at h4;exact isEmpty_nil h4
   ·subst hgf;exact hk
 ·cases hn
def Mt (c:Code) (i:Nat) (s:St):Option Eff:=
 match (Bd c)[i]? with
 | some o=>match o.op with
  | .pick x y z=>G9 (Al s.env x) (Al s.env y) (Al s.env z)
  | _=>none
 | none=>none
def Sy (Γ:Cx) (c:Code) (i:Nat) (v:AV) (s:St):Option St:=
 match (Bd c)[i]? with
 | some o=>bif o.guard.isNone&&BE Γ.nt o.dst then some ⟨putA o.dst false true v s.env,s.objs⟩else none
 | none=>none
def Tt (Γ:Cx) (c:Code) (i:Nat) (g:Bool) (v:AV) (s:St):Option St:=
 match (Bd c)[i]? with
 | some o=>bif o.guard.isSome&&BE Γ.nt o.dst then some ⟨putA o.dst true g v s.env,s.objs⟩else none
 | none=>none
theorem JeL {v:AV} {x:Option Eff} (j:Nat) (hx:Mt (nav p C) i s=x) (ho:ES x v [] [] none) (hn:Sy Γ (nav p C) i v s=some s') (hj:i+1=j) (hk:A7 Γ C p j K s'):A7 Γ C p i K s:=by
 subst hj;unfold A7 at hk⊢;unfold Mt at hx;unfold Sy at hn;split at hn
 ·rename_i o hi;rw[hi]at hx;simp only at hx;obtain⟨hc,hn⟩:=AU hn;simp only[Jl0]at hc;obtain⟨h1,h2⟩:=hc;cases hn;obtain⟨ob,e1,hob⟩:=ho;rw[CE hi];show A1 _ _ _ _ _ _;have hgN:o.guard=none:=by simpa using h1
  split at hx
  ·rename_i a b c hop;unfold A1;rw[hgN];simp only[Bw,h2,JlM,cond_false];refine⟨λ _=>.inl ?_,λ h=>by cases h⟩;unfold stepG;rw[hop];have:opA Γ.ty (Al s.env) s.objs (.pick a b c)=some ⟨v,[],[],none,ob⟩:=by rw[← e1,← hx];rfl
   simp only[this];refine⟨λ _=>hob,?_⟩;rw[hgN];simpa [DV,rmA,BG]using hk
  ·rw[← hx]at e1;cases e1
 ·cases hn
theorem Jfw {g:Bool} {v:AV} {x:Option Eff} (j:Nat) (hg:gAt (nav p C) i s=some g) (hx:Mt (nav p C) i s=x) (ho:g=true->ES x v [] [] none) (hn:Tt Γ (nav p C) i g v s=some s') (hj:i+1=j) (hk:A7 Γ C p j K s'):A7 Γ C p i K s:=by
 subst hj;unfold A7 at hk⊢;unfold Mt at hx;unfold gAt at hg;unfold Tt at hn;split at hn
 ·rename_i o hi;rw[hi]at hx hg;simp only at hx hg;obtain⟨hc,hn⟩:=AU hn;simp only[Jl0]at hc;obtain⟨h1,h2⟩:=hc;cases hn;rw[CE hi];show A1 _ _ _ _ _ _;cases hgo:o.guard with
  | none=>rw[hgo]at h1;cases h1
  | some y=>
   rw[hgo]at hg;simp only at hg;unfold A1;rw[hgo];simp only[hg,h2,JlM,cond_false];refine⟨λ hgt=>.inl ?_,λ hgf=>⟨v,[],λ _=>rfl,?_⟩⟩
   ·obtain⟨ob,e1,hob⟩:=ho hgt;split at hx
    ·rename_i a b c hop;unfold stepG;rw[hop];have:opA Γ.ty (Al s.env) s.objs (.pick a b c)=some ⟨v,[],[],none,ob⟩:=by rw[← e1,← hx];rfl
     simp only[this];refine⟨λ _=>hob,?_⟩;rw[hgo];simpa [DV,rmA,BG]using hk
    ·rw[← hx]at e1;cases e1
   ·subst hgf;simpa using hk
 ·cases hn
end Go.AI
end
section
namespace Go.AI
def GA:List (Nat×Nat)->Prop
 | []=>True
 | (a,b)::r=>a<=b/\GA r
theorem leZ:GA []:=trivial
theorem leK {a b:Nat} {r:List (Nat×Nat)} (h:a<=b) (hr:GA r):GA ((a,b)::r):=⟨h,hr⟩
theorem M7 {l m:List (Nat×Nat)} (h:GA (l++m)):GA l/\GA m:=by
 induction l with
 | nil=>exact⟨trivial,h⟩
 | cons a l ih=>exact⟨⟨h.1,(ih h.2).1⟩,(ih h.2).2⟩
def xD (objs:List (Option Ob)):AV->Option (D×List Nat×List (Nat×Nat))
 | .d .nil=>some (.sl [],[],[])
 | .d x=>some (x,[],[])
 | .osl k sz lo n=>match obA objs k with
  | some (.arr sz' es)=>bif Nat.beq sz sz' then some (.sl ((es.drop lo).take n),[k],[(lo+n,es.length)])else none
  | _=>none
 | _=>none
def xDs (objs:List (Option Ob)):List AV->Option (List D×List Nat×List (Nat×Nat))
 | []=>some ([],[],[])
 | v::vs=>match xD objs v,xDs objs vs with
  | some (x,k,o),some (xs,ks,os)=>some (x::xs,k++ks,o++os)
  | _,_=>none
def xA (objs:List (Option Ob)):AV->Option (AV×List Nat×List (Nat×Nat))
 | .agg l=>match xDs objs l with
  | some (x,k,o)=>some (.agg (x.map .d),k,o)
  | none=>none
 | .ptr k off=>match obA objs k with
  | some (.box cells)=>match xDs objs cells with
   | some (x,ks,o)=>bif ks.contains k then none else some (.dptr x off,k::ks,o)
   | none=>none
  | _=>none
 | .eptr k sz i off=>match obA objs k with
  | some (.arr sz' es)=>bif Nat.beq sz sz' then some (.dptr (es[i]?.getD []) off,[k],[(i+1,es.length)])else none
  | some (.narr sz' es)=>bif Nat.beq sz sz' then some (.dptr ((es[i]?.getD []).map ofN) off,[k],[(i+1,es.length),(Uo es,0)])else none
  | _=>none
 | .dptr e off=>some (.dptr e off,[],[])
 | .osl k sz lo n=>match obA objs k with
  | some (.narr sz' es)=>bif Nat.beq sz sz' then some (.d (.sl (((es.drop lo).take n).map λ e=>e.map ofN)),[k],[(lo+n,es.length),(Uo es,0)])else none
  | _=>match xD objs (.osl k sz lo n)with
   | some (x,k,o)=>some (.d x,k,o)
   | none=>none
 | v=>match xD objs v with
  | some (x,k,o)=>some (.d x,k,o)
  | none=>none
def xAs (objs:List (Option Ob)):List AV->Option (List AV×List Nat×List (Nat×Nat))
 | []=>some ([],[],[])
 | v::vs=>match xA objs v,xAs objs vs with
  | some (x,k,o),some (xs,ks,os)=>some (x::xs,k++ks,o++os)
  | _,_=>none
theorem Jal {objs:List (Option Ob)} {v:AV} {x:D} {ks:List Nat} {o:List (Nat×Nat)} (h:xD objs v=some (x,ks,o)) (ho:GA o):∃ ob,IS objs v=some ⟨x,ks,ob⟩/\ob:=by
 unfold xD at h;split at h
 ·cases h;exact⟨_,rfl,trivial⟩
 ·rename_i y hy;cases h;refine⟨True,?_,trivial⟩;unfold IS;split
  ·rename_i e;cases e;exact absurd rfl hy
  ·rename_i e;cases e;rfl
  ·rename_i e;cases e
  ·rename_i e1 _;exact absurd rfl (e1 _)
 ·rename_i k sz lo n;split at h
  ·rename_i sz' es hob;obtain⟨hb,h⟩:=AU h;cases h;refine⟨_,?_,ho.1⟩;simp only[IS,hob,hb,cond_true]
  ·cases h
 ·cases h
theorem HE {objs:List (Option Ob)}:∀ {l:List AV} {x:List D} {ks:List Nat} {o:List (Nat×Nat)},xDs objs l=some (x,ks,o)->GA o->∃ ob,D0 objs l=some ⟨x,ks,ob⟩/\ob:=by
 intro l;induction l with
 | nil=>intro x ks o h _;cases h;exact⟨_,rfl,trivial⟩
 | cons v l ih=>
  intro x ks o h ho;simp only[xDs]at h;split at h
  ·rename_i a b c a' b' c' h1 h2;cases h;obtain⟨o1,o2⟩:=M7 ho;obtain⟨p1,e1,q1⟩:=Jal h1 o1;obtain⟨p2,e2,q2⟩:=ih h2 o2;exact⟨p1/\p2,by simp only[D0,e1,e2],q1,q2⟩
  ·cases h
theorem Jja {objs:List (Option Ob)} {v x:AV} {ks:List Nat} {o:List (Nat×Nat)} (h:xA objs v=some (x,ks,o)) (ho:GA o):∃ ob,MM objs v=some ⟨x,ks,ob⟩/\ob:=by
 unfold xA at h;split at h
 ·split at h
  ·rename_i h1;cases h;obtain⟨p1,e1,q1⟩:=HE h1 ho;exact⟨_,by simp only[MM,e1],q1⟩
  ·cases h
 ·rename_i k off;split at h
  ·rename_i cells hk;split at h
   ·rename_i x ks' o' h1;cases hc:ks'.contains k with
    | true=>rw[hc]at h;cases h
    | false=>
     rw[hc,cond_false]at h;cases h;obtain⟨p1,e1,q1⟩:=HE h1 ho;refine⟨k ∉ ks'/\p1,by simp only[MM,hk,e1],?_,q1⟩;intro hm;rw[List.contains_iff_mem.2 hm]at hc;cases hc
   ·cases h
  ·cases h
 ·rename_i k sz i off;split at h
  ·rename_i sz' es hk;obtain⟨hb,h⟩:=AU h;cases h;exact⟨sz=sz'/\i<es.length,by simp only[MM,hk],Jl6 hb,ho.1⟩
  ·rename_i sz' es hk;obtain⟨hb,h⟩:=AU h;cases h;exact⟨sz=sz'/\i<es.length/\Uo es=0,by simp only[MM,hk],Jl6 hb,ho.1,Nat.le_zero.1 ho.2.1⟩
  ·cases h
 ·cases h;exact⟨_,rfl,trivial⟩
 ·rename_i k sz lo n;split at h
  ·rename_i sz' es hk;obtain⟨hb,h⟩:=AU h;cases h;exact⟨lo+n<=es.length/\Uo es=0,by simp only[MM,hk,hb,cond_true],ho.1,Nat.le_zero.1 ho.2.1⟩
  ·rename_i hne;split at h
   ·rename_i h1;cases h;obtain⟨p1,e1,q1⟩:=Jal h1 ho;exact⟨p1,by simp only[MM,e1],q1⟩
   ·cases h
 ·rename_i hn1 hn2 hn3 hn4 hn5;split at h
  ·rename_i h1;cases h;obtain⟨p1,e1,q1⟩:=Jal h1 ho;refine⟨p1,?_,q1⟩;unfold MM;split
   ·exact absurd rfl (hn1 _)
   ·exact absurd rfl (hn2 _ _)
   ·exact absurd rfl (hn3 _ _ _ _)
   ·exact absurd rfl (hn4 _ _)
   ·exact absurd rfl (hn5 _ _ _ _)
   ·rw[e1]
  ·cases h
theorem Jam {objs:List (Option Ob)}:∀ {l:List AV} {x:List AV} {ks:List Nat} {o:List (Nat×Nat)},xAs objs l=some (x,ks,o)->GA o->∃ ob,LS objs l=some ⟨x,ks,ob⟩/\ob:=by
 intro l;induction l with
 | nil=>intro x ks o h _;cases h;exact⟨_,rfl,trivial⟩
 | cons v l ih=>
  intro x ks o h ho;simp only[xAs]at h;split at h
  ·rename_i a b c a' b' c' h1 h2;cases h;obtain⟨o1,o2⟩:=M7 ho;obtain⟨p1,e1,q1⟩:=Jja h1 o1;obtain⟨p2,e2,q2⟩:=ih h2 o2;exact⟨p1/\p2,by simp only[LS,e1,e2],q1,q2⟩
  ·cases h
def Jc (c:Code) (i:Nat) (s:St):Option (FuncId×List AV×List Nat×List (Nat×Nat)):=
 match (Bd c)[i]? with
 | some o=>match o.op with
  | .call ⟨.value (.func f),args,_⟩=>match xAs s.objs (args.toList.map λ x=>unG (Al s.env x))with
   | some (x,ks,os)=>some (f,x,ks,os)
   | none=>none
  | _=>none
 | none=>none
def Sz:List AV->List Nat
 | []=>[]
 | .own _ es::r=>es.length::Sz r
 | _::r=>Sz r
def Vi:AV->List Nat
 | .own _ es=>[es.length]
 | .agg l=>Sz l
 | _=>[]
def Vj:List AV->List Nat
 | []=>[]
 | v::r=>Vi v++Vj r
def Ix:AV->List Nat
 | .tup l=>Vj l
 | v=>Vi v
def ilC (m:Bool) (n:Nat):List Nat->List AV->List AV×List Nat
 | ls,[]=>([],ls)
 | ls,.own sz es::r=>bif m then(.osl n sz 0 (ls.headD 0)::(ilC m (n+1) ls.tail r).1,(ilC m (n+1) ls.tail r).2)else(.d (.sl es)::(ilC m n ls.tail r).1,(ilC m n ls.tail r).2)
 | ls,.d x::r=>(.d x::(ilC m n ls r).1,(ilC m n ls r).2)
 | ls,_::r=>(.top::(ilC m n ls r).1,(ilC m n ls r).2)
def ilA (m:Bool) (n:Nat) (ls:List Nat):AV->AV×List Nat
 | .own sz es=>bif m then(.osl n sz 0 (ls.headD 0),ls.tail)else(.d (.sl es),ls.tail)
 | .agg l=>(.agg (ilC m n ls l).1,(ilC m n ls l).2)
 | .d x=>(.d x,ls)
 | _=>(.top,ls)
def ilT (m:Bool) (n:Nat):List Nat->List AV->List AV
 | _,[]=>[]
 | ls,v::r=>(ilA m n ls v).1::ilT m (n+(B6 m n v).2.length) (ilA m n ls v).2 r
def ilR (m:Bool) (n:Nat) (ls:List Nat):AV->AV
 | .tup l=>.tup (ilT m n ls l)
 | v=>(ilA m n ls v).1
theorem Jfx (m:Bool):∀ (l:List AV) (n:Nat) (rest:List Nat),ilC m n (Sz l++rest) l=((Bn m n l).1,rest):=by
 intro l;induction l with
 | nil=>intro n rest;rfl
 | cons v l ih=>
  intro n rest;cases v<;>simp only[Sz,List.cons_append,ilC,Bn,List.headD_cons,List.tail_cons,ih]<;>try rfl
  cases m<;>simp only[cond_true,cond_false]
theorem WF (m:Bool) (v:AV) (n:Nat) (rest:List Nat):ilA m n (Vi v++rest) v=((B6 m n v).1,rest):=by
 cases v with
 | own sz es=>cases m<;>rfl
 | agg l=>simp only[Vi,ilA,B6,Jfx]
 | _=>rfl
theorem Jfy (m:Bool):∀ (l:List AV) (n:Nat),ilT m n (Vj l) l=(CY m n l).1:=by
 intro l;induction l with
 | nil=>intro n;rfl
 | cons v l ih=>intro n;simp only[Vj,ilT,CY,WF,ih]
theorem Jan (m:Bool) (n:Nat) (r:AV) {ls:List Nat} (h:Ix r=ls):ilR m n ls r=(BZ m n r).1:=by
 subst h;cases r with
 | tup l=>simp only[Ix,ilR,BZ,Jfy]
 | own sz es=>have:=WF m (.own sz es) n [];simp only[List.append_nil]at this;simp only[Ix,ilR,BZ,this]
 | agg l=>have:=WF m (.agg l) n [];simp only[List.append_nil]at this;simp only[Ix,ilR,BZ,this]
 | _=>rfl
def ON (Γ:Cx) (c:Code) (i:Nat) (m:Bool) (ls:List Nat) (r:AV) (s:St):Option St:=
 match (Bd c)[i]? with
 | some o=>bif o.guard.isNone&&BE Γ.nt o.dst&&(o.op.operands.toList.map (Al s.env)).all M6 then some ⟨putA o.dst false true (ilR m s.objs.length ls r) s.env,s.objs++(BZ m s.objs.length r).2.map some⟩else none
 | none=>none
def Qm (Γ:Cx) (c:Code) (i:Nat) (g m:Bool) (ls:List Nat) (r:AV) (s:St):Option St:=
 match (Bd c)[i]? with
 | some o=>bif o.guard.isSome&&BE Γ.nt o.dst then some ⟨putA o.dst true g (ilR m s.objs.length ls r) s.env,s.objs++(BZ m s.objs.length r).2.map some⟩else none
 | none=>none
variable {Γ:Cx} {C:Code} {p p0 p1:List Nat} {Q:Ex->St->Prop} {s s':St} {K:St->Prop} {i:Nat} {nk:Nat}
theorem XG {o:Oper} {f:FuncId} {args:Array Operand} {ts:Array TypeId} (hop:o.op=.call ⟨.value (.func f),args,ts⟩) {env:List (Nat×AV)} (h:(o.op.operands.toList.map (Al env)).all M6=true):(args.toList.map (Al env)).all M6=true:=by
 rw[hop]at h;simp only[Op.operands,Call.operands]at h;simp only[Array.toList_append,List.map_append,List.all_append,Jl0]at h;exact h.2
theorem Jao (j:Nat) (m:Bool) {f:FuncId} {xs ys:List AV} {ks:List Nat} {obl:List (Nat×Nat)} {r:AV} (hc:Jc (nav p C) i s=some (f,xs,ks,obl)) (hob:GA obl) (hxs:xs=ys) (hr:Γ.calls f ys r) (hf:ks=[]\/JC r) {ls:List Nat} (hls:Ix r=ls) (hn:ON Γ (nav p C) i m ls r s=some s') (hj:i+1=j) (hk:A7 Γ C p j K s'):A7 Γ C p i K s:=by
 subst hj;subst hxs;unfold A7 at hk⊢;unfold Jc at hc;unfold ON at hn;rw[Jan m _ r hls]at hn;split at hn
 ·rename_i o hi;rw[hi]at hc;simp only at hc;obtain⟨hcc,hn⟩:=AU hn;simp only[Jl0]at hcc;obtain⟨⟨h1,h2⟩,h3⟩:=hcc;cases hn;rw[CE hi];show A1 _ _ _ _ _ _;have hgN:o.guard=none:=by simpa using h1
  split at hc
  ·rename_i f' args ts hop;split at hc
   ·rename_i x ks' os hx;cases hc;obtain⟨ob,e1,q1⟩:=Jam hx hob;unfold A1;rw[hgN];simp only[Bw,h2,JlM,cond_false];refine⟨λ _=>.inl ?_,λ h=>by cases h⟩;unfold stepG;rw[hop];refine⟨Lk (XG hop h3),?_⟩;unfold JD;rw[e1];refine⟨λ _=>q1,m,r,λ _=>hr,?_,?_⟩
    ·rcases hf with rfl|hf
     ·trivial
     ·cases ks.isEmpty<;>first|trivial|exact hf
    ·rw[hgN];exact hk
   ·cases hc
  ·cases hc
 ·cases hn
theorem Jfz {g:Bool} {gs:List Bool} (j:Nat) (m:Bool) {f:FuncId} {xs ys:List AV} {ks:List Nat} {obl:List (Nat×Nat)} {r:AV} (hg:gAt (nav p C) i s=some g) (hc:Jc (nav p C) i s=some (f,xs,ks,obl)) (hob:g=true->GA obl) (hxs:g=true->xs=ys) (hr:g=true->Γ.calls f ys r) (hf:ks=[]\/JC r) (hgs:FB (nav p C) i s=gs) (hi:Fb g gs) {ls:List Nat} (hls:Ix r=ls) (hn:Qm Γ (nav p C) i g m ls r s=some s') (hj:i+1=j) (hk:A7 Γ C p j K s'):A7 Γ C p i K s:=by
 subst hj;have hr:g=true->Γ.calls f xs r:=λ h=>by rw[hxs h];exact hr h
 unfold A7 at hk⊢;unfold Jc at hc;unfold gAt at hg;unfold FB at hgs;unfold Qm at hn;rw[Jan m _ r hls]at hn;split at hn
 ·rename_i o hii;rw[hii]at hc hg hgs;simp only at hc hg hgs;obtain⟨hcc,hn⟩:=AU hn;simp only[Jl0]at hcc;obtain⟨h1,h2⟩:=hcc;cases hn;rw[CE hii];show A1 _ _ _ _ _ _;cases hgo:o.guard with
  | none=>rw[hgo]at h1;cases h1
  | some y=>
   rw[hgo]at hg;simp only at hg;split at hc
   ·rename_i f' args ts hop;split at hc
    ·rename_i x ks' os hx;cases hc;unfold A1;rw[hgo];simp only[hg,h2,JlM,cond_false];refine⟨λ hgt=>.inl ?_,λ hgf=>⟨(BZ m s.objs.length r).1,(BZ m s.objs.length r).2,(λ hm=>by rw[hop]at hm;cases hm),?_⟩⟩
     ·unfold stepG;rw[hop];refine⟨?_,?_⟩
      ·have:=Kp (g:=g) (l:=o.op.operands.toList.map (Al s.env)) (by rw[hgs];exact hi);rw[hop]at this;simp only[Op.operands,Call.operands,Array.toList_append,List.map_append]at this;exact this
      ·obtain⟨ob,e1,q1⟩:=Jam hx (hob hgt);unfold JD;rw[e1];refine⟨λ _=>q1,m,r,hr,?_,?_⟩
       ·rcases hf with rfl|hf
        ·trivial
        ·cases ks.isEmpty<;>first|trivial|exact hf
       ·rw[hgo];exact hk
     ·subst hgf;exact hk
    ·cases hc
   ·cases hc
 ·cases hn
theorem Jjb {g:Bool} {gs:List Bool} (j:Nat) (m:Bool) {f:FuncId} {xs ys:List AV} {ks:List Nat} {obl:List (Nat×Nat)} {r:AV} (hg:gAt (nav p C) i s=some g) (hc:Jc (nav p C) i s=some (f,xs,ks,obl)) (hob:GA obl) (hxs:xs=ys) (hr:g=true->Γ.calls f ys r) (hf:ks=[]\/JC r) (hgs:FB (nav p C) i s=gs) (hi:Fb g gs) {ls:List Nat} (hls:Ix r=ls) (hn:Qm Γ (nav p C) i g m ls r s=some s') (hj:i+1=j) (hk:A7 Γ C p j K s'):A7 Γ C p i K s:=
 Jfz j m hg hc (λ _=>hob) (λ _=>hxs) hr hf hgs hi hls hn hj hk
def Jap (ty:Nat->Ty) (s:St):ResultVar->Option AV
 | .tmp t=>some (lkA s.env t)
 | .cell a t=>match lkA s.env a with
  | .ptr k off=>match obA s.objs k with
   | some (.box cells)=>bif (ty t).ok&&Nat.ble (off+(ty t).size) cells.length then CA cells off (ty t)else none
   | _=>none
  | _=>none
def Qn (ty:Nat->Ty) (s:St):List ResultVar->Option (List AV)
 | []=>some []
 | r::rs=>match Jap ty s r,Qn ty s rs with
  | some v,some vs=>some (v::vs)
  | _,_=>none
theorem Jaq {ty:Nat->Ty} {r:ResultVar} {v:AV} (h:Jap ty s r=some v):∃ q,YJ ty s r=some (v,q)/\q:=by
 cases r with
 | tmp t=>cases h;exact⟨_,rfl,trivial⟩
 | cell a t=>
  simp only[Jap]at h;split at h
  ·rename_i k off ha;split at h
   ·rename_i cells hc;obtain⟨hb,h⟩:=AU h;simp only[Jl0]at hb;refine⟨_,?_,Jme hb.2⟩;simp only[YJ,hb.1,cond_true,ha,CX,hc,h,A9]
   ·cases h
  ·cases h
theorem Tu {ty:Nat->Ty}:∀ {rs:List ResultVar} {vs:List AV},Qn ty s rs=some vs->∃ q,Qe ty s rs=some (vs,q)/\q:=by
 intro rs;induction rs with
 | nil=>intro vs h;cases h;exact⟨_,rfl,trivial⟩
 | cons r rs ih=>
  intro vs h;simp only[Qn]at h;split at h
  ·rename_i v vs' h1 h2;cases h;obtain⟨p1,e1,q1⟩:=Jaq h1;obtain⟨p2,e2,q2⟩:=ih h2;exact⟨p1/\p2,by simp only[Qe,e1,e2],q1,q2⟩
  ·cases h
theorem Jjc {ty:Nat->Ty} {rs:List ResultVar} {v r:AV} (ks:List Nat) (h:Qn ty s rs=some [v]) (ho:P4 s.objs v r) (hks:ksE (LE v r)=ks) (hnd:ks.Nodup):Vd ty rs r s:=by
 have hn:(ksE (LE v r)).Nodup:=by rw[hks];exact hnd
 obtain⟨q,e,hq⟩:=Tu h;unfold Vd;rw[e];exact⟨hq,ho,hn⟩
theorem Jjd {ty:Nat->Ty} {rs:List ResultVar} {vs l:List AV} (h:Qn ty s rs=some vs) (hl:Nat.beq vs.length 1=false) (ho:Wn s.objs vs l) (ks:List Nat) (hks:ksE (LF vs l)=ks) (hnd:ks.Nodup):Vd ty rs (.tup l) s:=by
 have hn:(ksE (LF vs l)).Nodup:=by rw[hks];exact hnd
 obtain⟨q,e,hq⟩:=Tu h;unfold Vd;rw[e];split
 ·rename_i heq;simp only[Jl9,Prod.mk.injEq]at heq;obtain⟨rfl,_⟩:=heq;cases hl
 ·rename_i heq;simp only[Jl9,Prod.mk.injEq]at heq;obtain⟨rfl,rfl⟩:=heq;exact⟨hq,ho,hn⟩
 ·rename_i heq;cases heq
theorem WG {objs:List (Option Ob)} {x:D}:LD objs (.d x) (.d x):=by
 cases x<;>first|rfl|exact .inl rfl
theorem YQ {objs:List (Option Ob)}:LD objs (.d .nil) (.d (.sl [])):=.inr rfl
theorem YR {objs:List (Option Ob)} {sz:Nat}:LD objs (.d .nil) (.own sz []):=rfl
theorem Jar {α:Type} {enc:α->List D} {xs:List α} {objs:List (Option Ob)} {k sz:Nat} (h:obA objs k=some (.arr sz (xs.map enc))):LD objs (.osl k sz 0 xs.length) (.own sz (xs.map enc)):=by
 have hb:Nat.beq sz sz=true:=Nat.beq_refl sz;simp only[LD,h,hb,cond_true,JlU,Jmd,JlO,List.drop_zero,true_and];exact(List.take_of_length_le (by simp)).symm
def Kr (c:Code) (i:Nat) (s:St):Option (FuncId×List AV×List Nat):=
 match (Bd c)[i]? with
 | some o=>match o.op with
  | .call ⟨.value (.func f),args,_⟩=>some (f,args.toList.map λ x=>unG (Al s.env x),AL s.objs (args.toList.map λ x=>unG (Al s.env x)))
  | _=>none
 | none=>none
def SA (Γ:Cx) (c:Code) (i:Nat) (ord:List Nat) (nb:Nat) (r:AV) (O1:List (Option Ob)) (s:St):Option St:=
 match (Bd c)[i]? with
 | some o=>bif !JY c&&o.guard.isNone&&BE Γ.nt o.dst&&(o.op.operands.toList.map (Al s.env)).all M6&&Nat.ble nb ord.length&&Nat.ble nb O1.length&&ord.all (λ k=>Nat.blt k s.objs.length)then
   some ⟨putA o.dst false true (MN (D1 ord s.objs.length nb) r) s.env,Dk s.objs ord nb O1⟩else none
 | none=>none
theorem lentS {f:FuncId} {xs ys:List AV} {ord:List Nat} {O0 O1:List (Option Ob)} {nb:Nat} {r:AV} (hc:Kr (nav p C) i s=some (f,xs,ord)) (hxs:xs.map (IX ord)=ys) (hO:Fw s.objs ord=O0) (hr:Γ.lent f ys O0 nb r O1) (hn:SA Γ (nav p C) i ord nb r O1 s=some s') (hk:A7 Γ C p (i+1) K s'):A7 Γ C p i K s:=by
 subst hxs;subst hO;unfold A7 at hk⊢;unfold Kr at hc;unfold SA at hn;split at hn
 ·rename_i o hi;rw[hi]at hc;simp only at hc;obtain⟨hcc,hn⟩:=AU hn;simp only[Jl0,Bool.not_eq_true']at hcc;obtain⟨⟨⟨⟨⟨⟨h0,h1⟩,h2⟩,h3⟩,h4⟩,h5⟩,h6⟩:=hcc;cases hn;rw[CE hi];show A1 _ _ _ _ _ _;have hgN:o.guard=none:=by simpa using h1
  split at hc
  ·rename_i f' args ts hop;cases hc;unfold A1;rw[hgN];simp only[Bw,h2,JlM,cond_false];refine⟨λ _=>.inr (.inr ?_),λ h=>by cases h⟩;unfold Xp;refine⟨h0,.inr ⟨hgN,.inr ?_⟩⟩;rw[hop];refine⟨Lk (XG hop h3),nb,r,O1,hr,Jme h4,Jme h5,λ k hk=>?_,hk⟩;have:=JlJ.1 h6 k hk;have:=Jme this;omega
  ·cases hc
 ·cases hn
theorem Jje {P:Program} (hfol:P.follows .mixedOrders=true) (hΓ:Gv P Γ) (hrd:Γ.rd=false) {f:FuncId} {fn:Func} {args:List AV} {r:AV} (hf:P.funcs[f]? = some fn) (hb:fn.body=some (AR fn)) (hnm:(fn.name == "runtime.NumGoroutine")=false)
  (hnt:Γ.nt.n=fn.ntmps) (hlen:Nat.ble args.length fn.ntmps=true) (hs:(⟨(List.range args.length).zip args,[]⟩:St)=s) (h:wpA Γ (nav [] (AR fn)) (Ve Γ.ty fn.results.toList r) s):AQ P f args r:=
 YL hfol hΓ hrd hf hb hnm hnt (Jme hlen) (by rw[hs];exact h)
theorem JdA {P:Program} (hfol:P.follows .mixedOrders=true) (hΓ:Gv P Γ) (hrd:Γ.rd=false) {f:FuncId} {fn:Func} {args:List AV} {objs objs1:List (Option Ob)} {nb:Nat} {r:AV} (hf:P.funcs[f]? = some fn) (hb:fn.body=some (AR fn)) (hnm:(fn.name == "runtime.NumGoroutine")=false)
  (hnt:Γ.nt=⟨fn.ntmps,[],nb,Γ.nt.qf⟩) (hlen:Nat.ble args.length fn.ntmps=true)
  (hs:(⟨(List.range args.length).zip args,objs⟩:St)=s) (h:wpA Γ (nav [] (AR fn)) (Sw nb Γ.ty fn.results.toList r objs1) s):BV P f args objs nb r objs1:=
 YM hfol hΓ hrd hf hb hnm hnt (Jme hlen) (by rw[hs];exact h)
theorem JeM (ts:List Nat) (h:gcA nk ts s=s'):Ay nk s s':=by subst h;exact .gc ts
theorem JdB:Ay nk s s:=.refl s
def CN (s:St) (k:Nat):List AV:=
 match obA s.objs k with
 | some (.box cells)=>cells
 | _=>[]
def LV (s:St) (k:Nat):Bool:=
 match obA s.objs k with
 | some (.box _)=>true
 | _=>false
theorem Iy {k:Nat} (h:LV s k=true):obA s.objs k=some (.box (CN s k)):=by
 unfold LV at h;unfold CN;split at h
 ·rename_i hh;rw[hh]
 ·cases h
theorem Cu (k i sz:Nat) (h:(LV s k,(CN s k)[i]?)=(true,some (.d .nil))):Ay nk s ⟨s.env,s.objs.set k (some (.box ((CN s k).set i (.osl s.objs.length sz 0 0))))++[some (.arr sz [])]⟩:=by
 simp only[Prod.mk.injEq]at h;exact .nilc k i sz _ (Iy h.1) h.2
def OO (s:St):AV->Option (Nat×Nat×Nat×Nat×List (List D))
 | .osl k sz lo n=>match obA s.objs k with
  | some (.arr sz' es)=>bif Nat.beq sz sz' then some (k,sz,lo,n,es)else none
  | _=>none
 | _=>none
theorem M8 {v:AV} {k sz lo n:Nat} {es:List (List D)} (h:OO s v=some (k,sz,lo,n,es)):v=.osl k sz lo n/\obA s.objs k=some (.arr sz es):=by
 unfold OO at h;split at h
 ·split at h
  ·rename_i hob;obtain⟨hb,h1⟩:=AU h;clear h;have h:=h1;have:=Jl6 hb;subst this;simp only[Jl9,Prod.mk.injEq]at h;obtain⟨rfl,rfl,rfl,rfl,rfl⟩:=h;exact⟨rfl,hob⟩
  ·cases h
 ·cases h
theorem JfA (t:Nat) (E:List (List D)) {k sz lo n:Nat} {es:List (List D)} (h:OO s (lkA s.env t)=some (k,sz,lo,n,es)) (hE:(es.drop lo).take n=E) (hn:lo+n<=es.length):Ay nk s ⟨(t,.d (.sl E))::s.env,s.objs.set k none⟩:=by
 subst hE;obtain⟨h1,h2⟩:=M8 h;exact .frzA t k sz lo n es h1 h2 hn
theorem Tv (t:Nat) (E:List (List D)) (M:Nat) {k sz lo n:Nat} {es:List (List D)} (h:OO s (lkA s.env t)=some (k,sz,lo,n,es)) (hE:(es.drop lo).take n=E) (hn:lo+n<=es.length) (hM:n=M):Ay nk s ⟨(t,.osl s.objs.length sz 0 M)::s.env,s.objs.set k none++[some (.arr sz E)]⟩:=by
 subst hE;subst hM;obtain⟨h1,h2⟩:=M8 h;exact .sub t k sz lo n es h1 h2 hn
theorem JdC (kb i:Nat) (E:List (List D)) {k sz lo n:Nat} {es:List (List D)} (h:(LV s kb,((CN s kb)[i]?).bind (OO s))=(true,some (k,sz,lo,n,es))) (hE:(es.drop lo).take n=E) (hn:lo+n<=es.length):Ay nk s ⟨s.env,(s.objs.set k none).set kb (some (.box ((CN s kb).set i (.d (.sl E)))))⟩:=by
 subst hE;simp only[Prod.mk.injEq,Option.bind_eq_some_iff]at h;obtain⟨h0,v,hv,h⟩:=h;obtain⟨h1,h2⟩:=M8 h;subst h1;exact .frzC kb i k sz lo n _ es (Iy h0) hv h2 hn
theorem EB (kb i:Nat) (E:List (List D)) (M:Nat) {k sz lo n:Nat} {es:List (List D)} (h:(LV s kb,((CN s kb)[i]?).bind (OO s))=(true,some (k,sz,lo,n,es))) (hE:(es.drop lo).take n=E) (hn:lo+n<=es.length) (hM:n=M):Ay nk s ⟨s.env,(s.objs.set k none).set kb (some (.box ((CN s kb).set i (.osl s.objs.length sz 0 M))))++[some (.arr sz E)]⟩:=by
 subst hE;subst hM;simp only[Prod.mk.injEq,Option.bind_eq_some_iff]at h;obtain⟨h0,v,hv,h⟩:=h;obtain⟨h1,h2⟩:=M8 h;subst h1;exact .subC kb i k sz lo n _ es (Iy h0) hv h2 hn
theorem JfB (t k sz lo n m:Nat) (h:lkA s.env t=.osl k sz lo n) (e:n=m):Ay nk s ⟨(t,.osl k sz lo m)::s.env,s.objs⟩:=by
 subst e;have:=Ay.dup (nk:=nk) (st:=s) t;rwa[h]at this
theorem B1 {α:Type} {enc:α->List D} {xs:List α}:((xs.map enc).drop 0).take xs.length=xs.map enc:=by
 rw[List.drop_zero];exact List.take_of_length_le (by simp)
theorem M9 {α:Type} {enc:α->List D} {xs:List α}:AV.d (.sl (((xs.map enc).drop 0).take xs.length))=AV.d (.sl (xs.map enc)):=by rw[B1]
theorem D4 {a b:AV} {l m:List AV} (h:a=b) (h':l=m):a::l=b::m:=by rw[h,h']
theorem Jjf {l m:List AV} (h:l=m):AV.agg l=AV.agg m:=by rw[h]
def Na (Γ:Cx) (c:Code) (i:Nat) (s:St):Option (List (List D)):=
 match (Bd c)[i]? with
 | some o=>opF Γ.ty (λ x=>unG (Al s.env x)) o.op
 | none=>none
def XH (Γ:Cx) (c:Code) (i:Nat) (es:List (List D)) (s:St):Option St:=
 match (Bd c)[i]? with
 | some o=>bif o.guard.isNone&&BE Γ.nt o.dst&&(o.op.operands.toList.map (Al s.env)).all M6 then some ⟨putA o.dst false true (.d (.sl es)) s.env,s.objs⟩else none
 | none=>none
theorem Jjg (j:Nat) (es:List (List D)) (hx:Na Γ (nav p C) i s=some es) (hn:XH Γ (nav p C) i es s=some s') (hj:i+1=j) (hk:A7 Γ C p j K s'):A7 Γ C p i K s:=by
 subst hj;unfold A7 at hk⊢;unfold Na at hx;unfold XH at hn;split at hn
 ·rename_i o hi;rw[hi]at hx;simp only at hx;obtain⟨hc,hn⟩:=AU hn;simp only[Jl0]at hc;obtain⟨⟨h1,h2⟩,h3⟩:=hc;cases hn;rw[CE hi];show A1 _ _ _ _ _ _;have hgN:o.guard=none:=by simpa using h1
  unfold A1;rw[hgN];simp only[Bw,h2,JlM,cond_false];refine⟨λ _=>.inr (.inl ?_),λ h=>by cases h⟩;unfold Fg;rw[hx];refine⟨Lk h3,?_⟩;rw[hgN];exact hk
 ·cases hn
def Jas (Γ:Cx) (c:Code) (i:Nat) (s:St):Option (AV×List Ob):=
 match (Bd c)[i]? with
 | some o=>bif WE Γ.ty (λ x=>unG (Al s.env x)) s.objs o.op then(match opA Γ.ty (λ x=>unG (Al s.env x)) s.objs o.op with
  | some ⟨v,obs,[],none,_⟩=>some (v,obs)
  | _=>none)else none
 | none=>none
theorem Jjh {v:AV} {obs:List Ob} (h:Jas Γ (nav p C) i s=some (v,obs)):ES (NU Γ (nav p C) i s) v obs [] none:=by
 unfold Jas at h;unfold NU;split at h
 ·rename_i o hi
  try rw[hi]
  obtain⟨hb,h⟩:=AU h;split at h
  ·rename_i he;cases h;exact⟨_,he,Qk hb he⟩
  ·cases h
 ·cases h
theorem CC {α:Type} {g:Bool} {x y:Option α} {z:α} (h:(if g=true then x else y)=some z):g=true->x=some z:=λ e=>by rw[if_pos e]at h;exact h
end Go.AI
end
section
namespace Go.AI
def AX (n:Int):List D:=[.int .i64 n]
def eU8 (n:Int):List D:=[.int .u8 n]
def eB (b:Bool):List D:=[.bool b]
def eS (s:List UInt8):List D:=[.str s]
def eL {α:Type} (e:α->List D) (l:List α):List D:=[.sl (l.map e)]
variable {α κ:Type} {enc:α->List D} {objs:List (Option Ob)}
theorem ES.of {x:Option Eff} {v:AV} {obs:List Ob} {rm:List Nat} {upd:Option (Nat×Ob)} {ob:Prop} (h:x=some ⟨v,obs,rm,upd,ob⟩) (ho:ob):ES x v obs rm upd:=⟨ob,h,ho⟩
theorem Tw {xs:List α} {i:Int} {x:α} (h:idx xs i=some x):(xs.map enc)[i.toNat]?=some (enc x):=by
 rw[Jl3,(CM h).2.2];rfl
theorem JdD {xs:List α} {i:Int} {x:α} {esz eb:Nat} {ez:List D} (h:idx xs i=some x) (hl:Nat.beq (enc x).length esz=true):ES (Rw (.slice esz eb ez) (.d (.sl (xs.map enc))) i) (.dptr (enc x) 0) [] [] none:=by
 obtain⟨h0,h1,_⟩:=CM h;refine .of (ob:=0<=i/\i<(xs.map enc).length/\(enc x).length=esz) ?_ ⟨h0,by simpa using h1,Jl6 hl⟩;simp only[Rw,A9,Tw (enc:=enc) h,JlK]
theorem JdE {xs:List α} {i:Int} {x:α} {esz eb k:Nat} {ez:List D} (h:idx xs i=some x):ES (Rw (.slice esz eb ez) (.osl k esz 0 xs.length) i) (.eptr k esz (0+i.toNat) 0) [] [] none:=by
 obtain⟨h0,h1,_⟩:=CM h;exact .of rfl ⟨h0,h1,rfl⟩
theorem JfC {xs:List α} {i:Int} {x:α} {k sz off:Nat} {t:Ty} {v:AV} (hk:obA objs k=some (.arr sz (xs.map enc))) (h:idx xs i=some x) (hv:CA ((enc x).map .d) off t=some v) (hl:Nat.ble (off+t.size) (enc x).length=true) :
  ES (CX t objs (.eptr k sz (0+i.toNat) off)) v [] [] none:=by
 obtain⟨h0,h1,_⟩:=CM h;have e:=Tw (enc:=enc) h;refine .of (ob:=sz=sz/\0+i.toNat<(xs.map enc).length/\off+t.size<=(enc x).length) ?_ ⟨rfl,?_,Jme hl⟩
 ·simp only[CX,hk,Jmd,e,JlK,hv,A9]
 ·have:=Af e;omega
theorem JfD {xs zs:List α} {i:Int} {x y:α} {k sz off:Nat} {t:Ty} {v:AV} {r:List D} {ks:List Nat} {obl:List (Nat×Nat)} (hk:obA objs k=some (.arr sz (xs.map enc))) (h:idx xs i=some x) (hz:put xs i y=some zs) (hx:xDs objs (Ar v)=some (r,ks,obl)) (hob:GA obl)
  (hc:(Bz v&&(Ar v).all CG&&!ks.contains k)=true) (hy:Gm (enc x) off r=enc y) (hl:(Nat.beq r.length t.size&&Nat.ble (off+t.size) sz)=true) :
  ES (EO t objs (.eptr k sz (0+i.toNat) off) v) .top [] ks (some (k,.arr sz (zs.map enc))):=by
 obtain⟨h0,h1,_⟩:=CM h;have e:=Tw (enc:=enc) h;obtain⟨ob,e1,q1⟩:=HE hx hob;simp only[Jl0]at hl;have hzz:zs=xs.set i.toNat y:=by
  unfold put at hz;split at hz
  ·cases hz;rfl
  ·cases hz
 refine .of (ob:=sz=sz/\r.length=t.size/\0+i.toNat<(xs.map enc).length/\off+t.size<=sz/\ob) ?_ ⟨rfl,Jl6 hl.1,?_,Jme hl.2,q1⟩
 ·simp only[EO,hk,e1,hc,cond_true,Jmd,e,JlK,hy,hzz,List.map_set]
 ·have:=Af e;omega
theorem JfE {xs ys zs:List α} {eb:Nat} (h:app eb xs ys=some zs):(xs.length+(ys.map enc).length)*eb<=70368744177664/\xs.length+(ys.map enc).length=zs.length/\zs=xs++ys:=by
 obtain⟨h1,h2⟩:=Iv h;subst h2;exact⟨by simpa using h1,by simp,rfl⟩
theorem JfF {xs ys zs:List α} {esz eb k:Nat} {E:List (List D)} {ob:Prop} (hk:obA objs k=some (.arr esz (xs.map enc))) (hE:E=ys.map enc) (hl:∀ y,(enc y).length=esz) (ho:ob) (h:app eb xs ys=some zs) :
  ES (Ct esz eb objs (.osl k esz 0 xs.length) E ob) (.osl objs.length esz 0 zs.length) [.arr esz (zs.map enc)] [k] none:=by
 subst hE;obtain⟨h1,h2,h3⟩:=JfE (enc:=enc) h;subst h3;have hb:Nat.beq esz esz=true:=Nat.beq_refl esz;refine .of (ob:=0+xs.length<=(xs.map enc).length/\(∀ e∈ys.map enc,e.length=esz)/\(xs.length+(ys.map enc).length)*eb<=70368744177664/\ob) ?_ ⟨by simp,?_,h1,ho⟩
 ·simp only[Ct,hk,hb,Bool.true_or,Bool.and_self,cond_true,List.drop_zero,h2];have e1:List.take xs.length (xs.map enc)=List.map enc xs:=List.take_of_length_le (by simp);simp only[e1,List.map_append]
 ·intro e he;simp only[JlR]at he;obtain⟨y,_,rfl⟩:=he;exact hl y
theorem JfG {x y z:List UInt8} (h:cat x y=some z):ES (Um .add x y) (.d (.str z)) [] [] none:=by
 unfold cat at h;split at h
 ·rename_i h0;cases h;exact .of rfl (by show((x.length+y.length:Nat):Int)<=9223372036854775807;omega)
 ·cases h
theorem JdF {s:List UInt8} {i b:Int} (h:Iu s i=some b):ES (A9 (.d (.int .u8 (s[i.toNat]?.getD 0).toNat)) (0<=i/\i<s.length)) (.d (.int .u8 b)) [] [] none:=by
 unfold Iu at h;split at h
 ·rename_i h0;cases h;exact .of rfl h0
 ·cases h
theorem JdG {s z:List UInt8} {l h:Int} (hz:sub s l h=some z):ES (A9 (.d (.str ((s.take h.toNat).drop l.toNat))) (0<=l/\l<=h/\h<=s.length)) (.d (.str z)) [] [] none:=by
 unfold sub at hz;split at hz
 ·rename_i h0;cases hz;exact .of rfl h0
 ·cases hz
theorem JfH {xs zs:List α} {l h:Int} {esz:Nat} (hz:sub xs l h=some zs) (hl:∀ y,(enc y).length=esz):ES (A9 (.d (.sl (((xs.map enc).take h.toNat).drop l.toNat))) (0<=l/\l<=h/\h<=(xs.map enc).length/\∀ e∈xs.map enc,e.length=esz)) (.d (.sl (zs.map enc))) [] [] none:=by
 unfold sub at hz;split at hz
 ·rename_i h0;cases hz;refine .of (ob:=0<=l/\l<=h/\h<=(xs.map enc).length/\∀ e∈xs.map enc,e.length=esz) ?_ ⟨h0.1,h0.2.1,by simpa using h0.2.2,?_⟩
  ·simp only[A9,List.map_drop,List.map_take]
  ·intro e he;simp only[JlR]at he;obtain⟨y,_,rfl⟩:=he;exact hl y
 ·cases hz
theorem Jji {zs:List α} {n:Int} {z:α} {esz eb:Nat} {ez:List D} (h:mkl eb n z=some zs) (he:enc z=ez):ES (some ⟨.osl objs.length esz 0 n.toNat,[.arr esz (List.replicate n.toNat ez)],[],none,0<=n/\n<=n/\n.toNat*eb<=70368744177664⟩) (.osl objs.length esz 0 zs.length) [.arr esz (zs.map enc)] [] none:=by
 unfold mkl at h;split at h
 ·rename_i h0;cases h;refine .of (ob:=0<=n/\n<=n/\n.toNat*eb<=70368744177664) ?_ ⟨h0.1,Int.le_refl _,h0.2⟩;simp[he]
 ·cases h
theorem JdH {bs:List Int} {z:List UInt8} (h:Vg bs=some z) {eb:Nat}:ES (ML (.slice 1 eb [.int .u8 0]) .string (.d (.sl (bs.map λ n=>[.int .u8 n])))) (.d (.str z)) [] [] none:=by
 unfold Vg at h;split at h
 ·rename_i h0;cases h;simp only[JlJ,Jl0,decide_eq_true_eq]at h0;refine .of (ob:=True/\∀ e∈bs.map λ n=>[D.int .u8 n],NJ e) ?_ ⟨trivial,?_⟩
  ·simp only[ML,FY,A9,List.map_map];rfl
  ·intro e he;simp only[JlR]at he;obtain⟨n,hn,rfl⟩:=he;obtain⟨h1,h2⟩:=h0 n hn;refine⟨UInt8.ofNat n.toNat,?_⟩;have:(UInt8.ofNat n.toNat).toNat=n.toNat:=by simp;omega
   rw[this];congr 2;omega
 ·cases h
theorem JfI {xs:List α} {esz eb:Nat} {ez:List D}:ES (V3 (.slice esz eb ez) (.d (.sl (xs.map enc)))) (.d (.int .i64 xs.length)) [] [] none:=by
 refine .of (ob:=True) ?_ trivial;simp only[V3,val,JlU]
theorem JfJ {xs zs:List α} {l h:Int} {esz k:Nat} (hz:sub xs l h=some zs):ES (A9 (.osl k esz (0+l.toNat) (h.toNat-l.toNat)) (0<=l/\l<=h/\h<=(xs.length:Int)/\esz=esz)) (.osl k esz (0+l.toNat) (h.toNat-l.toNat)) [] [] none:=by
 unfold sub at hz;split at hz
 ·rename_i h0;exact .of rfl ⟨h0.1,h0.2.1,h0.2.2,rfl⟩
 ·cases hz
theorem Tx {xs zs:List α} {l h:Int} (hz:sub xs l h=some zs):((xs.map enc).drop (0+l.toNat)).take (h.toNat-l.toNat)=zs.map enc:=by
 unfold sub at hz;split at hz
 ·cases hz;rw[Jmd,List.map_drop,List.map_take,List.take_drop];by_cases hh:l.toNat<=h.toNat
  ·rw[Nat.add_sub_cancel' hh]
  ·rename_i h0;omega
 ·cases hz
theorem WH {xs zs:List α} {l h:Int} (hz:sub xs l h=some zs):(0+l.toNat)+(h.toNat-l.toNat)<=(xs.map enc).length:=by
 unfold sub at hz;split at hz
 ·rename_i h0;simp;omega
 ·cases hz
theorem Tz {xs zs:List α} {l h:Int} (hz:sub xs l h=some zs):h.toNat-l.toNat=zs.length:=by
 unfold sub at hz;split at hz
 ·rename_i h0;cases hz;simp;omega
 ·cases hz
theorem B3 {xs zs:List α} {i:Int} {y:α} (hz:put xs i y=some zs):xs.length=zs.length:=by
 unfold put at hz;split at hz
 ·cases hz;simp
 ·cases hz
theorem Pt {b:Bool} {u:Unit} (h:B7 b=some u):b=true:=by
 unfold B7 at h;split at h
 ·assumption
 ·cases h
theorem Vk {b:Int} {u:Unit} (h:B7 (!(b==0))=some u):b≠0:=by
 have:=Pt h;simpa using this
theorem Iz {b:Int} {u:Unit} (h:B7 (decide (0<=b))=some u):0<=b:=by
 have:=Pt h;simpa using this
theorem JeN {v:AV} {ob:Prop} (h:ob):ES (A9 v ob) v [] [] none:=.of rfl h
theorem Jat {t x y:Bool}:ES (G9 (.d (.bool t)) (.gv t (.d (.bool x))) (.d (.bool y))) (.d (.bool (bif t then x else y))) [] [] none:=.of rfl ⟨trivial,λ h=>h,trivial⟩
theorem JdI {t x y:Bool}:ES (G9 (.d (.bool t)) (.d (.bool x)) (.gv (!t) (.d (.bool y)))) (.d (.bool (bif t then x else y))) [] [] none:=.of rfl ⟨trivial,trivial,λ h=>h⟩
theorem Jau {c a b:AV} {t x y:Bool} {r q q':Prop} (hc:Un c=some (t,r)) (ha:unP t a=some (x,q)) (hb:unP (!t) b=some (y,q')) (hr:r) (hq:q) (hq':q'):ES (G9 c a b) (.d (.bool (bif t then x else y))) [] [] none:=by
 refine .of (ob:=r/\q/\q') ?_ ⟨hr,hq,hq'⟩;simp only[G9,hc,ha,hb,A9]
variable {encK:κ->List D} [DecidableEq κ]
def AH (encK:κ->List D) (enc:α->List D) (m:List (κ×α)):List (List D×List D):=m.map λ p=>(encK p.1,enc p.2)
theorem XI {ks:List TK} (heq:∀ a b,Az ks ((encK a).map .d) ((encK b).map .d)=some (decide (a=b))) (k:κ) (m:List (κ×α)):Hx ks (encK k) (AH encK enc m)=(BR k m).map enc:=by
 induction m with
 | nil=>rfl
 | cons p m ih=>
  have:eqK ks (encK k) (encK p.1)=decide (k=p.1):=by simp only[eqK,heq,JlK]
  simp only[AH,JlV,Hx,this,BR];by_cases h:k=p.1
  ·simp only[h,decide_true,cond_true,if_true,Option.map_some]
  ·simp only[h,decide_false,cond_false,if_false];exact ih
theorem JeO {ks:List TK} (heq:∀ a b,Az ks ((encK a).map .d) ((encK b).map .d)=some (decide (a=b))) (k:κ) (v:α) (m:List (κ×α)):JX ks (encK k) (enc v) (AH encK enc m)=AH encK enc (Eh k v m):=by
 induction m with
 | nil=>rfl
 | cons p m ih=>
  have:eqK ks (encK k) (encK p.1)=decide (k=p.1):=by simp only[eqK,heq,JlK]
  simp only[AH,JlV,JX,this,Eh];by_cases h:k=p.1
  ·simp only[h,decide_true,cond_true,if_true,JlV]
  ·simp only[h,decide_false,cond_false,if_false,JlV];congr 1
theorem TA {ks:List TK} (heq:∀ a b,Az ks ((encK a).map .d) ((encK b).map .d)=some (decide (a=b))) (k:κ) (m:List (κ×α)):E7 ks (encK k) (AH encK enc m):=by
 refine⟨by rw[heq];rfl,λ p hp=>?_⟩;simp only[AH,JlR]at hp;obtain⟨q,_,rfl⟩:=hp;simp only[heq,Option.isSome_some]
theorem Jav {ks:List TK} {k:Nat} {m:List (κ×α)} {key:κ} {l:List AV} {z:α} {vz:List D} {e1:α->D} (heq:∀ a b,Az ks ((encK a).map .d) ((encK b).map .d)=some (decide (a=b))) (he:∀ x,enc x=[e1 x]) (hz:vz=[e1 z]) (hk:obA objs k=some (.map true false (AH encK enc m))) (hx:xDs objs l=some (encK key,[],[])) (ok:Bool) :
  ES (FT (.map ks true false vz) objs (.mp k) (.agg l) ok) (bif ok then .tup [.d (e1 ((BR key m).getD z)),.d (.bool (BR key m).isSome)]else .d (e1 ((BR key m).getD z))) [] [] none:=by
 obtain⟨ob,e2,q⟩:=HE hx leZ;have hv:kvV false ((Hx ks (encK key) (AH encK enc m)).getD vz)=.d (e1 ((BR key m).getD z)):=by
  rw[XI heq,hz];cases BR key m with
  | none=>rfl
  | some x=>simp only[Option.map_some,JlK,he];rfl
 have hs:(Hx ks (encK key) (AH encK enc m)).isSome=(BR key m).isSome:=by rw[XI heq];cases BR key m<;>rfl
 refine .of (ob:=ob/\E7 ks (encK key) (AH encK enc m)) ?_ ⟨q,TA heq key m⟩;simp only[FT,hk,kvA,cond_true,e2,List.isEmpty_nil,beq_self_eq_true,Bool.and_self,A9,hv,hs]
theorem JdJ {ks:List TK} {k:Nat} {m:List (κ×α)} {key:κ} {l:List AV} {v:AV} {y:α} {vz:List D} {e1:α->D} (heq:∀ a b,Az ks ((encK a).map .d) ((encK b).map .d)=some (decide (a=b))) (he:∀ x,enc x=[e1 x]) (hz:Nat.beq vz.length 1=true) (hk:obA objs k=some (.map true false (AH encK enc m))) (hx:xDs objs l=some (encK key,[],[])) (hv:v=.d (e1 y)) (hvx:xDs objs [v]=some (enc y,[],[])) :
  ES (G8 (.map ks true false vz) objs (.mp k) (.agg l) v) .top [] [] (some (k,.map true false (AH encK enc (Eh key y m)))):=by
 obtain⟨ob,e2,q⟩:=HE hx leZ;obtain⟨ob',e3,q'⟩:=HE hvx leZ;have hkv:kvA objs false v=some ⟨enc y,[],ob'⟩:=by subst hv;exact e3
 refine .of (ob:=ob/\ob'/\E7 ks (encK key) (AH encK enc m)/\k ∉ ([]:List Nat)/\(enc y).length=vz.length) ?_ ⟨q,q',TA heq key m,by simp,by rw[he,Jl6 hz];rfl⟩;simp only[G8,hk,kvA,cond_true,e2];simp only[kvA]at hkv;rw[hkv];simp only[JeO heq];rfl
end Go.AI
end
section
namespace Go.AI
variable {Γ:Cx} {C:Code} {p p0 p1:List Nat} {Q:Ex->St->Prop} {s s':St} {K:St->Prop} {i:Nat} {nk:Nat}
variable {α β:Type} {enc:β->List D} {encN:α->List AV} {objs:List (Option Ob)}
def nL {γ:Type} (sz:Nat) (e:γ->List D) (l:List γ):List AV:=[.own sz (l.map e)]
def Mv (Γ:Cx) (c:Code) (i:Nat) (s:St):Option (Nat×List (List D)):=
 match (Bd c)[i]? with
 | some o=>opK Γ.ty (λ x=>unG (Al s.env x)) o.op
 | none=>none
def XJ (Γ:Cx) (c:Code) (i:Nat) (obj:Bool) (esz:Nat) (es:List (List D)) (s:St):Option St:=
 match (Bd c)[i]? with
 | some o=>bif !JY c&&o.guard.isNone&&BE Γ.nt o.dst&&(o.op.operands.toList.map (Al s.env)).all M6 then(bif obj then some ⟨putA o.dst false true (.osl s.objs.length esz 0 es.length) s.env,s.objs++[some (.arr esz es)]⟩else some ⟨putA o.dst false true (.d (.sl es)) s.env,s.objs⟩)else none
 | none=>none
theorem Jjj (j:Nat) (obj:Bool) {esz:Nat} (es:List (List D)) (hx:Mv Γ (nav p C) i s=some (esz,es)) (hn:XJ Γ (nav p C) i obj esz es s=some s') (hj:i+1=j) (hk:A7 Γ C p j K s'):A7 Γ C p i K s:=by
 subst hj;unfold A7 at hk⊢;unfold Mv at hx;unfold XJ at hn;split at hn
 ·rename_i o hi;rw[hi]at hx;simp only at hx;obtain⟨hc,hn⟩:=AU hn;simp only[Jl0,Bool.not_eq_true']at hc;obtain⟨⟨⟨h0,h1⟩,h2⟩,h3⟩:=hc;rw[CE hi];show A1 _ _ _ _ _ _;have hgN:o.guard=none:=by simpa using h1
  unfold A1;rw[hgN];simp only[Bw,h2,JlM,cond_false];refine⟨λ _=>.inr (.inr ⟨h0,.inr ⟨hgN,.inl ?_⟩⟩),λ h=>by cases h⟩;rw[hx];refine⟨Lk h3,?_⟩;cases obj with
  | true=>rw[cond_true]at hn;cases hn;exact .inr hk
  | false=>rw[cond_false]at hn;cases hn;exact .inl hk
 ·cases hn
def Nb (s:St) (k:Nat):Option (Nat×List (List D)):=
 match obA s.objs k with
 | some (.arr sz es)=>some (sz,es)
 | _=>none
def Ej (s:St) (k:Nat):Option (Nat×List (List AV)):=
 match obA s.objs k with
 | some (.narr sz es)=>some (sz,es)
 | _=>none
theorem Ks {k sz:Nat} {es:List (List D)} (h:Nb s k=some (sz,es)):obA s.objs k=some (.arr sz es):=by
 unfold Nb at h;split at h
 ·rename_i hh;cases h;exact hh
 ·cases h
theorem DT {k sz:Nat} {es:List (List AV)} (h:Ej s k=some (sz,es)):obA s.objs k=some (.narr sz es):=by
 unfold Ej at h;split at h
 ·rename_i hh;cases h;exact hh
 ·cases h
def JfK:AV->AV->Bool
 | .own 0 [],.own _ []=>true
 | _,_=>false
def Qo:List AV->List AV->Bool
 | [],[]=>true
 | a::l,b::m=>JfK a b&&Qo l m
 | _,_=>false
def TB:List (List AV)->List (List AV)->Bool
 | [],[]=>true
 | a::l,b::m=>Qo a b&&TB l m
 | _,_=>false
theorem JdK {a b:AV} (h:JfK a b=true):a=.own 0 []/\∃ s,b=.own s []:=by
 unfold JfK at h;split at h
 ·exact⟨rfl,_,rfl⟩
 ·cases h
theorem Qp:∀ {l m:List AV},Qo l m=true->l.length=m.length/\∀ (j:Nat) (a a':AV),l[j]?=some a->m[j]?=some a'->a=a'\/(a=.own 0 []/\∃ s,a'=.own s []):=by
 intro l;induction l with
 | nil=>intro m h;cases m with|nil=>exact⟨rfl,λ j a a' h=>by simp at h⟩|cons=>cases h
 | cons a l ih=>
  intro m h;cases m with
  | nil=>cases h
  | cons b m=>
   simp only[Qo,Jl0]at h;obtain⟨h1,h2⟩:=ih h.2;refine⟨by simp[h1],λ j x y hx hy=>?_⟩;cases j with
   | zero=>simp at hx hy;subst hx;subst hy;exact .inr (JdK h.1)
   | succ j=>exact h2 j x y (by simpa using hx) (by simpa using hy)
theorem YS:∀ {l m:List (List AV)},TB l m=true->l.length=m.length/\∀ (i:Nat) (e e':List AV),l[i]?=some e->m[i]?=some e'->e.length=e'.length/\∀ (j:Nat) (a a':AV),e[j]?=some a->e'[j]?=some a'->a=a'\/(a=.own 0 []/\∃ s,a'=.own s []):=by
 intro l;induction l with
 | nil=>intro m h;cases m with|nil=>exact⟨rfl,λ j a a' h=>by simp at h⟩|cons=>cases h
 | cons a l ih=>
  intro m h;cases m with
  | nil=>cases h
  | cons b m=>
   simp only[TB,Jl0]at h;obtain⟨h1,h2⟩:=ih h.2;refine⟨by simp[h1],λ j x y hx hy=>?_⟩;cases j with
   | zero=>simp at hx hy;subst hx;subst hy;exact Qp h.1
   | succ j=>exact h2 j x y (by simpa using hx) (by simpa using hy)
theorem Jaw (k:Nat) (E:List (List AV)) {sz:Nat} {es:List (List D)} (h:Nb s k=some (sz,es)) (hb:TB (es.map λ e=>e.map toN) E=true):Ay nk s ⟨s.env,s.objs.set k (some (.narr sz E))⟩:=by
 have ho:=Ks h;obtain⟨h1,h2⟩:=YS hb;have a:=Ay.toN (nk:=nk) (st:=s) k sz es ho;have b:=Ay.reown (nk:=nk) (st:=⟨s.env,s.objs.set k (some (.narr sz (es.map λ e=>e.map toN)))⟩) k sz (es.map λ e=>e.map toN) E (AT ho) h1 h2;have:=Ay.trans a b;simpa using this
theorem JfL (k:Nat) {sz:Nat} {xss yss:List α} {row:List AV} {y:α} (h:Ej s k=some (sz,xss.map encN++[row])) (hy:yss=xss++[y]) (hb:Qo row (encN y)=true):Ay nk s ⟨s.env,s.objs.set k (some (.narr sz (yss.map encN)))⟩:=by
 have ho:=DT h;subst hy;refine Ay.reown k sz _ _ ho (by simp) λ i e e' hi hi'=>?_;rw[List.map_append]at hi';by_cases hlt:i<(xss.map encN).length
 ·rw[Jl7 hlt]at hi hi';rw[hi]at hi';cases hi';exact⟨rfl,λ j a a' ha ha'=>.inl (by rw[ha]at ha';exact Option.some.inj ha')⟩
 ·rw[Jmh (by omega)]at hi hi';have:i-(xss.map encN).length=0:=by have:=Af hi;simp at this;simp at *;omega
  rw[this]at hi hi';simp at hi hi';subst hi;subst hi';exact Qp hb
theorem JdL {eb:Nat} {xss yss:List α} {y:α} (h:app eb xss [y]=some yss):yss=xss++[y]:=(Iv h).2
theorem JdM {xss yss:List α} {y:α} {esz eb k:Nat} {e:List D} {ob:Prop} (hk:obA objs k=some (.narr esz (xss.map encN))) (hl:Nat.beq e.length esz=true) (ho:ob) (h:app eb xss [y]=some yss) :
  ES (Ct esz eb objs (.osl k esz 0 xss.length) [e] ob) (.osl objs.length esz 0 yss.length) [.narr esz (xss.map encN++[e.map toN])] [k] none:=by
 obtain⟨h1,h2⟩:=Iv h;subst h2;have hb:Nat.beq esz esz=true:=Nat.beq_refl esz;have h0:Nat.beq 0 0=true:=rfl;refine .of (ob:=xss.length<=(xss.map encN).length/\(∀ e'∈[e],e'.length=esz)/\(xss.length+[e].length)*eb<=70368744177664/\ob) ?_ ⟨by simp,?_,by simpa using h1,ho⟩
 ·simp only[Ct,hk,hb,h0,Bool.and_self,cond_true];have e1:List.take xss.length (xss.map encN)=List.map encN xss:=List.take_of_length_le (by simp);simp[e1]
 ·intro e' he;simp at he;subst he;exact Jl6 hl
theorem JfM {xss:List α} {x:α} {row:List AV} {n:Int} {k sz off:Nat} {t:Ty} {v:AV} (hk:obA objs k=some (.narr sz ((xss.map encN).set n.toNat row))) (h:idx xss n=some x) (hv:CA row off t=some v) (hs:(Ar v).all CG=true) (hl:Nat.ble (off+t.size) row.length=true) :
  ES (CX t objs (.eptr k sz (0+n.toNat) off)) v [] [] none:=by
 obtain⟨h0,h1,_⟩:=CM h;have hlt:n.toNat<(xss.map encN).length:=by simp;omega
 have hi:((xss.map encN).set n.toNat row)[n.toNat]?=some row:=Jma hlt;refine .of (ob:=sz=sz/\0+n.toNat<((xss.map encN).set n.toNat row).length/\off+t.size<=row.length/\(Ar v).all CG=true) ?_ ⟨rfl,?_,Jme hl,hs⟩
 ·simp only[CX,hk,Jmd,hi,JlK,hv,A9]
 ·simp only[Jmg,Jmd];exact hlt
theorem JfN {xss:List α} {x:α} {row row':List AV} {n:Int} {k sz off:Nat} {t:Ty} {v:AV} (hk:obA objs k=some (.narr sz ((xss.map encN).set n.toNat row))) (h:idx xss n=some x) (hc:(Bz v&&(Ar v).all CG)=true) (hy:splice row off (Ar v)=row') (hl:(Nat.beq (Ar v).length t.size&&Nat.ble (off+t.size) sz)=true) :
  ES (EO t objs (.eptr k sz (0+n.toNat) off) v) .top [] [] (some (k,.narr sz ((xss.map encN).set n.toNat row'))):=by
 obtain⟨h0,h1,_⟩:=CM h;have hlt:n.toNat<(xss.map encN).length:=by simp;omega
 have hi:((xss.map encN).set n.toNat row)[n.toNat]?=some row:=Jma hlt;simp only[Jl0]at hl;refine .of (ob:=sz=sz/\(Ar v).length=t.size/\0+n.toNat<((xss.map encN).set n.toNat row).length/\off+t.size<=sz) ?_ ⟨rfl,Jl6 hl.1,?_,Jme hl.2⟩
 ·simp only[EO,hk,hc,cond_true,Jmd,hi,JlK,hy,List.set_set]
 ·simp only[Jmg,Jmd];exact hlt
theorem JdN (t:Nat) {k sz:Nat} {xss:List α} {encD:α->List D} (h:(lkA s.env t,Ej s k)=(.osl k sz 0 xss.length,some (sz,xss.map encN))) (hd:∀ x,(encN x).map ofN=encD x) (hn:∀ x,(encN x).all isN=true):Ay nk s ⟨(t,.d (.sl (xss.map encD)))::s.env,s.objs.set k none⟩:=by
 simp only[Prod.mk.injEq]at h;have ho:=DT h.2;have hlen:xss.length=(xss.map encN).length:=by simp
 have ht:=h.1;rw[hlen]at ht;have:=Ay.frz (nk:=nk) (st:=s) t k sz _ ht ho (λ e he a ha=>by
  simp only[JlR]at he;obtain⟨x,_,rfl⟩:=he;exact JlJ.1 (hn x) a ha)
 have e1:(List.map (λ e=>List.map ofN e) (xss.map encN))=xss.map encD:=by
  rw[List.map_map];exact JlX λ x _=>hd x
 rw[e1]at this;exact this
theorem HF {O:List (Option Ob)} {k:Nat} {ob:Ob} (h:obA O k=some ob):O.set k (some ob)=O:=by
 unfold obA at h;split at h
 ·rename_i hk;cases h;apply List.ext_getElem?;intro i;rw[List.getElem?_set];split
  ·rename_i e;subst e;split
   ·exact hk.symm
   ·rename_i hl;have:=Af hk;omega
  ·rfl
 ·cases h
inductive Pl (f:AV->AV):List (Option Ob)->List (Option Ob)->Prop
 | z:Pl f [] []
 | o (ob:Option Ob) {l m:List (Option Ob)} (h:Pl f l m):Pl f (ob::l) (ob::m)
 | n (sz:Nat) {es es':List (List AV)} {l m:List (Option Ob)} (he:es.map (λ e=>e.map f)=es') (h:Pl f l m):Pl f (some (.narr sz (es.map λ e=>e.map f))::l) (some (.narr sz es')::m)
 | m (ka:Bool) (dv:AV) {en en':List (List D×AV)} {l m:List (Option Ob)} (he:en.map (λ p=>(p.1,f p.2))=en') (h:Pl f l m):Pl f (some (.nmp ka dv (en.map λ p=>(p.1,f p.2)))::l) (some (.nmp ka dv en')::m)
theorem Pl.eq {f:AV->AV} {l m:List (Option Ob)} (h:Pl f l m):l=m:=by
 induction h with
 | z=>rfl
 | o ob _ ih=>rw[ih]
 | n sz he _ ih=>rw[he,ih]
 | m ka dv he _ ih=>rw[he,ih]
theorem nrM {f:AV->AV} {xss:List α} (hc:∀ x,(encN x).map f=encN x):(xss.map encN).map (λ e=>e.map f)=xss.map encN:=by
 rw[List.map_map];exact JlX λ x _=>hc x
theorem nrH {f:AV->AV} {es:List (List AV)} {n:Nat} {row row':List AV} (he:es.map (λ e=>e.map f)=es) (hr:row.map f=row'):(es.set n row).map (λ e=>e.map f)=es.set n row':=by
 rw[List.map_set,he,hr]
theorem JfO (ts ord:List Nat) {raw:List (Option Ob)} (hp:Pl (IW ord) raw s'.objs) (h:gcA nk ts s=⟨s'.env,raw⟩):Ay nk s s':=by
 rw[hp.eq]at h;exact JeM ts h
theorem WI {N:Nat->Prop} {H0 F0 F:Nat->Option Obj} {ρ:Nat->Option Loc} {O:List (Option Ob)} {h:Array Obj} (hS:Sim N H0 F0 F ρ O h) {k:Nat} {ds:List D} (ho:obA O k=some (.box (ds.map .d))):Sim N H0 F0 F ρ (O.set k (some (.arr 1 (ds.map λ x=>[x])))) h:=by
 have hrep:∀ L,ρ k=some L->Bv F ρ h L (.arr 1 (ds.map λ x=>[x])):=λ L hL=>by
  obtain⟨⟨p1,p2,cs,t,fr,p3,p4,p5,p6⟩,_⟩:=hS.obj k L _ hL ho;simp only[JlU]at p2;refine⟨λ e he=>?_,by simp;omega,cs,t,fr,p3,p4,p5,λ i e hi j x hx=>?_⟩
  ·simp only[JlR]at he;obtain⟨x,_,rfl⟩:=he;rfl
  ·simp only[Jl3,Jl2]at hi;obtain⟨y,h1,rfl⟩:=hi;have hj:j=0:=by have:=Af hx;simpa using this
   subst hj;simp at hx;subst hx;have hil:=Af h1;have hv:cs[i]?=some cs[i]:=Jl4 (by omega);refine⟨cs[i],by rw[p1,Jmd,Nat.mul_one];exact hv,?_⟩;have:=p6 i (.d y) cs[i] (by rw[Jl3,h1];rfl) hv;cases this with
   | d _ _ h=>exact h
 refine hS.retable (by simp) (λ j L ob hj hob=>?_) ?_
 ·by_cases e:j=k
  ·subst e;rw[AT ho]at hob;cases hob;exact⟨_,ho,.inr (hrep L hj)⟩
  ·rw[AJ e]at hob;exact⟨ob,hob,.inl rfl⟩
 ·obtain⟨σ,hσ⟩:=hS.inn;refine⟨σ,hσ.new,λ k' c M j L ob hM hj hob=>?_,hσ.sep,λ j L ob0 sz' es' hj hob hr0 i e m isz xs hi hm o1 v hb hv=>?_⟩
  ·by_cases e:j=k
   ·subst e;exact hσ.obj k' c M j L _ hM hj ho
   ·rw[AJ e]at hob;exact hσ.obj k' c M j L ob hM hj hob
  ·by_cases e:j=k
   ·subst e;rw[AT ho]at hob;cases hob;cases hr0
   ·rw[AJ e]at hob;exact hσ.rep j L ob0 sz' es' hj hob hr0 i _ m isz xs hi hm o1 v hb hv
theorem JdO (k:Nat) (ds:List D) (h:obA s.objs k=some (.box (ds.map .d))):Ay nk s ⟨s.env,s.objs.set k (some (.arr 1 (ds.map λ x=>[x])))⟩:=
 Ay.sem λ _ _ _ _ _ _ _ _ hI=>by
  obtain⟨F,ρ,hS,hSl,hn,hd⟩:=hI;exact⟨F,ρ,WI hS h,hSl,hn,hd⟩
theorem Jjk (t k sz:Nat) (h:lkA s.env t=.ptr k 0):Ay nk s ⟨(t,.eptr k sz 0 0)::s.env,s.objs⟩:=
 Ay.sem λ _ _ _ _ _ a _ _ hI=>by
  obtain⟨F,ρ,hS,hSl,hn,hd⟩:=hI;refine⟨F,ρ,hS,λ q=>?_,hn,hd⟩;show Ak F ρ (lkA ((t,AV.eptr k sz 0 0)::s.env) q) _;rw[Bi];by_cases e:t=q
  ·subst e;rw[if_pos rfl];have:=hSl t;rw[h]at this;generalize a.tmps.getD t undef=u at this;cases this with
   | ptr _ _ L hL=>have:=Ak.eptr (F:=F) k sz 0 0 L hL;simpa using this
  ·rw[if_neg e];exact hSl q
theorem Jjl (k:Nat) {sz:Nat} {xss:List α} {x:α} {n:Int} (h:Ej s k=some (sz,xss.map encN)) (hx:idx xss n=some x):Ay nk s ⟨s.env,s.objs.set k (some (.narr sz ((xss.map encN).set n.toNat (encN x))))⟩:=by
 have ho:=DT h;have e:(xss.map encN).set n.toNat (encN x)=xss.map encN:=by
  apply List.ext_getElem?;intro i;rw[List.getElem?_set];split
  ·rename_i e;subst e;split
   ·rw[Jl3,(CM hx).2.2];rfl
   ·rename_i hl;rw[Jmk (by simpa using hl)]
  ·rfl
 rw[e,HF ho];exact Ay.sem λ _ _ _ _ _ _ _ _ h=>h
theorem ltN {xss:List α} {x:α} {n:Int} (hx:idx xss n=some x):n.toNat<(xss.map encN).length:=by
 obtain⟨h0,h1,_⟩:=CM hx;simp only[JlU];omega
theorem ltS {es:List (List AV)} {row:List AV} {m n:Nat} (h:n<es.length):n<(es.set m row).length:=by rwa[Jmg]
theorem XK (k j isz:Nat) (row':List AV) {sz:Nat} {es:List (List AV)} {n:Nat} {row:List AV} {ys:List β} (hn:n<es.length) (h:Ej s k=some (sz,es.set n row)) (hj:row[j]?=some (.own isz (ys.map enc))) (hr:row.set j (.osl s.objs.length isz 0 ys.length)=row') :
  Ay nk s ⟨s.env,s.objs.set k (some (.narr sz (es.set n row')))++[some (.arr isz (ys.map enc))]⟩:=by
 have ho:=DT h;have:=Ay.out (nk:=nk) (st:=s) k sz n j isz _ _ _ ho (Jma hn) hj;rw[List.set_set,JlU,hr]at this;exact this
theorem Jd (m:Nat) {O:List (Option Ob)} (h:O=s.objs.set m none):Ay nk s ⟨s.env,O⟩:=by
 subst h;refine Ay.sem λ _ _ _ _ _ _ _ _ hI=>?_;obtain⟨F,ρ,hS,hSl,hn,hd⟩:=hI;refine⟨F,ρ,hS.table (by simp) λ j L ob hj hob=>?_,hSl,hn,hd⟩;by_cases e:j=m
 ·subst e;rw[BT]at hob;split at hob
  ·cases hob
  ·exact hob
 ·rwa[AJ e]at hob
theorem XL (k j m isz:Nat) (row':List AV) {sz:Nat} {es:List (List AV)} {n:Nat} {row:List AV} {zs:List β} (h:(Ej s k,Nb s m)=(some (sz,es.set n row),some (isz,zs.map enc))) (hj:row[j]?=some (.osl m isz 0 zs.length)) (hr:row.set j (.own isz (zs.map enc))=row') :
  Ay nk s ⟨s.env,(s.objs.set m none).set k (some (.narr sz (es.set n row')))⟩:=by
 simp only[Prod.mk.injEq]at h;have ho:=DT h.1;have hm:=Ks h.2;by_cases hn:n<es.length
 ·have hlen:zs.length=(zs.map enc).length:=by simp
  rw[hlen]at hj;have:=Ay.inn (nk:=nk) (st:=s) k sz n j m isz _ row (zs.map enc) ho (Jma hn) hj hm;rw[List.set_set,hr]at this;exact this
 ·have e1:∀ r:List AV,es.set n r=es:=λ r=>List.set_eq_of_length_le (by omega);rw[e1]at ho⊢;have hne:m≠k:=λ e=>by subst e;rw[ho]at hm;cases hm
  have ho':obA (s.objs.set m none) k=some (.narr sz es):=by rw[AJ (Ne.symm hne)];exact ho
  rw[HF ho'];exact Jd m rfl
theorem JfP (k:Nat) {sz:Nat} {xss:List α} {n:Int} {row:List AV} (y:α) (h:Ej s k=some (sz,(xss.map encN).set n.toNat row)) (hy:row=encN y):Ay nk s ⟨s.env,s.objs.set k (some (.narr sz ((xss.set n.toNat y).map encN)))⟩:=by
 have ho:=DT h;subst hy;rw[List.map_set,HF ho];exact Ay.sem λ _ _ _ _ _ _ _ _ h=>h
theorem WJ {γ:Type} {l:List γ} {i:Nat} {x:γ} (h:l[i]?=some x):l.set i x=l:=by
 apply List.ext_getElem?;intro q;rw[List.getElem?_set];split
 ·rename_i e;subst e;split
  ·exact h.symm
  ·rename_i hl;rw[Jmk (by omega)]
 ·rfl
theorem JdP (b i k sz n m:Nat) (h:(LV s b,(CN s b)[i]?)=(true,some (.osl k sz 0 n))) (e:n=m):Ay nk s ⟨s.env,s.objs.set b (some (.box ((CN s b).set i (.osl k sz 0 m))))⟩:=by
 subst e;simp only[Prod.mk.injEq]at h;rw[WJ h.2,HF (Iy h.1)];exact Ay.sem λ _ _ _ _ _ _ _ _ h=>h
theorem JdQ (k j m isz n1 n2:Nat) (row':List AV) {sz:Nat} {es:List (List AV)} {n:Nat} {row:List AV} (h:Ej s k=some (sz,es.set n row)) (hj:row[j]?=some (.osl m isz 0 n1)) (e:n1=n2) (hr:row.set j (.osl m isz 0 n2)=row'):Ay nk s ⟨s.env,s.objs.set k (some (.narr sz (es.set n row')))⟩:=by
 have ho:=DT h;subst e;rw[WJ hj]at hr;subst hr;rw[HF ho];exact Ay.sem λ _ _ _ _ _ _ _ _ h=>h
theorem Vl (kb i k:Nat) {sz:Nat} {xss:List α} {encD:α->List D} (h0:(LV s kb,(CN s kb)[i]?)=(true,some (.osl k sz 0 xss.length))) (h:Ej s k=some (sz,xss.map encN)) (hd:∀ x,(encN x).map ofN=encD x) (hN:∀ x,(encN x).all isN=true) :
  Ay nk s ⟨s.env,(s.objs.set k none).set kb (some (.box ((CN s kb).set i (.d (.sl (xss.map encD))))))⟩:=by
 have ho:=DT h;simp only[Prod.mk.injEq]at h0;have hb:=Iy h0.1;have hi:=h0.2;generalize CN s kb=cells at hb hi;refine Ay.sem λ _ _ _ _ _ _ _ _ hI=>?_;obtain⟨F,ρ,hS,hSl,hn,hdf⟩:=hI;have hlen:xss.length=(xss.map encN).length:=by simp
 rw[hlen]at hi;obtain⟨F',h1,h2,h3⟩:=Sq hS ho (λ e he a ha=>by
  simp only[JlR]at he;obtain⟨x,_,rfl⟩:=he;exact JlJ.1 (hN x) a ha)
 have e1:(List.map (λ e=>List.map ofN e) (xss.map encN))=xss.map encD:=by
  rw[List.map_map];exact JlX λ x _=>hd x
 rw[e1]at h3;have hne:kb≠k:=λ e1=>by subst e1;rw[hb]at ho;cases ho
 have hb':obA (s.objs.set k none) kb=some (.box cells):=by rw[AJ hne];exact hb
 refine⟨F',ρ,?_,hSl.mono h1 (RLe.refl _),hn,hdf.1.mono h1,hdf.2⟩;refine h2.retable (by simp) (λ q L ob hq hob=>?_) (by obtain⟨σ,hσ⟩:=h2.inn;exact⟨σ,hσ.box hb'⟩);by_cases e1:q=kb
 ·subst e1;rw[AT hb']at hob;cases hob;refine⟨_,hb',.inr ?_⟩;obtain⟨p1,p2,cs,t,fr,p3,p4,p5,p6⟩:=(hS.obj q L _ hq hb).1;refine⟨p1,by simpa using p2,cs,t,fr,p3,p4,p5,λ i' a' v ha' hv=>?_⟩;by_cases e2:i'=i
  ·subst e2;rw[Jma (Af hi)]at ha';cases ha';exact .d _ _ (h3 v (p6 i' _ v hi hv))
  ·rw[Jmf (Ne.symm e2)]at ha';exact(p6 i' a' v ha' hv).mono h1 (RLe.refl _)
 ·rw[AJ e1]at hob;exact⟨ob,hob,.inl rfl⟩
theorem JfQ (k n:Nat) (x:α) {sz:Nat} {z:List D} (h:Nb s k=some (sz,List.replicate n z)) (hb:Qo (z.map toN) (encN x)=true):Ay nk s ⟨s.env,s.objs.set k (some (.narr sz ((List.replicate n x).map encN)))⟩:=by
 have ho:=Ks h;have a:=Ay.toN (nk:=nk) (st:=s) k sz _ ho;obtain⟨h1,h2⟩:=Qp hb;have b:=Ay.reown (nk:=nk) (st:=⟨s.env,s.objs.set k (some (.narr sz ((List.replicate n z).map λ e=>e.map toN)))⟩) k sz _ ((List.replicate n x).map encN) (AT ho) (by simp) λ i e e' hi hi'=>by
  simp only[List.map_replicate,List.getElem?_replicate]at hi hi';split at hi
  ·rename_i hl;rw[if_pos hl]at hi';cases hi;cases hi';exact⟨h1,λ j a a' ha ha'=>h2 j a a' ha ha'⟩
  ·cases hi
 have:=Ay.trans a b;simpa using this
theorem JfR (k:Nat) {x:α} {n:Int} {zs:List α} {sz:Nat} {z:List D} (hm:List.replicate n.toNat x=zs) (h:Nb s k=some (sz,List.replicate n.toNat z)) (hb:Qo (z.map toN) (encN x)=true):Ay nk s ⟨s.env,s.objs.set k (some (.narr sz (zs.map encN)))⟩:=by
 rw[← hm];exact JfQ k n.toNat x h hb
def po (s:St) (l:List (Nat×AV)) (f:List (Option Ob)->List (Option Ob)):St:=⟨l++s.env,f s.objs⟩
end Go.AI
end
