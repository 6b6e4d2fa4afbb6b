/- Part 3 of 6 of the proof: lemmas about the model and the program's functions, with no condition beyond those that each states. -/
import Derived.Test.YtbegmnhifelfoaaGreatLB
import Derived.RangeFuncNested
import Derived.Scope
import Derived.Laws.StructEq
import Derived.ChangeKeysEq
import GoSem.Core.View
import GoSem.Op.String
import Derived.KernelRfl
import Derived.RecoverIn
import Derived.TacticsInMore
section
namespace Go.AI
variable {P:Program} {F F':Nat->Option Obj} {ρ ρ':Nat->Option Loc} {N:Nat->Prop} {H0 F0:Nat->Option Obj} {O objs objs':List (Option Ob)} {w:World} {w0:W0}
theorem Rm {Γ:Cx} {all:List Oper} {o:Oper} {s s':St} (h:AP Γ true all o (λ x=>x=s') s) :
  s.objs.length<=s'.objs.length/\∀ k,k<s.objs.length->¬(isW o.op=true/\k∈BE s o)->obA s'.objs k=obA s.objs k:=by
 cases hW:isW o.op with
 | false=>
  obtain ⟨obs,ho⟩:=(E9 h).2.1 hW
  rw [ho]
  exact ⟨by simp,λ k hk _=>by rw [AJ,if_pos hk]⟩
 | true=>
  unfold AP at h
  cases hg:Bk all s.env o.guard with
  | none=>rw [hg] at h;exact h.elim
  | some g=>
   rw [hg] at h
   simp only at h
   have h:=h
   cases hdst:Bv Γ.nt o.dst with
   | false=>rw [hdst] at h;exact h.elim
   | true=>
    rw [hdst] at h
    simp only [JmC,cond_false] at h
    cases hgv:g with
    | false=>
     obtain ⟨v,obs,hm,hQ⟩:=h.2 hgv
     subst hQ
     exact ⟨by simp,λ k hk _=>by rw [AJ,if_pos hk]⟩
    | true=>
     rcases h.1 hgv with h|h|h
     case inr.inr=>exact absurd h.1 (by simp)
     case inr.inl=>
      unfold Eg at h
      split at h
      ·rename_i es hes
       cases hop:o.op with
       | buildSlice=>rw [hop] at hW;cases hW
       | _=>rw [hop] at hes;cases hes
      ·exact h.elim
     unfold stepG at h
     split at h
     ·rename_i f args ts hop;rw [hop] at hW;cases hW
     ·rename_i c x y hop;rw [hop] at hW;cases hW
     ·split at h
      ·rename_i e he
       obtain ⟨h1,h2,h3⟩:=h
       cases hc:((e.upd.isSome&&o.guard.isSome)||(!e.rm.isEmpty&&(o.guard.isSome||(true&&!isW o.op)))) with
       | true=>rw [hc] at h3;exact h3.elim
       | false=>
        rw [hc,cond_false] at h3
        have hf:Xo s.objs (λ x=>unG (Aj s.env x)) o.op e:=by
         rcases Yk hW with hst|⟨args,ts,hop⟩
         ·exact (Yj hst he).1
         ·rw [hop] at he ⊢
          exact PK he
        have hll:(BH (rmA s.objs e.rm) e.upd).length=s.objs.length:=by rw [Kl,Bs]
        subst h3
        refine ⟨by simp only [Dh,List.length_append,hll];omega,λ k hk hn=>?_⟩
        simp only [Dh]
        rw [AJ,if_pos (by rw [hll];exact hk),Np]
        have hnr:k ∉ e.rm:=λ hr=>hn ⟨rfl,by rw [Qy hW];exact (hf.rm k hr).1⟩
        cases hu:e.upd with
        | none=>simp only;rw [CZ,if_neg hnr]
        | some p=>
         obtain ⟨j,ob1⟩:=p
         simp only
         rw [if_neg (λ h=>?_),CZ,if_neg hnr]
         exact hn ⟨rfl,by rw [h.1,Qy hW];exact (hf.upd j ob1 hu).1⟩
      ·exact h.elim
structure T5 (ops:Array Oper) (S:Nat->St):Prop where
 back:∀ (j:Nat) oj,ops[j]? = some oj->∀ e∈oj.after.toList,Region.binds .any e=true->e.on<j
 dst:∀ (i j:Nat) oi oj d,ops[i]? = some oi->ops[j]? = some oj->i≠j->oi.dst=some d->oj.dst≠some d
 deps:∀ (i j:Nat) oi oj d,ops[i]? = some oi->ops[j]? = some oj->i<j->oi.dst=some d->d∈Cc ops.toList oj->Region.waitsFor .any ops j i=true
 anti:∀ (i j:Nat) oi oj d,ops[i]? = some oi->ops[j]? = some oj->j<i->oi.dst=some d->d∈Cc ops.toList oj->Region.waitsFor .any ops i j=true
 conf:∀ (i j:Nat) oi oj,ops[i]? = some oi->ops[j]? = some oj->i≠j->isW oj.op=true->(CT oi.op=true\/isW oi.op=true)->FH ops j i\/FH ops i j\/∀ k,k∈BE (S i) oi->k ∉ BE (S j) oj
section law
variable {Γ:Cx} {ops:Array Oper} {S:Nat->St}
theorem Nq (ok:T5 ops S) {j i:Nat} (h:FH ops j i):i<j:=by
 induction h with
 | one h1=>
  obtain ⟨o,ho,e,he,hb,hon⟩:=Region.waitsFor_spec h1
  rw [← hon];exact ok.back _ o ho e (by simpa using he) hb
 | step h1 _ ih=>
  obtain ⟨o,ho,e,he,hb,hon⟩:=Region.waitsFor_spec h1
  have:=ok.back _ o ho e (by simpa using he) hb
  omega
def Wr (ops:Array Oper) (S:Nat->St) (i k:Nat):Prop:=∃ o,ops[i]? = some o/\isW o.op=true/\k∈BE (S i) o/\k<(S i).objs.length
theorem VT (hst:∀ (i:Nat) o,ops[i]? = some o->AP Γ true ops.toList o (λ x=>x=S (i+1)) (S i)):∀ d i,i+d<=ops.size->(S i).objs.length<=(S (i+d)).objs.length:=by
 intro d
 induction d with
 | zero=>intro i _;exact JmD _
 | succ d ih=>
  intro i hi
  have h1:=ih i (by omega)
  have ho:=JmR (show i+d<ops.size by omega)
  have:=(Rm (hst (i+d) _ ho)).1
  rw [← JmI];omega
theorem Rn (hst:∀ (i:Nat) o,ops[i]? = some o->AP Γ true ops.toList o (λ x=>x=S (i+1)) (S i)) {i j:Nat} (hij:i<=j) (hj:j<=ops.size):(S i).objs.length<=(S j).objs.length:=by
 have:=VT hst (j-i) i (by omega)
 rwa [show i+(j-i)=j by omega] at this
theorem JaH (hst:∀ (i:Nat) o,ops[i]? = some o->AP Γ true ops.toList o (λ x=>x=S (i+1)) (S i)) (k:Nat):∀ d i,i+d<=ops.size->k<(S i).objs.length->(∀ m,i<=m->m<i+d->¬Wr ops S m k)->obA (S (i+d)).objs k=obA (S i).objs k:=by
 intro d
 induction d with
 | zero=>intro i _ _ _;rfl
 | succ d ih=>
  intro i hi hk hno
  have ho:=JmR (show i+d<ops.size by omega)
  have hkd:k<(S (i+d)).objs.length:=Nat.lt_of_lt_of_le hk (VT hst d i (by omega))
  rw [← JmI,(Rm (hst (i+d) _ ho)).2 k hkd λ h=>hno (i+d) (by omega) (by omega) ⟨_,ho,h.1,h.2,hkd⟩]
  exact ih i (by omega) hk λ m h1 h2=>hno m h1 (by omega)
theorem T6 (hst:∀ (i:Nat) o,ops[i]? = some o->AP Γ true ops.toList o (λ x=>x=S (i+1)) (S i)) {k i j:Nat} (hij:i<=j) (hj:j<=ops.size) (hk:k<(S i).objs.length) (hno:∀ m,i<=m->m<j->¬Wr ops S m k):obA (S j).objs k=obA (S i).objs k:=by
 have:=JaH hst k (j-i) i (by omega) hk (λ m h1 h2=>hno m h1 (by omega))
 rwa [show i+(j-i)=j by omega] at this
def Hw (S:Nat->St) (k:Nat):Nat->Nat
 | 0=>0
 | n+1=>bif decide (k<(S n).objs.length) then Hw S k n else n+1
theorem Xp (k:Nat):∀ n,(∀ i j,i<=j->j<=n->(S i).objs.length<=(S j).objs.length)->k<(S n).objs.length->Hw S k n<=n/\k<(S (Hw S k n)).objs.length/\∀ m,m<Hw S k n->(S m).objs.length<=k:=by
 intro n
 induction n with
 | zero=>intro _ hk;exact ⟨JmD _,hk,λ m hm=>by simp [Hw] at hm⟩
 | succ n ih=>
  intro hm hk
  simp only [Hw]
  by_cases h:k<(S n).objs.length
  ·rw [decide_eq_true h,cond_true]
   obtain ⟨h1,h2,h3⟩:=ih (λ i j hij hj=>hm i j hij (by omega)) h
   exact ⟨by omega,h2,h3⟩
  ·rw [decide_eq_false h,cond_false]
   refine ⟨JmD _,hk,λ m hmn=>?_⟩
   have:=hm m n (by omega) (by omega)
   omega
structure DJ (N:Nat->Prop) (H0 F0:Nat->Option Obj) (w0:W0) (nt:Slt) (ops:Array Oper) (S:Nat->St) (listed:Array Bool) (a:Act) (w:World):Prop where
 size:listed.size=ops.size
 closed:∀ (j:Nat) oj,ops[j]? = some oj->listed.getD j false=true->∀ e∈oj.after.toList,Region.binds .any e=true->listed.getD e.on false=true
 tsz:TS nt w0.kp a.tmps
 defers:Mu w0.w w
 ex:∃ (F:Nat->Option Obj) (ρ:Nat->Option Loc) (T:List (Option Ob)) (ver:Nat->Nat),(RK w0 nt ρ/\Dfr w0 nt F a.defers)/\Sim N H0 F0 F ρ T w.heap/\T.length=(S ops.size).objs.length /\
  (∀ t,(∀ (i:Nat) o,ops[i]? = some o->o.dst=some t->listed.getD i false=true->Ah F ρ (lkA (S (i+1)).env t) (a.tmps.getD t undef))/\((∀ (i:Nat) o,ops[i]? = some o->o.dst=some t->listed.getD i false=false)->Ah F ρ (lkA (S 0).env t) (a.tmps.getD t undef))) /\
  (∀ k L,ρ k=some L->k<(S 0).objs.length\/∃ i,listed.getD i false=true/\i<ops.size/\(S i).objs.length<=k/\k<(S (i+1)).objs.length) /\
  (∀ k ob,k<T.length->obA (S (ver k)).objs k=some ob->obA T k=some ob) /\
  (∀ i k,listed.getD i false=true->Wr ops S i k->i<ver k) /\
  (∀ i k,listed.getD i false=false->Wr ops S i k->ver k<=i) /\
  (∀ k,k<T.length->k<(S (ver k)).objs.length/\ver k<=ops.size) /\
  (∀ i k ob,i<ops.size->ρ k=none->(S i).objs.length<=k->obA (S (i+1)).objs k=some ob->obA T k=some ob)
theorem Ji (hst:∀ (i:Nat) o,ops[i]? = some o->AP Γ true ops.toList o (λ x=>x=S (i+1)) (S i)):∀ j,j<=ops.size->∀ t,(∃ i o,i<j/\ops[i]? = some o/\o.dst=some t/\lkA (S j).env t=lkA (S (i+1)).env t)\/((∀ i o,i<j->ops[i]? = some o->o.dst≠some t)/\lkA (S j).env t=lkA (S 0).env t):=by
 intro j
 induction j with
 | zero=>intro _ t;exact .inr ⟨λ i o hi=>by omega,rfl⟩
 | succ j ih=>
  intro hj t
  have hoj:=JmR (show j<ops.size by omega)
  obtain ⟨hsh,_⟩:=E9 (hst j _ hoj)
  by_cases hd:(ops[j]).dst=some t
  ·exact .inl ⟨j,_,by omega,hoj,hd,rfl⟩
  ·have hlk:lkA (S (j+1)).env t=lkA (S j).env t:=by
    rcases hsh with ⟨_,h⟩|⟨d,x,hdd,h⟩
    ·rw [h]
    ·rw [h,Bg,if_neg]
     intro e;subst e;exact hd hdd
   rcases ih (by omega) t with ⟨i,o,h1,h2,h3,h4⟩|⟨h1,h2⟩
   ·exact .inl ⟨i,o,by omega,h2,h3,by rw [hlk,h4]⟩
   ·refine .inr ⟨λ i o hi ho=>?_,by rw [hlk,h2]⟩
    by_cases e:i=j
    ·subst e;rw [hoj] at ho;cases ho;exact hd
    ·exact h1 i o (by omega) ho
theorem T7 {ev ev':Operand->AV} {op:Op} (h:∀ x∈op.operands.toList,ev x=ev' x):Dt ev op=Dt ev' op:=by
 unfold Dt
 simp only [List.flatMap]
 congr 1
 exact List.map_congr_left λ x hx=>by rw [h x hx]
theorem T8 {ev ev':Operand->AV} {op:Op} (h:∀ x∈op.operands.toList,ev x=ev' x):I5 ev op=I5 ev' op:=by
 cases op with
 | call c=>
  obtain ⟨callee,args,ts⟩:=c
  cases callee with
  | value f=>
   simp only [I5]
   have:∀ x∈args.toList,ev x=ev' x:=λ x hx=>h x (by simp [Op.operands,Call.operands];exact .inr (by simpa using hx))
   rw [Bool.eq_iff_iff,List.any_eq_true,List.any_eq_true]
   constructor
   ·rintro ⟨x,hx,hp⟩;exact ⟨x,hx,by rw [← this x hx];exact hp⟩
   ·rintro ⟨x,hx,hp⟩;exact ⟨x,hx,by rw [this x hx];exact hp⟩
  | _=>rfl
 | _=>rfl
theorem Xq {s:St} {o:Oper} {ts:List Tmp} (h:∀ t∈TL o.op,t∈ts):BE ⟨Dc s.env ts,s.objs⟩ o=BE s o:=by
 have he:∀ x∈o.op.operands.toList,unG (Aj (Dc s.env ts) x)=unG (Aj s.env x):=λ x hx=>by rw [Q8 λ t ht=>h t (by subst ht;exact Jg hx)]
 unfold BE
 rw [T7 he,T8 he]
theorem Zq (hΓ:FG P Γ) (ok:T5 ops S) (hst:∀ (i:Nat) o,ops[i]? = some o->AP Γ true ops.toList o (λ x=>x=S (i+1)) (S i))
  {Qw:Exit->Act->World->Prop} (hQ:∀ a w,Inv N H0 F0 w0 Γ.nt (S ops.size) a w->Qw .normal a w) :
  ∀ (fuel:Nat) (listed:Array Bool) (a:Act) (w:World),DJ N H0 F0 w0 Γ.nt ops S listed a w->unl listed ops.size=fuel->wpAny P .any ops Qw fuel listed a w:=by
 have hall:∀ listed a w,DJ N H0 F0 w0 Γ.nt ops S listed a w->Region.ready .any ops listed=[]->∀ k,k<ops.size->listed.getD k false=true:=by
  intro listed a w hD hr k
  induction k using Nat.strongRecOn with
  | _ k ih=>
   intro hk
   cases hl:listed.getD k false with
   | true=>rfl
   | false=>
    have:k∈Region.ready .any ops listed:=by
     rw [mem_ready]
     refine ⟨getD_in (by rw [hD.size];exact hk) hl,_,JmR hk,λ e he hb=>?_⟩
     have hlt:=ok.back k _ (JmR hk) e (by simpa using he) hb
     exact ih e.on hlt (by omega)
    rw [hr] at this
    cases this
 have hfin:∀ listed a w,DJ N H0 F0 w0 Γ.nt ops S listed a w->(∀ k,k<ops.size->listed.getD k false=true)->Qw .normal a w:=by
  intro listed a w hD hl
  obtain ⟨F,ρ,T,ver,hrk,hS,hTl,hsl,hdom,hv0,hv1,hv2,hv3,hv4⟩:=hD.ex
  refine hQ a w ⟨F,ρ,?_,λ t=>?_,hD.tsz,hrk.2,hD.defers,hrk.1⟩
  ·refine hS.table (Nat.le_of_eq hTl) λ k L ob hk ho=>?_
   have hkl:=AT ho
   obtain ⟨q1,q2⟩:=hv3 k (by omega)
   rw [T6 hst q2 (JmD _) q1 λ m h1 h2 hw=>?_] at ho
   ·exact hv0 k ob (by omega) ho
   ·have:=hv1 m k (hl m h2) hw;omega
  ·rcases Ji hst ops.size (JmD _) t with ⟨i,o,h1,h2,h3,h4⟩|⟨h1,h2⟩
   ·rw [h4];exact (hsl t).1 i o h2 h3 (hl i h1)
   ·rw [h2]
    refine (hsl t).2 λ i o ho hd=>?_
    exact absurd hd (h1 i o (Ap ho) ho)
 intro fuel
 induction fuel with
 | zero=>
  intro listed a w hD hu
  have hl:=Nn ops.size hu
  refine ⟨?_,hfin listed a w hD hl⟩
  rw [List.eq_nil_iff_forall_not_mem]
  intro k hk
  obtain ⟨h1,o,ho,_⟩:=mem_ready.1 hk
  have:=hl k (Ap ho)
  rw [getD_both h1] at this
  cases this
 | succ fuel ih=>
  intro listed a w hD hu
  refine ⟨λ hr=>hfin listed a w hD (hall listed a w hD hr),λ i hi=>?_⟩
  obtain ⟨hun,o,ho,hedges⟩:=mem_ready.1 hi
  have hui:=getD_both hun
  have hio:=Ap ho
  have hidx:i<listed.size:=by rw [hD.size];exact hio
  obtain ⟨F,ρ,T,ver,hrk,hS,hTl,hsl,hdom,hv0,hv1,hv2,hv3,hv4⟩:=hD.ex
  have hdirect:∀ k,Region.waitsFor .any ops i k=true->listed.getD k false=true:=λ k hk=>by
   obtain ⟨o',ho',e,he,hb,hon⟩:=Region.waitsFor_spec hk
   rw [ho] at ho';cases ho'
   rw [← hon];exact hedges e he hb
  have hbehind:∀ m,FH ops m i->listed.getD m false=false:=λ m hm=>by
   cases hl:listed.getD m false with
   | false=>rfl
   | true=>
    have:=Bq hD.closed hm λ k hk=>by
     obtain ⟨o',ho',e,he,hb,hon⟩:=Region.waitsFor_spec hk
     rw [← hon]
     exact hD.closed m o' ho' hl e (by simpa using he) hb
    rw [hui] at this;cases this
  have hrs:RS F ρ (S i).env a.tmps (Cc ops.toList o):=by
   intro t ht
   rcases Ji hst i (by omega) t with ⟨k,ok',h1,h2,h3,h4⟩|⟨h1,h2⟩
   ·rw [h4]
    exact (hsl t).1 k ok' h2 h3 (hdirect k (ok.deps k i ok' o t h2 ho h1 h3 ht))
   ·rw [h2]
    refine (hsl t).2 λ k ok' hk hd=>?_
    rcases Nat.lt_trichotomy k i with hlt|heq|hgt
    ·exact absurd hd (h1 k ok' hlt hk)
    ·rw [heq];exact hui
    ·exact hbehind k (.one (ok.anti k i ok' o t hk ho hgt hd ht))
  have hstep:=hst i o ho
  have hdst:=VL hstep
  obtain ⟨s',⟨s'',rfl,hobj',henv'⟩,hstep'⟩:=Rb (Q9 rfl (ts:=Cc ops.toList o) (λ t h=>h) hstep)
  have hlk':∀ d,o.dst=some d->lkA s'.env d=lkA (S (i+1)).env d:=λ d hd=>by
   rcases henv' with ⟨h,_⟩|⟨d',x,h1,h2,h3⟩
   ·rw [h] at hd;cases hd
   ·rw [h1] at hd;cases hd
    rw [h2,h3,Bg,Bg,if_pos rfl,if_pos rfl]
  have hSl:BP F ρ (Dc (S i).env (Cc ops.toList o)) a.tmps:=BP.ofRS hrs
  have hrefs:BE ⟨Dc (S i).env (Cc ops.toList o),(S i).objs⟩ o=BE (S i) o:=Xq λ t ht=>List.mem_append_left _ ht
  have hleni:(S i).objs.length<=(S (i+1)).objs.length:=(Rm hstep).1
  have hlenN:(S (i+1)).objs.length<=T.length:=by rw [hTl];exact Rn hst (by omega) (JmD _)
  have key:(CT o.op=true\/isW o.op=true)->Ext (S i).objs T (BE (S i) o):=by
   intro hmw k hk ob hob
   have hkl:=AT hob
   obtain ⟨q1,q2⟩:=hv3 k (by omega)
   refine hv0 k ob (by omega) ?_
   rcases Nat.le_total (ver k) i with hle|hle
   ·rw [← T6 hst hle (by omega) q1 λ m h1 h2 hw=>?_]
    ·exact hob
    ·obtain ⟨om,hom,hW,hmk,_⟩:=hw
     rcases ok.conf i m o om ho hom (by omega) hW hmw with h|h|h
     ·have:=Nq ok h;omega
     ·have:=hv1 m k (Bq hD.closed h hdirect) ⟨om,hom,hW,hmk,by assumption⟩
      omega
     ·exact h k hk hmk
   ·rw [T6 hst hle q2 hkl λ m h1 h2 hw=>?_]
    ·exact hob
    ·obtain ⟨om,hom,hW,hmk,hmL⟩:=hw
     by_cases hmi:m=i
     ·subst hmi
      have:=hv2 m k hui ⟨om,hom,hW,hmk,hmL⟩
      omega
     ·rcases ok.conf i m o om ho hom (λ e=>hmi e.symm) hW hmw with h|h|h
      ·have:=hv2 m k (hbehind m h) ⟨om,hom,hW,hmk,hmL⟩
       omega
      ·have:=Nq ok h;omega
      ·exact h k hk hmk
  have hfresh:∀ k,(S i).objs.length<=k->k<(S (i+1)).objs.length->ρ k=none:=λ k h1 h2=>by
   cases hρ:ρ k with
   | none=>rfl
   | some L=>
    rcases hdom k L hρ with h|⟨i',g1,g2,g3,g4⟩
    ·have:=Rn hst (Nat.zero_le i) (by omega);omega
    ·rcases Nat.lt_trichotomy i' i with hlt|heq'|hgt
     ·have:=Rn hst (show i'+1<=i by omega) (by omega);omega
     ·rw [heq',hui] at g1;cases g1
     ·have:=Rn hst (show i+1<=i' by omega) (by omega);omega
  have hne:∀ k,k≠i->(listed.setIfInBounds i true).getD k false=listed.getD k false:=λ k hk=>by
   rw [JmS,JmS,JmF (Ne.symm hk)]
  have heq:(listed.setIfInBounds i true).getD i false=true:=by simp [hidx]
  have next:∀ (v:Value) (w':World) (F':Nat->Option Obj) (ρ':Nat->Option Loc) (T':List (Option Ob)) (ver':Nat->Nat),FLe F F'->RLe ρ ρ'->(∀ k,¬((S i).objs.length<=k/\k<(S (i+1)).objs.length)->ρ' k=ρ k)->Sim N H0 F0 F' ρ' T' w'.heap->T'.length=T.length->(∀ d,o.dst=some d->Ah F' ρ' (lkA s'.env d) v)->Mu w w' ->
    (∀ k ob,k<T.length->obA (S (ver' k)).objs k=some ob->obA T' k=some ob)->(∀ m k,(listed.setIfInBounds i true).getD m false=true->Wr ops S m k->m<ver' k)->(∀ m k,(listed.setIfInBounds i true).getD m false=false->Wr ops S m k->ver' k<=m)->(∀ k,k<T.length->k<(S (ver' k)).objs.length/\ver' k<=ops.size)->(∀ k,ρ k=none->obA T' k=obA T k) ->
    wpAny P .any ops Qw fuel (listed.setIfInBounds i true) (a.put o.dst v) w':=by
   intro v w' F' ρ' T' ver' hF hρ hkeep hS' hTl' hv hmu u0 u1 u2 u3 u4
   refine ih _ _ _ { size:=by simpa using hD.size,closed:=λ j oj hj hl e he hb=>?_,tsz:=hD.tsz.put hdst,defers:=hD.defers.trans hmu,ex:=⟨F',ρ',T',ver',⟨hrk.1.mono hρ,by rw [Bu];exact hrk.2.mono hF⟩,hS',by rw [hTl',hTl],λ t=>?_,λ k L hk=>?_,by rw [hTl'];exact u0,u1,u2,by rw [hTl'];exact u3,λ m k ob hm hk h1 h2=>?_⟩ } (by have:=Qx hidx hui ops.size hio;omega)
   ·by_cases hji:j=i
    ·subst hji
     rw [ho] at hj;cases hj
     have:=hedges e (by simpa using he) hb
     by_cases hee:e.on=j
     ·rw [hee];exact heq
     ·rw [hne _ hee];exact this
    ·rw [hne j hji] at hl
     have:=hD.closed j oj hj hl e he hb
     by_cases hee:e.on=i
     ·rw [hee];exact heq
     ·rw [hne _ hee];exact this
   ·by_cases hdt:o.dst=some t
    ·have hval:(a.put o.dst v).tmps.getD t undef=v:=by
      rw [hdt]
      have:t<a.tmps.size:=by rw [hdt] at hdst;exact hD.tsz.lt hdst
      simp [Act.put,this]
     rw [hval]
     refine ⟨λ k ok' hk hd _=>?_,λ hno=>?_⟩
     ·by_cases hki:k=i
      ·subst hki
       rw [← hlk' t hdt];exact hv t hdt
      ·exact absurd hd (ok.dst i k o ok' t ho hk (Ne.symm hki) hdt)
     ·have:=hno i o ho hdt
      rw [heq] at this;cases this
    ·have hval:(a.put o.dst v).tmps.getD t undef=a.tmps.getD t undef:=by
      cases hdd:o.dst with
      | none=>rfl
      | some d=>
       have hdne:d≠t:=λ e=>hdt (by rw [hdd,e])
       rw [JmS,JmS]
       simp only [Act.put]
       rw [JmF hdne]
     rw [hval]
     refine ⟨λ k ok' hk hd hl=>?_,λ hno=>?_⟩
     ·have hki:k≠i:=λ e=>by subst e;rw [ho] at hk;cases hk;exact hdt hd
      rw [hne k hki] at hl
      exact ((hsl t).1 k ok' hk hd hl).mono hF hρ
     ·refine ((hsl t).2 λ k ok' hk hd=>?_).mono hF hρ
      have hki:k≠i:=λ e=>by subst e;rw [ho] at hk;cases hk;exact hdt hd
      have:=hno k ok' hk hd
      rwa [hne k hki] at this
   ·by_cases hr:(S i).objs.length<=k/\k<(S (i+1)).objs.length
    ·exact .inr ⟨i,heq,hio,hr.1,hr.2⟩
    ·rw [hkeep k hr] at hk
     rcases hdom k L hk with h|⟨i',g1,g2⟩
     ·exact .inl h
     ·refine .inr ⟨i',?_,g2⟩
      by_cases hii:i'=i
      ·rw [hii];exact heq
      ·rw [hne i' hii];exact g1
   ·have hk0:ρ k=none:=by
     cases hr:ρ k with
     | none=>rfl
     | some L=>rw [hρ k L hr] at hk;cases hk
    rw [u4 k hk0]
    exact hv4 m k ob hm hk0 h1 h2
  unfold wpOp
  rw [ho]
  simp only
  have wrap:∀ {A B C:Prop} {c:Bool},(if c=true then A else B)->(if c=true then A\/C else B):=λ {A B C c} h=>by
   cases c with
   | true=>rw [if_pos rfl] at h ⊢;exact .inl h
   | false=>rw [if_neg (by simp)] at h ⊢;exact h
  refine wrap ?_
  cases hW:isW o.op with
  | true=>
   have hkey:=key (.inr hW)
   refine Jde hΓ hW hstep' hS hSl (by rw [hrefs];exact hkey) (λ k h1 h2=>hfresh k h1 (by rw [← hobj'] at h2;exact h2)) (by rw [← hobj'];exact hlenN) (λ k ob h1 h2=>by
    rw [← hobj'] at h2
    exact hv4 i k ob hio (hfresh k h1 (AT h2)) h1 h2) λ v w' F' ρ' T2 hF hρ hkeep hS' hT2l t2 t3 t4 hv hmu=>?_
   rw [hrefs,← hobj'] at t2
   rw [hrefs] at t3
   rw [← hobj'] at t4 hkeep
   have hwr:∀ k,Wr ops S i k↔k∈BE (S i) o/\k<(S i).objs.length:=λ k=>⟨λ ⟨o',h1,_,h3,h4⟩=>by rw [ho] at h1;cases h1;exact ⟨h3,h4⟩,λ h=>⟨o,ho,hW,h.1,h.2⟩⟩
   have dec:∀ k,Decidable (Wr ops S i k):=λ k=>decidable_of_iff _ (hwr k).symm
   let T':=mkT T.length λ k=>bif (ρ k).isSome then obA T2 k else obA T k
   have hT'n:∀ k,ρ k=none->obA T' k=obA T k:=λ k hk=>by
    simp only [T',Lk,hk,Option.isSome_none,cond_false]
    split
    ·rfl
    ·rename_i hl
     cases hx:obA T k with
     | none=>rfl
     | some ob=>exact absurd (AT hx) hl
   have hT's:∀ k L,ρ k=some L->obA T' k=obA T2 k:=λ k L hk=>by
    simp only [T',Lk,hk,Option.isSome_some,cond_true]
    split
    ·rfl
    ·rename_i hl
     cases hx:obA T2 k with
     | none=>rfl
     | some ob=>exact absurd (AT hx) (by omega)
   refine next v w' F' ρ' T' (λ k=>if Wr ops S i k then i+1 else ver k) hF hρ hkeep (hS'.table (by simp only [T',DY];omega) λ k L ob hk hob=>?_) (by simp only [T',DY]) hv hmu (λ k ob hk hob=>?_) (λ m k hm hw=>?_) (λ m k hm hw=>?_) (λ k hk=>?_) hT'n
   ·cases hr:ρ k with
    | some L'=>rw [hT's k L' hr] at hob;exact hob
    | none=>
     rw [hT'n k hr] at hob
     rw [t3 k λ hh=>?_]
     ·exact hob
     ·by_cases hc:(S i).objs.length<=k/\k<(S (i+1)).objs.length
      ·have:=hh.2;simp only at this;omega
      ·rw [hkeep k hc,hr] at hk;cases hk
   ·by_cases hw:Wr ops S i k
    ·simp only [if_pos hw] at hob
     obtain ⟨c1,c2⟩:=(hwr k).1 hw
     cases hr:ρ k with
     | some L'=>rw [hT's k L' hr];exact t2 k ob c2 c1 hob
     | none=>rw [hT'n k hr];exact hkey k c1 ob (t4 k ob hr c2 hob)
    ·simp only [if_neg hw] at hob
     have:=hv0 k ob hk hob
     cases hr:ρ k with
     | some L'=>rw [hT's k L' hr,t3 k λ hh=>hw ((hwr k).2 hh)];exact this
     | none=>rw [hT'n k hr];exact this
   ·by_cases hmi:m=i
    ·subst hmi
     simp only [if_pos hw];omega
    ·rw [hne m hmi] at hm
     by_cases hwi:Wr ops S i k
     ·simp only [if_pos hwi]
      obtain ⟨om,hom,hWm,hmk,_⟩:=hw
      obtain ⟨c1,c2⟩:=(hwr k).1 hwi
      rcases ok.conf i m o om ho hom (λ e=>hmi e.symm) hWm (.inr hW) with h|h|h
      ·rw [hbehind m h] at hm;cases hm
      ·have:=Nq ok h;omega
      ·exact absurd hmk (h k c1)
     ·simp only [if_neg hwi];exact hv1 m k hm hw
   ·have hmi:m≠i:=λ e=>by rw [e,heq] at hm;cases hm
    rw [hne m hmi] at hm
    by_cases hwi:Wr ops S i k
    ·simp only [if_pos hwi]
     obtain ⟨om,hom,hWm,hmk,_⟩:=hw
     obtain ⟨c1,c2⟩:=(hwr k).1 hwi
     rcases ok.conf i m o om ho hom (λ e=>hmi e.symm) hWm (.inr hW) with h|h|h
     ·have:=Nq ok h;omega
     ·have:=Bq hD.closed h hdirect
      rw [hm] at this;cases this
     ·exact absurd hmk (h k c1)
    ·simp only [if_neg hwi];exact hv2 m k hm hw
   ·by_cases hwi:Wr ops S i k
    ·simp only [if_pos hwi]
     have:=(hwr k).1 hwi
     exact ⟨by omega,by omega⟩
    ·simp only [if_neg hwi];exact hv3 k hk
  | false=>
   obtain ⟨new,hn1,hcut⟩:=Zp hW hstep'
   rw [hrefs] at hcut
   have hcl:(Jh (BE (S i) o) (S i).objs).length=(S i).objs.length:=FI _ _
   have hlen2:(Jh (BE (S i) o) (S i).objs++new).length=(S (i+1)).objs.length:=by rw [hobj',hn1,List.length_append,List.length_append,hcl]
   refine VH hΓ hW hcut hS hSl (λ hm=>?_) λ v w' F' ρ' hF hρ hkeep hS' hv hmu=>?_
   ·simp only [hcl,hlen2]
    refine ⟨λ k ob hk=>?_,hfresh,hlenN⟩
    rw [AJ,hcl] at hk
    by_cases hkl:k<(S i).objs.length
    ·rw [if_pos hkl,T3] at hk
     split at hk
     ·rename_i hmem;exact key (.inl hm) k hmem ob hk
     ·cases hk
    ·rw [if_neg hkl] at hk
     have hob:obA (S (i+1)).objs k=some ob:=by rw [hobj',hn1,AJ,if_neg hkl];exact hk
     exact hv4 i k ob hio (hfresh k (by omega) (AT hob)) (by omega) hob
   ·simp only [hcl,hlen2] at hkeep
    have hno:∀ k,¬Wr ops S i k:=λ k ⟨o',h1,h2,_⟩=>by rw [ho] at h1;cases h1;rw [hW] at h2;cases h2
    refine next v w' F' ρ' T ver hF hρ hkeep hS' rfl hv hmu hv0 (λ m k hm hw=>?_) (λ m k hm hw=>?_) hv3 (λ _ _=>rfl)
    ·have hmi:m≠i:=λ e=>hno k (by rw [← e];exact hw)
     rw [hne m hmi] at hm;exact hv1 m k hm hw
    ·have hmi:m≠i:=λ e=>hno k (by rw [← e];exact hw)
     rw [hne m hmi] at hm;exact hv2 m k hm hw
end law
theorem JaI {Γ:Cx} {ops:Array Oper} {S:Nat->St} (hst:∀ (i:Nat) o,ops[i]? = some o->AP Γ true ops.toList o (λ x=>x=S (i+1)) (S i)) (hd:∀ (i j:Nat) oi oj d,ops[i]? = some oi->ops[j]? = some oj->i≠j->oi.dst=some d->oj.dst≠some d) {i:Nat} (hi:i<=ops.size) (x:Operand) :
  QL ops.toList (S 0).env (S ops.size).env i x=Aj (S i).env x:=by
 cases x with
 | tmp t=>
  simp only [QL,Aj]
  cases hany:(ops.toList.take i).any (λ o=>match o.dst with|some d=>Nat.beq d t|none=>false) with
  | true=>
   rw [cond_true]
   rw [List.any_eq_true] at hany
   obtain ⟨o,ho,hot⟩:=hany
   obtain ⟨j,hj⟩:=List.getElem?_of_mem ho
   have hji:j<i:=by have:=Ad hj;simp at this;omega
   rw [Jm5 hji] at hj
   have hoj:ops[j]? = some o:=by simpa using hj
   have hdt:o.dst=some t:=by
    cases hdo:o.dst with
    | none=>rw [hdo] at hot;cases hot
    | some d=>rw [hdo] at hot;rw [JmT hot]
   have one:∀ n,j<n->n<=ops.size->lkA (S n).env t=lkA (S (j+1)).env t:=λ n h1 h2=>by
    rcases Ji hst n h2 t with ⟨k,ok',q1,q2,q3,q4⟩|⟨q1,_⟩
    ·by_cases hkj:k=j
     ·rw [q4,hkj]
     ·exact absurd q3 (hd j k o ok' t hoj q2 (Ne.symm hkj) hdt)
    ·exact absurd hdt (q1 j o h1 hoj)
   rw [one i hji hi,one ops.size (by omega) (JmD _)]
  | false=>
   rw [cond_false]
   rcases Ji hst i hi t with ⟨k,ok',q1,q2,q3,q4⟩|⟨_,q2⟩
   ·exfalso
    rw [List.any_eq_false] at hany
    refine hany ok' ?_ ?_
    ·apply JmO (i:=k)
     rw [Jm5 q1]
     simpa using q2
    ·simp [q3]
   ·rw [q2]
 | _=>rfl
theorem PL {Γ:Cx} (hΓ:FG P Γ) {ops:Array Oper} {Q:St->Prop} {st:St} {a:Act} (hB:Na ops=false) (h:GP Γ true ops.toList ops.toList (λ s=>Ke true ops st.env s.env=true/\Q s) st) (hI:Inv N H0 F0 w0 Γ.nt st a w)
  {Qw:Exit->Act->World->Prop} (hQ:∀ st' a' w',Q st'->Inv N H0 F0 w0 Γ.nt st' a' w'->Qw .normal a' w'):wpAny P .any ops Qw ops.size (Array.replicate ops.size false) a { w with drawn:=w.drawn+1 }:=by
 obtain ⟨S,h0,hst,hC,hQS⟩:=E8 _ _ _ h
 have hst:∀ (i:Nat) o,ops[i]? = some o->AP Γ true ops.toList o (λ x=>x=S (i+1)) (S i):=λ i o hi=>hst i o (by simpa using hi)
 simp only [Array.length_toList] at hC hQS
 replace hC:Vc ops st.env (S ops.size).env=true:=by have:=(QM hC).1;rwa [hB,Bool.false_or] at this
 rw [← h0] at hC hI
 have hz:∀ (j:Nat) oj,ops[j]? = some oj->(oj,j)∈ops.toList.zipIdx:=λ j oj hj=>by
  rw [List.mem_zipIdx_iff_getElem?]
  simpa using hj
 have h1:∀ (j:Nat) oj,ops[j]? = some oj->(∀ e∈oj.after.toList,Region.binds .any e=true->e.on<j)/\∀ (i:Nat) oi,ops[i]? = some oi->Tg ops (S 0).env (S ops.size).env (Region.before ops) i j oi oj=true:=by
  intro j oj hj
  unfold Vc at hC
  have:=Jmz.1 hC _ (hz j oj hj)
  simp only [JmN] at this
  refine ⟨λ e he hb=>?_,λ i oi hi=>Jmz.1 this.2 _ (hz i oi hi)⟩
  have:=Array.all_eq_true'.1 this.1 e (by simpa using he)
  simpa [hb] using this
 have hdst:∀ (i j:Nat) oi oj d,ops[i]? = some oi->ops[j]? = some oj->i≠j->oi.dst=some d->oj.dst≠some d:=λ i j oi oj d hi hj hne hd=>by
  have:=(h1 j oj hj).2 i oi hi
  simp only [Tg,hd,Jm4,beq_iff_eq,hne,false_or,JmN,bne_iff_ne] at this
  exact this.1.1
 have hrefs:∀ (i:Nat) o,ops[i]? = some o->WX ops.toList (S 0).env (S ops.size).env i o=false->TM ops.toList (S 0).env (S ops.size).env i o=BE (S i) o:=λ i o hi hd=>by
  unfold TM BE
  unfold WX at hd
  simp only [JaI hst hdst (Nat.le_of_lt (Ap hi))] at hd ⊢
  rw [hd];rfl
 have ok:T5 ops S:=by
  refine { back:=λ j oj hj=>(h1 j oj hj).1,dst:=hdst,deps:=λ i j oi oj d hi hj hlt hd hr=>?_,anti:=λ i j oi oj d hi hj hlt hd hr=>?_,conf:=λ i j oi oj hi hj hne hW hm=>?_ }
  ·have:=(h1 j oj hj).2 i oi hi
   simp only [Tg,hd,Jm4,beq_iff_eq,show i≠j by omega,false_or,JmN] at this
   have:=this.1.2
   simpa [hr,hlt] using this
  ·have:=(h1 j oj hj).2 i oi hi
   simp only [Tg,hd,Jm4,beq_iff_eq,show i≠j by omega,false_or,JmN] at this
   have:=this.1.2
   simpa [hr,show ¬ i<j by omega] using this
  ·have:=(h1 j oj hj).2 i oi hi
   have hmm:(CT oi.op||isW oi.op)=true:=by simpa using hm
   simp only [Tg,Jm4,beq_iff_eq,hne,false_or,JmN,hW,hmm,JmC,JmY] at this
   rcases this.2 with (h|h)|h
   ·exact .inl (BS ops j i h)
   ·exact .inr (.inl (BS ops i j h))
   ·refine .inr (.inr λ k hk hk'=>?_)
    simp only [Bool.not_eq_true'] at h
    obtain ⟨hdi,h⟩:=h
    rw [hrefs i oi hi hdi,hrefs j oj hj (Tr hW)] at h
    have:=Jmz.1 h k hk
    rw [List.contains_iff_mem.2 hk'] at this
    cases this
 obtain ⟨F,ρ,hS,hSl,hn,hd⟩:=hI
 have hz:∀ k,(Array.replicate ops.size false).getD k false=false:=λ k=>getD_replicate_false _ _
 have hmono:∀ i j,i<=j->j<=ops.size->(S i).objs.length<=(S j).objs.length:=λ i j h h'=>Rn hst h h'
 have hb:=λ k (hk:k<(S ops.size).objs.length)=>Xp (S:=S) k ops.size hmono hk
 have h0n:=hmono 0 ops.size (Nat.zero_le _) (JmD _)
 refine Zq (S:=S) hΓ ok hst (λ a' w' hI'=>hQ _ _ _ hQS hI') ops.size _ a _ ?_ ?_
 ·refine { size:=by simp,closed:=(λ j oj _ hl=>by rw [hz] at hl;cases hl),tsz:=hn,defers:=hd.2.1.draw,ex:=⟨F,ρ,mkT (S ops.size).objs.length (λ k=>obA (S (Hw S k ops.size)).objs k),λ k=>Hw S k ops.size,⟨hd.2.2,hd.1⟩,hS.table (by rw [DY];exact h0n) λ k L ob hk ho=>?_,DY _ _,λ t=>⟨(λ i o _ _ hl=>by rw [hz] at hl;cases hl),λ _=>hSl t⟩,λ k L hk=>.inl (hS.dom k L hk),λ k ob hk ho=>?_,λ i k hl=>by (rw [hz] at hl;cases hl),λ i k _ hw=>?_,λ k hk=>?_,λ i k ob hi _ hk ho=>?_⟩ }
  ·have hk0:=hS.dom k L hk
   obtain ⟨q1,q2,q3⟩:=hb k (by omega)
   have:Hw S k ops.size=0:=by
    cases hbk:Hw S k ops.size with
    | zero=>rfl
    | succ m=>have:=q3 0 (by omega);omega
   rw [Lk,if_pos (by omega),this] at ho
   exact ho
  ·rw [DY] at hk
   rw [Lk,if_pos hk];exact ho
  ·obtain ⟨o,ho,_,_,hkl⟩:=hw
   have hil:=Ap ho
   have:=hmono i ops.size (by omega) (JmD _)
   obtain ⟨q1,q2,q3⟩:=hb k (by omega)
   rcases JmE i (Hw S k ops.size) with h|h
   ·have:=q3 i h;omega
   ·exact h
  ·rw [DY] at hk
   obtain ⟨q1,q2,q3⟩:=hb k hk
   exact ⟨q2,q1⟩
  ·have hkl:=AT ho
   have:=hmono (i+1) ops.size (by omega) (JmD _)
   obtain ⟨q1,q2,q3⟩:=hb k (by omega)
   have hbi:Hw S k ops.size=i+1:=by
    rcases Nat.lt_trichotomy (Hw S k ops.size) (i+1) with h|h|h
    ·have:=hmono (Hw S k ops.size) i (by omega) (by omega);omega
    ·exact h
    ·have:=q3 (i+1) h;omega
   rw [Lk,if_pos (by omega),hbi];exact ho
 ·have:∀ n,unl (Array.replicate ops.size false) n=n:=by
   intro n
   induction n with
   | zero=>rfl
   | succ n ih=>simp only [unl,ih,hz];rfl
  exact this _
end Go.AI
end
section
namespace Go.AI
variable {P:Program} {F F':Nat->Option Obj} {ρ ρ':Nat->Option Loc} {N:Nat->Prop} {H0 F0:Nat->Option Obj} {O objs:List (Option Ob)} {w:World} {w0:W0}
def exM:Ex->Exit
 | .normal=>.normal
 | .exit i=>.exit i
 | .ret=>.ret
def PM (N:Nat->Prop) (H0 F0:Nat->Option Obj) (w0:W0) (nt:Slt) (Q:Ex->St->Prop):Exit->Act->World->Prop:=λ e a w=>∃ e' st',e=exM e'/\Q e' st'/\Inv N H0 F0 w0 nt st' a w
theorem Zr {xs:List AV} {vs:Array Value} {nb:Nat} {R:AV->List (Option Ob)->Prop} {X:Array Value->(Ending->World->Prop)->Prop} (hX:∀ vs R R',X vs R->(∀ e w',R e w'->R' e w')->X vs R') (hS:Sim N H0 F0 F ρ O w.heap) (hxs:CR F ρ xs vs.toList)
  (hcall:∀ (N:Nat->Prop) (F:Nat->Option Obj) (ρ':Nat->Option Loc),ρ'=gcR (AG O xs) ρ->Sim N (λ b=>w.heap[b]?) F F ρ' (EV O (AG O xs)) w.heap->CR F ρ' (xs.map (J2 (AG O xs))) vs.toList ->
   X vs λ e w'=>∃ v F' ρ'' r O1,R r O1/\e=.returned v/\Sim N (λ b=>w.heap[b]?) F F' ρ'' O1 w'.heap/\(∀ j,j<nb->∀ L,ρ' j=some L->ρ'' j=some L)/\Ah F' ρ'' r v/\Mu w w')
  (hnb:nb<=(AG O xs).length) (hnb1:∀ r O1,R r O1->nb<=O1.length) (hord:∀ k∈AG O xs,k<O.length) {R':Ending->World->Prop}
  (hk:∀ r O1,R r O1->∀ v w' F' ρ'',FLe F F'->RLe ρ ρ''->Sim N H0 F0 F' ρ'' (CI O (AG O xs) nb O1) w'.heap->Ah F' ρ'' (M8 (Dz (AG O xs) O.length nb) r) v->Mu w w'->R' (.returned v) w'):X vs R':=by
 generalize hordd:AG O xs=ord at *
 have hnd:ord.Nodup:=by rw [← hordd];exact Jc _ _
 obtain ⟨σ,hσ⟩:=hS.inn
 have hL:=hS.lend hσ hnd
 have hcr:CR F (gcR ord ρ) (xs.map (J2 ord)) vs.toList:=by
  refine ⟨by simpa using hxs.1,λ i x v hx hv=>?_⟩
  simp only [JmQ,JmP] at hx
  obtain ⟨z,hz,rfl⟩:=hx
  exact Mq (hxs.2 i z v hz hv)
 refine hX _ _ _ (hcall _ F (gcR ord ρ) rfl hL hcr) λ e w' he=>?_
 obtain ⟨v,F1,ρ1,r,O1,hR,rfl,hS1,hkeep,hr1,hmu⟩:=he
 obtain ⟨g1,g2,g3⟩:=hS.back hσ hnd hord hS1 hmu.size hnb (hnb1 r O1 hR) hkeep
 exact hk r O1 hR v w' F1 _ hS1.f0 g1 g3 (Mp g2 hr1) hmu
theorem Sim.wipe {h:Array Obj} (hS:Sim N H0 F0 F ρ O h) {k:Nat} {L:Loc} {ob:Ob} (x:Obj) (hk:ρ k=some L) (hob:obA O k=some ob):Sim N H0 F0 F ρ (O.set k none) (h.setIfInBounds L.b x):=by
 obtain ⟨_,hN,hFn⟩:=hS.obj k L ob hk hob
 have hne:∀ b,b≠L.b->(h.setIfInBounds L.b x)[b]? = h[b]? := λ b hb=>by rw [Ck,if_neg (λ hh=>hb hh.1.symm)]
 have hget:∀ j ob',obA (O.set k none) j=some ob'->j≠k/\obA O j=some ob':=λ j ob' h=>by
  rw [By] at h
  split at h
  ·cases h
  ·rename_i hn
   refine ⟨λ e=>?_,h⟩
   subst e
   exact hn ⟨rfl,AT hob⟩
 obtain ⟨σ,hσ⟩:=hS.inn
 exact {
  size:=λ b hb=>hS.size b (by simpa using hb),old:=λ b hb=>by rw [hne b (λ e=>hb (by rw [e];exact hN))];exact hS.old b hb,f0:=hS.f0,fnew:=hS.fnew,
     frz:=λ b o hb=>by rw [hne b (λ e=>by rw [e,hFn] at hb;cases hb)];exact hS.frz b o hb,
     loc:=λ j L' hj=>by simpa using hS.loc j L' hj,dom:=λ j L' hj=>by simpa using hS.dom j L' hj,
     obj:=λ j L' ob' hj ho=>by
      obtain ⟨h1,h2⟩:=hget j ob' ho
      obtain ⟨g1,g2,g3⟩:=hS.obj j L' ob' hj h2
      exact ⟨g1.mono (FLe.refl _) (RLe.refl _) (hne _ (hS.sep j k L' L ob' ob hj hk h2 hob h1)),g2,g3⟩,
     sep:=λ j j' L1 L2 o1 o2 h1 h2 g1 g2 hn=>hS.sep j j' L1 L2 o1 o2 h1 h2 (hget j o1 g1).2 (hget j' o2 g2).2 hn,
     inn:=⟨σ,λ j c M hM=>by obtain ⟨g1,g2,g3⟩:=hσ.new j c M hM;exact ⟨g1,by simpa using g2,g3⟩,
      λ j c M j' L' ob' hM hj' ho=>hσ.obj j c M j' L' ob' hM hj' (hget j' ob' ho).2,hσ.sep,
      λ j L' sz es hj ho i e m isz xs hi hm cs t fr v hb hv=>by
       obtain ⟨h1,h2⟩:=hget j _ ho
       rw [hne _ (hS.sep j k L' L _ ob hj hk h2 hob h1)] at hb
       exact (hσ.rep j L' sz es hj h2 i e m isz xs hi hm cs t fr v hb hv).mono (FLe.refl _) λ M hM=>hne _ (λ e=>hσ.obj j _ M k L ob hM hk hob e.symm)⟩ }
def L6 (F:Nat->Option Obj) (d:Nat):Nat->Option Obj:=λ b=>if b=d then none else F b
theorem VU {d:Nat} (h:F d=some (.deferred (some []))):FCe F (L6 F d):=λ b o hb hno=>by
 unfold L6
 rw [if_neg (λ e=>by subst e;rw [h] at hb;cases hb;exact hno _ rfl)];exact hb
theorem Sim.shut {h:Array Obj} (hS:Sim N H0 F0 F ρ O h) {d:Nat} (hd:F d=some (.deferred (some []))) (hN:N d) (h0:F0 d=none):Sim N H0 F0 (L6 F d) ρ O (h.setIfInBounds d (.deferred none)):=by
 have hne:∀ b,b≠d->(h.setIfInBounds d (.deferred none))[b]? = h[b]? := λ b hb=>by rw [Ck,if_neg (λ hh=>hb hh.1.symm)]
 have hFd:∀ b o,L6 F d b=some o->b≠d/\F b=some o:=λ b o h=>by
  unfold L6 at h
  split at h
  ·cases h
  ·rename_i hn;exact ⟨hn,h⟩
 have hno:∀ b,F b=none->b≠d/\L6 F d b=none:=λ b h=>by
  have:b≠d:=λ e=>by subst e;rw [hd] at h;cases h
  exact ⟨this,by unfold L6;rw [if_neg this];exact h⟩
 have hce:=VU hd
 obtain ⟨σ,hσ⟩:=hS.inn
 exact {
  size:=λ b hb=>hS.size b (by simpa using hb),old:=λ b hb=>by rw [hne b (λ e=>hb (by rw [e];exact hN))];exact hS.old b hb,
     f0:=λ b o hb=>by
      have:b≠d:=λ e=>by subst e;rw [h0] at hb;cases hb
      unfold L6;rw [if_neg this];exact hS.f0 b o hb,
     fnew:=λ b o hb hn=>hS.fnew b o (hFd b o hb).2 hn,
     frz:=λ b o hb=>by rw [hne b (hFd b o hb).1];exact hS.frz b o (hFd b o hb).2,
     loc:=λ j L' hj=>by simpa using hS.loc j L' hj,dom:=hS.dom,
     obj:=λ j L' ob' hj ho=>by
      obtain ⟨g1,g2,g3⟩:=hS.obj j L' ob' hj ho
      exact ⟨g1.monoC hce (RLe.refl _) (hne _ (hno _ g3).1),g2,(hno _ g3).2⟩,
     sep:=hS.sep,
     inn:=⟨σ,λ j c M hM=>by obtain ⟨g1,g2,g3⟩:=hσ.new j c M hM;exact ⟨g1,by simpa using g2,(hno _ g3).2⟩,hσ.obj,hσ.sep,
      λ j L' sz es hj ho i e m isz xs hi hm cs t fr v hb hv=>by
       rw [hne _ (hno _ (hS.obj j L' _ hj ho).2.2).1] at hb
       exact (hσ.rep j L' sz es hj ho i e m isz xs hi hm cs t fr v hb hv).monoC hce λ M hM=>hne _ (hno _ (hσ.new _ _ M hM).2.2).1⟩ }
theorem PN {fn:Func} {tmps:Array Value} {R:Ending->World->Prop} {nt:Slt} (hq:∀ f k,(f,k)∈nt.qf->∀ vs:Array Value,vs.size=k->QD P (Nb f vs)) (hN:∀ b,w0.w.heap.size<=b->N b) (h0:∀ b,w0.w.heap.size<=b->F0 b=none) {l:List Nat} {ds:List Deferred} (hD:SJ nt l ds):∀ (F:Nat->Option Obj) (w:World),l.Nodup->(∀ b∈l,w0.w.heap.size<=b/\F b=some (.deferred (some []))) ->
  Sim N H0 F0 F ρ O w.heap->(∀ F' w',FCe F F'->Sim N H0 F0 F' ρ O w'.heap->Mu w w'->∃ v,(results fn tmps).run P w'=.ok v w'/\R (.returned v) w')->LeavesInM Fence.wide 0 P fn tmps R ds .returning w:=by
 induction hD with
 | nil=>intro F w _ _ hS hend;exact hend F w (λ _ _ h _=>h) hS (Mu.refl w)
 | quiet hd h ih=>
  intro F w hnd hl hS hend
  obtain ⟨fv,cap,f,args,q1,q2,q3⟩:=hq _ _ hd _ rfl
  refine ⟨by simp,.inr ⟨λ h=>(by cases h),fv,cap,f,args,q1,q2 w,λ g _=>trivial,(q3 w).1,λ c cs hm hr=>?_⟩⟩
  obtain ⟨e,u',w',fr,⟨v,rfl,hs,hh,hmu⟩,hrest⟩:=(q3 w).2 c cs hm hr
  refine ⟨.returned v,u',w',fr,?_,hrest⟩
  show LeavesInM Fence.wide 0 P fn tmps R _ (settle u') w'
  rw [hs]
  exact ih F w' hnd hl (by rw [hh];exact hS) λ F' w'' hF hS' hmu'=>hend F' w'' hF hS' (hmu.trans hmu')
 | @mark l ds d _ ih=>
  intro F w hnd hl hS hend
  obtain ⟨h1,h2⟩:=hl d List.mem_cons_self
  rw [List.nodup_cons] at hnd
  refine ⟨by simp,.inl ⟨d,w.putObj d (.deferred none),rfl,run_takeDeferred (hS.frz d _ h2),?_⟩⟩
  refine ih (L6 F d) _ hnd.2 (λ b hb=>?_) (hS.shut h2 (hN d h1) (h0 d h1)) λ F' w' hF hS' hmu=>?_
  ·obtain ⟨q1,q2⟩:=hl b (List.mem_cons_of_mem _ hb)
   refine ⟨q1,?_⟩
   unfold L6
   rw [if_neg (λ e=>hnd.1 (by rw [← e];exact hb))];exact q2
  ·refine hend F' w' (λ b o hb hno=>hF b o (VU h2 b o hb hno) hno) hS' (Mu.trans (w':=w.putObj d (.deferred none)) ⟨rfl,rfl,by simp,rfl,JmD _⟩ hmu)
theorem JaJ:∀ (ts:List Nat) (env:List (Nat×AV)) (t:Nat) (v:Value),Ah F ρ (lkA env t) v->Ah F ρ (lkA (ts.zip (ts.map (lkA env))) t) v:=by
 intro ts
 induction ts with
 | nil=>intro env t v _;exact .top _
 | cons x ts ih=>
  intro env t v h
  rw [JmK,List.zip_cons_cons,Bg]
  split
  ·rename_i e;subst e;exact h
  ·exact ih env t v h
theorem Sim.enter {nt:Slt} {st:St} {a:Act} {fn:FuncId} {ps:Array Tmp} {asg body:Code} {js:List Code} (ts:List Nat) (hS:Sim N H0 F0 F ρ st.objs w.heap) (hSl:BP F ρ st.env a.tmps) (hn:a.tmps.size=nt.n) :
  ∃ F1 ρ1,FLe F F1/\RLe ρ ρ1/\F1 w.heap.size=some (.deferred (some []))/\ρ1 st.objs.length=some ⟨w.heap.size+1,0,0⟩ /\
   Sim N H0 F0 F1 ρ1 (st.objs++[some (.lp ⟨nt.n,ps.toList,asg,body,js⟩ ts (ts.map (lkA st.env)) 0)]) ((w.alloc (.deferred (some []))).alloc (.loop { state:=.ready,pending:=none,fn,tmps:=a.tmps,params:=ps,assign:=asg,body,defers:=w.heap.size })).heap:=by
 obtain ⟨x,hx⟩:∃ x:Obj,x=.loop { state:=.ready,pending:=none,fn,tmps:=a.tmps,params:=ps,assign:=asg,body,defers:=w.heap.size }:=⟨_,rfl⟩
 rw [← hx]
 have hh:((w.alloc (.deferred (some []))).alloc x).heap=(w.heap.push (.deferred (some []))).push x:=rfl
 rw [hh]
 have hold:∀ b,b<w.heap.size->((w.heap.push (.deferred (some []))).push x)[b]? = w.heap[b]? := λ b hb=>by
  rw [Array.getElem?_push_lt (by simp;omega),Array.getElem_push_lt hb,JmR hb]
 have hD:((w.heap.push (.deferred (some []))).push x)[w.heap.size]? = some (.deferred (some [])):=by
  rw [Array.getElem?_push_lt (by simp)];simp
 have hl:((w.heap.push (.deferred (some []))).push x)[w.heap.size+1]? = some x:=by
  rw [Array.getElem?_push];simp
 have hlt:∀ b o,F b=some o->b<w.heap.size:=λ b o h=>Ap (hS.frz b o h)
 let F1:Nat->Option Obj:=λ b=>if b=w.heap.size then some (.deferred (some [])) else F b
 have e1:∀ b,b≠w.heap.size->F1 b=F b:=λ b h=>if_neg h
 have e2:F1 w.heap.size=some (.deferred (some [])):=if_pos rfl
 have hF:FLe F F1:=λ b o h=>by rw [e1 b (by have:=hlt b o h;omega)];exact h
 have hfresh:ρ st.objs.length=none:=by
  cases hr:ρ st.objs.length with
  | none=>rfl
  | some L=>have:=hS.dom _ L hr;omega
 have hρ:RLe ρ (upR ρ st.objs.length ⟨w.heap.size+1,0,0⟩):=λ k L h=>by
  rw [Bb (λ e=>by subst e;rw [hfresh] at h;cases h)];exact h
 have hnone:∀ b,w.heap.size<=b->F b=none:=λ b hb=>by
  cases hf:F b with
  | none=>rfl
  | some o=>have:=hlt b o hf;omega
 have hobj:∀ j ob,obA (st.objs++[some (.lp ⟨nt.n,ps.toList,asg,body,js⟩ ts (ts.map (lkA st.env)) 0)]) j=some ob->j≠st.objs.length->obA st.objs j=some ob:=λ j ob h hj=>by
  rw [AJ] at h
  split at h
  ·exact h
  ·have:=AT h;simp at this;omega
 obtain ⟨σ,hσ⟩:=hS.inn
 refine ⟨F1,_,hF,hρ,e2,AO ..,{ size:=λ b hb=>hS.size b (by simp at hb;omega),old:=λ b hb=>?_,f0:=λ b o h=>hF b o (hS.f0 b o h),fnew:=λ b o h hb=>?_,frz:=λ b o h=>?_,loc:=λ j L hj=>?_,dom:=λ j L hj=>?_,obj:=λ j L ob hj ho=>?_,sep:=λ j j' L L' o1 o2 hj hj' h1 h2 hne=>?_,inn:=⟨σ,λ j c M hM=>?_,λ j c M j' L ob hM hj' ho=>?_,hσ.sep,λ j L sz es hj ho i e m isz xs hi hm cs t fr v hb hv=>?_⟩ }⟩
 ·rw [hold b (hS.lt_size hb)];exact hS.old b hb
 ·rw [e1 b (by have:=hS.lt_size hb;omega)] at h;exact hS.fnew b o h hb
 ·by_cases e:b=w.heap.size
  ·subst e;rw [e2] at h;cases h;exact hD
  ·rw [e1 b e] at h;rw [hold b (hlt b o h)];exact hS.frz b o h
 ·by_cases e:j=st.objs.length
  ·subst e;rw [AO] at hj;cases hj;simp
  ·rw [Bb e] at hj;have:=hS.loc j L hj;simp;omega
 ·by_cases e:j=st.objs.length
  ·subst e;simp
  ·rw [Bb e] at hj;have:=hS.dom j L hj;simp;omega
 ·by_cases e:j=st.objs.length
  ·subst e
   rw [AO] at hj;cases hj
   rw [AJ,if_neg (by omega)] at ho
   simp only [Nat.sub_self,obA,List.getElem?_cons_zero,JmX] at ho
   subst ho
   refine ⟨⟨_,by rw [hl,hx],rfl,rfl,rfl,hn,.inl ⟨rfl,rfl,rfl⟩,λ t=>JaJ ts st.env t _ ((hSl t).mono hF hρ)⟩,hS.size _ (by simp),?_⟩
   rw [e1 _ (by simp)];exact hnone _ (by simp)
  ·rw [Bb e] at hj
   have hj':=hS.loc j L hj
   obtain ⟨g1,g2,g3⟩:=hS.obj j L ob hj (hobj j ob ho e)
   exact ⟨g1.mono hF hρ (hold _ hj'),g2,by rw [e1 _ (by omega)];exact g3⟩
 ·by_cases e:j=st.objs.length
  ·subst e
   rw [AO] at hj;cases hj
   rw [Bb (Ne.symm hne)] at hj'
   have:=hS.loc j' L' hj';simp;omega
  ·rw [Bb e] at hj
   by_cases e':j'=st.objs.length
   ·subst e'
    rw [AO] at hj';cases hj'
    have:=hS.loc j L hj;simp;omega
   ·rw [Bb e'] at hj'
    exact hS.sep j j' L L' o1 o2 hj hj' (hobj j o1 h1 e) (hobj j' o2 h2 e') hne
 ·obtain ⟨g1,g2,g3⟩:=hσ.new j c M hM
  exact ⟨g1,by simp;omega,by rw [e1 _ (by omega)];exact g3⟩
 ·by_cases e:j'=st.objs.length
  ·subst e
   rw [AO] at hj';cases hj'
   have:=(hσ.new j c M hM).2.1
   simp;omega
  ·rw [Bb e] at hj'
   exact hσ.obj j c M j' L ob hM hj' (hobj j' ob ho e)
 ·by_cases e':j=st.objs.length
  ·subst e'
   rw [AJ,if_neg (by omega)] at ho
   simp [obA] at ho
  ·rw [Bb e'] at hj
   rw [hold _ (hS.loc j L hj)] at hb
   exact (hσ.rep j L sz es hj (hobj j _ ho e') i e m isz xs hi hm cs t fr v hb hv).mono hF λ M hM=>hold _ (hσ.new _ _ M hM).2.1
theorem Jgm {k j:Nat} {js:List Code} (h:lpJ O k=some (js,j)):∃ d ts vs,obA O k=some (.lp d ts vs j)/\d.js=js:=by
 unfold lpJ at h
 split at h
 ·rename_i d ts vs j' ho
  cases h
  exact ⟨d,ts,vs,ho,rfl⟩
 ·cases h
def T9 (P:Program) (Γ:Cx) (g:Operand) (ps:Array Tmp) (asg body:Code) (Q:Ex->St->Prop) (st:St):Prop:=
 match Aj st.env g with
 | .clo f caps=>∃ (js:List Code) (ts:List Nat) (nb:Nat) (R:AV->List (Option Ob)->Prop),
   Γ.rd=false/\Hu P f ((.yld st.objs.length::caps).map (J2 (AG (rgO Γ ps asg body js ts st) (.yld st.objs.length::caps)))) (EV (rgO Γ ps asg body js ts st) (AG (rgO Γ ps asg body js ts st) (.yld st.objs.length::caps))) nb R /\
   nb<=(AG (rgO Γ ps asg body js ts st) (.yld st.objs.length::caps)).length/\(∀ k∈AG (rgO Γ ps asg body js ts st) (.yld st.objs.length::caps),k<(rgO Γ ps asg body js ts st).length) /\
   ∀ r objs1,R r objs1->nb<=objs1.length/\∃ j,lpJ (CI (rgO Γ ps asg body js ts st) (AG (rgO Γ ps asg body js ts st) (.yld st.objs.length::caps)) nb objs1) st.objs.length=some (js,j) /\
    YV Q js j ⟨st.env,(CI (rgO Γ ps asg body js ts st) (AG (rgO Γ ps asg body js ts st) (.yld st.objs.length::caps)) nb objs1).set st.objs.length none⟩
 | _=>False
theorem Ro {Γ:Cx} {rd:Option Nat} (hrd:Γ.rd=rd.isSome) {g:Operand} {ps:Array Tmp} {asg body:Code} {Q:Ex->St->Prop} {st:St} {a:Act} (h:T9 P Γ g ps asg body Q st) (hI:Inv N H0 F0 w0 Γ.nt st a w) :
  (Code.rangeFunc g ps asg body).wpIn (GF rd) 0 P (PM N H0 F0 w0 Γ.nt Q) a w:=by
 obtain ⟨F,ρ,hS,hSl,hn,hdf⟩:=hI
 unfold T9 at h
 split at h
 rotate_left
 ·exact h.elim
 rename_i f caps hgv
 obtain ⟨js,ts,nb,R,h1,hl,hnb,hord,hR⟩:=h
 have hr0:rd=none:=by
  rw [h1] at hrd
  cases rd with
  | none=>rfl
  | some l=>cases hrd
 subst hr0
 have hg:=AY hSl g
 rw [hgv] at hg
 generalize hav:a.eval g=gv at hg
 cases hg with
 | clo _ _ vs hlen hrep=>
  obtain ⟨⟨fn,c,hf,hb,hnm⟩,hcall⟩:=hl
  refine wpIn_rangeFunc λ fnid _=>?_
  obtain ⟨F1,ρ1,hF1,hρ1,hFD,hρl,hS1⟩:=hS.enter (nt:=Γ.nt) (fn:=fnid) (ps:=ps) (asg:=asg) (body:=body) (js:=js) ts hSl hn.1
  obtain ⟨W1,hW1⟩:∃ W1,W1=(w.alloc (.deferred (some []))).alloc (.loop { state:=.ready,pending:=none,fn:=fnid,tmps:=a.tmps,params:=ps,assign:=asg,body,defers:=w.heap.size }):=⟨_,rfl⟩
  have hmu1:Mu w W1:=by rw [hW1];exact ⟨rfl,rfl,by simp;omega,rfl,JmD _⟩
  refine ⟨w.heap.size+1,[QN w.heap.size],W1,{ target:=.fn (.func f) vs,args:=#[.func (.yield (w.heap.size+1)) #[] #[]] },W1,f,#[.func (.yield (w.heap.size+1)) #[] #[]]++vs,W1,?_,?_,λ _ _=>trivial,?_,(by intro h;cases h),?_⟩
  ·rw [hW1];exact run_enterLoop_outer _ _ _ _ _
  ·simp only [resolve,hav]
   simp [go_sem]
  ·simp only [invoke,callFunc,Jmw,run_program,Jmu,hf,hnm,hb,JmY,if_false,Option.isNone_some,Jmx]
  rw [← hW1] at hS1
  refine Q4.2 (Zr (X:=λ vs R=>Calls P f vs W1 R) (λ _ _ _ h hr=>h.mono hr) (xs:=.yld st.objs.length::caps) hS1 ⟨by simp;omega,λ i x v hx hv=>?_⟩ (λ N F ρ' _ hS' hcr=>hcall N F ρ' W1 _ hS' hcr) hnb (λ r O1 hr=>(hR r O1 hr).1) hord λ r objs1 hr v w' F2 ρ2 hF2 hρ2 hS2 _ hmu=>?_)
  ·cases i with
   | zero=>
    simp at hx hv;subst hx;subst hv
    exact .yld _ _ hρl
   | succ i=>
    have hx:caps[i]? = some x:=by simpa using hx
    have hv:vs[i]? = some v:=by simpa [Array.getElem?_append] using hv
    exact (hrep i x v hx hv).mono hF1 hρ1
  ·obtain ⟨hnb1,j,hj,hQ⟩:=hR r objs1 hr
   obtain ⟨d,ts',vs',hob,hdj⟩:=Jgm hj
   have hρn:=hρ2 _ _ hρl
   obtain ⟨⟨rc,hrc,_,_,_,_,hst,_⟩,hNl,hFl⟩:=hS2.obj _ _ _ hρn hob
   simp only at hrc
   have hS3:=hS2.wipe (.loop { rc with state:=.exhausted }) hρn hob
   have hInv:Inv N H0 F0 w0 Γ.nt ⟨st.env,(CI (rgO Γ ps asg body js ts st) (AG (rgO Γ ps asg body js ts st) (.yld st.objs.length::caps)) nb objs1).set st.objs.length none⟩ { a with defers:=[QN w.heap.size]++a.defers } (w'.putObj (w.heap.size+1) (.loop { rc with state:=.exhausted })):=by
    refine ⟨F2,ρ2,hS3,hSl.mono (hF1.trans hF2) (hρ1.trans hρ2),hn,?_,hdf.2.1.trans (hmu1.trans (hmu.trans ⟨rfl,rfl,by simp,rfl,JmD _⟩)),hdf.2.2.mono (hρ1.trans hρ2)⟩
    obtain ⟨l,q1,q2,q3⟩:=hdf.1.mono (hF1.trans hF2)
    obtain ⟨l',q1',_,q3'⟩:=hdf.1
    refine ⟨w.heap.size::l,.mark _ q1,List.nodup_cons.2 ⟨λ hm=>?_,q2⟩,λ b hb=>?_⟩
    ·have hll:l=l':=q1.uniq q1'
     rw [hll] at hm
     have:=Ap (hS.frz _ _ (q3' _ hm).2)
     omega
    ·rcases List.mem_cons.1 hb with rfl|hb
     ·exact ⟨hdf.2.1.size,hF2 _ _ hFD⟩
     ·exact q3 b hb
   have hend:rc.state≠.busy->(Instr.endLoop (w.heap.size+1)).run P w'=.ok rc.pending (w'.putObj (w.heap.size+1) (.loop { rc with state:=.exhausted })):=λ hb=>run_endLoop hrc hb
   match j,hst,hQ with
   | 0,hst,hQ=>
    rcases hst with ⟨_,h2,h3⟩|⟨h2,_⟩|⟨c,h2,_⟩
    ·exact ⟨none,_,by rw [hend (by rw [h2];simp),h3],.normal,_,rfl,hQ,hInv⟩
    ·omega
    ·omega
   | 1,_,hQ=>exact hQ.elim
   | i+2,hst,hQ=>
    rcases hst with ⟨h2,_⟩|⟨h2,_⟩|⟨c,_,h2,h3,h4⟩
    ·omega
    ·omega
    ·simp only [Nat.add_sub_cancel,hdj] at h2
     refine ⟨some c,w'.putObj (w.heap.size+1) (.loop { rc with state:=.exhausted }),by rw [hend (by rw [h3];simp),h4],?_⟩
     simp only [YV,h2] at hQ
     split at hQ
     ·rename_i he;cases he;exact wpIn_ret (⟨.ret,_,rfl,hQ,hInv⟩:PM N H0 F0 w0 Γ.nt Q .ret _ _)
     ·rename_i k he;cases he;exact wpIn_exit (⟨.exit k,_,rfl,hQ,hInv⟩:PM N H0 F0 w0 Γ.nt Q (.exit k) _ _)
     ·exact hQ.elim
theorem Ua {Γ:Cx} (hΓ:FG P Γ) {rd:Option Nat} (hrd:Γ.rd=rd.isSome) {g:Operand} {ps:Array Tmp} {asg body:Code} {Q:Ex->St->Prop} {st:St} {a:Act} (h:TP Γ g ps asg body Q st) (hI:Inv N H0 F0 w0 Γ.nt st a w) :
  (Code.rangeFunc g ps asg body).wpIn (GF rd) 0 P (PM N H0 F0 w0 Γ.nt Q) a w:=by
 refine Ro hrd ?_ hI
 unfold TP at h
 unfold T9
 split at h
 ·rename_i f caps hgv
  simp only [hgv]
  obtain ⟨js,ts,nb,R,h1,hl,h2⟩:=h
  exact ⟨js,ts,nb,R,h1,hΓ.lentS _ _ _ _ _ hl,h2⟩
 ·exact h.elim
theorem VV {Γ:Cx} (hΓ:FG P Γ) {rd:Option Nat} (hrd:Γ.rd=rd.isSome) {g:Operand} {ps:Array Tmp} {asg body:Code} {Q:Ex->St->Prop} {st:St} {a:Act} (h:TO Γ g ps asg body Q st) (hI:Inv N H0 F0 w0 Γ.nt st a w) :
  (Code.rangeFunc g ps asg body).wpIn (GF rd) 0 P (PM N H0 F0 w0 Γ.nt Q) a w:=by
 refine Ro hrd ?_ hI
 unfold TO at h
 unfold T9
 split at h
 ·rename_i f caps hgv
  simp only [hgv]
  obtain ⟨js,ts,nb,r,objs1,j,h1,hl,hnb,hnb1,hord,hj,hQ⟩:=h
  exact ⟨js,ts,nb,_,h1,(hΓ.lent _ _ _ _ _ _ hl).S,hnb,hord,λ r' O' hr=>by obtain ⟨rfl,rfl⟩:=hr;exact ⟨hnb1,j,hj,hQ⟩⟩
 ·exact h.elim
end Go.AI
end
section
namespace Go.AI
variable {P:Program} {F F':Nat->Option Obj} {ρ ρ':Nat->Option Loc} {N:Nat->Prop} {H0 F0:Nat->Option Obj} {O objs:List (Option Ob)} {w:World} {w0:W0}
theorem Fb {op:Op} (h:H5 op=true):Ht op=true/\isW op=false:=by
 cases op with
 | call c=>
  obtain ⟨callee,args,ts⟩:=c
  cases callee with
  | value f=>cases h
  | invoke r m=>cases h
  | builtin b=>cases b<;>first|exact ⟨rfl,rfl⟩|cases h
 | _=>first|exact ⟨rfl,rfl⟩|cases h
theorem Mr {op:Op} (h:H5 op=true) (hm:CT op=true):∃ t a,op=.load t a:=by
 cases op with
 | call c=>
  obtain ⟨callee,args,ts⟩:=c
  cases callee with
  | value f=>cases h
  | invoke r m=>cases h
  | builtin b=>cases b<;>first|(cases h;done)|(cases hm;done)
 | load t a=>exact ⟨t,a,rfl⟩
 | _=>first|(cases h;done)|(cases hm;done)
theorem Xr {Γ:Nat->Ty} {ev:Operand->AV} {op:Op} (h:DH op=true):opA Γ ev objs op=none:=by
 cases op with
 | call c=>
  obtain ⟨callee,args,ts⟩:=c
  cases callee with
  | value f=>rfl
  | invoke r m=>cases h
  | builtin b=>cases h
 | _=>cases h
theorem Km {op:Op} (h:DH op=true) (hq:H5 op=true):False:=by
 cases op with
 | call c=>
  obtain ⟨callee,args,ts⟩:=c
  cases callee with
  | value f=>cases hq
  | invoke r m=>cases h
  | builtin b=>cases h
 | _=>cases h
structure JaK (P:Program) (Γ:Cx) (ops:Array Oper) (m x i:Nat) (o:Oper) (s s':St) (g:Bool) (v:AV):Prop where
 gd:Bk (ops.toList.take m) s.env o.guard=some g
 dst:Bv Γ.nt o.dst=true
 env:s'.env=putA o.dst o.guard.isSome g v s.env
 quiet:H5 o.op=true->(∃ obs:List Ob,s'.objs=s.objs++obs.map some)/\(g=true->∃ e,opA Γ.ty (λ y=>unG (Aj s.env y)) s.objs o.op=some e/\Ed true (o.op.operands.toList.map (Aj s.env))/\e.ob/\v=e.v)
 call:DH o.op=true->(g=false->∃ obs:List Ob,s'.objs=s.objs++obs.map some)/\(g=true->∀ env,(∀ y∈o.op.operands.toList,Aj env y=Aj s.env y)->Γ.ext Γ.nt o true ⟨env,s.objs⟩ ⟨putA o.dst o.guard.isSome true v env,s'.objs⟩)
theorem Xs {Γ:Cx} {ops:Array Oper} {m x i:Nat} {o:Oper} {s s':St} (hk:H5 o.op=true\/DH o.op=true) (hx:∀ o',ops[x]? = some o'->DH o'.op=true) (h:AP (cxX Γ ops x) false (ops.toList.take m) o (λ z=>z=s') s):∃ g v,JaK P Γ ops m x i o s s' g v:=by
 unfold AP at h
 split at h
 ·exact h.elim
 rename_i g hg
 cases hdst:Bv Γ.nt o.dst with
 | false=>rw [show (cxX Γ ops x).nt=Γ.nt from rfl,hdst] at h;exact h.elim
 | true=>
  rw [show (cxX Γ ops x).nt=Γ.nt from rfl,hdst,JmC,cond_false] at h
  cases g with
  | false=>
   obtain ⟨v,obs,_,hv⟩:=h.2 rfl
   cases hv
   exact ⟨false,v,hg,hdst,rfl,λ _=>⟨⟨obs,rfl⟩,λ h=>by cases h⟩,λ _=>⟨λ _=>⟨obs,rfl⟩,λ h=>by cases h⟩⟩
  | true=>
   have hext:∀ st',Jkg Γ ops x Γ.nt o true s st'->DH o.op=true/\∃ v,st'=⟨putA o.dst o.guard.isSome true v s.env,st'.objs⟩/\∀ env,(∀ y∈o.op.operands.toList,Aj env y=Aj s.env y)->Γ.ext Γ.nt o true ⟨env,s.objs⟩ ⟨putA o.dst o.guard.isSome true v env,st'.objs⟩:=by
    rintro st' ⟨h1,v,O1,rfl,h2⟩
    exact ⟨hx o h1,v,rfl,h2⟩
   have others:∀ op,o.op=op->(match opA Γ.ty (λ x=>unG (Aj s.env x)) s.objs op with
     | some e=>Ed true (op.operands.toList.map (Aj s.env))/\(true=true->e.ob)/\(bif (e.upd.isSome&&o.guard.isSome)||(!e.rm.isEmpty&&(o.guard.isSome||(false&&!isW op))) then False else Dh o.dst o.guard.isSome true e s=s')
     | none=>False)->∃ g v,JaK P Γ ops m x i o s s' g v:=by
    intro op hop h
    subst hop
    split at h
    ·rename_i e he
     obtain ⟨h1,h2,h3⟩:=h
     have hq:H5 o.op=true:=by
      rcases hk with h|h
      ·exact h
      ·rw [Xr h] at he;cases he
     obtain ⟨q2,q3,q1⟩:=TZ (Fb hq).1 he
     have hs:Dh o.dst o.guard.isSome true e s=s':=by
      rw [q1,q3] at h3
      simpa using h3
     subst hs
     refine ⟨true,e.v,hg,hdst,rfl,λ _=>⟨⟨[],?_⟩,λ _=>⟨e,he,h1,h2 rfl,rfl⟩⟩,λ hc=>(Km hc hq).elim⟩
     simp [Dh,q1,q2,q3,rmA,BH]
    ·exact h.elim
   rcases h.1 rfl with h|h|h
   ·unfold stepG at h
    split at h
    ·obtain ⟨_,h⟩:=h
     unfold JE at h
     split at h
     ·obtain ⟨_,m,r,hc,_⟩:=h
      exact (hc rfl).elim
     ·exact h.elim
    ·rename_i c y z hop
     rcases hk with h|h
     ·rw [hop] at h;cases h
     ·rw [hop] at h;cases h
    ·exact others _ rfl h
   ·exfalso
    unfold Eg opF at h
    split at h
    ·rename_i es he
     split at he
     ·rename_i t len parts hop
      rcases hk with h|h
      ·rw [hop] at h;cases h
      ·rw [hop] at h;cases h
     ·cases he
    ·exact h
   ·obtain ⟨_,⟨st',h1,rfl⟩|⟨_,h|h⟩⟩:=h
    ·obtain ⟨h1,v,h2,h3⟩:=hext _ h1
     refine ⟨true,v,hg,hdst,by rw [h2],λ hq=>(Km h1 hq).elim,λ _=>⟨λ h=>(by cases h),λ _=>h3⟩⟩
    ·exfalso
     unfold opK at h
     split at h
     ·rename_i esz es he
      split at he
      ·rename_i t len parts hop
       rcases hk with h|h
       ·rw [hop] at h;cases h
       ·rw [hop] at h;cases h
      ·cases he
     ·exact h
    ·exfalso
     split at h
     ·obtain ⟨_,nb,r,o1,hl,_⟩:=h
      exact hl
     ·exact h
theorem JaL {t:Ty} {p v:AV} (h:ldX t objs p=some v):∃ k off cells,p=.ptr k off/\obA objs k=some (.box cells)/\BX cells off t=some v/\off+t.size<=cells.length:=by
 unfold ldX at h
 split at h
 ·rename_i k off
  split at h
  ·rename_i cells hc
   cases hb:Nat.ble (off+t.size) cells.length with
   | false=>rw [hb] at h;cases h
   | true=>
    rw [hb,cond_true] at h
    exact ⟨k,off,cells,rfl,hc,h,Jm1 hb⟩
  ·cases h
 ·cases h
theorem Ns {Γ:Nat->Ty} {t:TypeId} {a:Operand} {ev:Operand->AV} {k off:Nat} {cells:List AV} {v:AV} (hok:(Γ t).ok=true) (hp:ev a=.ptr k off) (hc:obA objs k=some (.box cells)) (hv:BX cells off (Γ t)=some v):opA Γ ev objs (.load t a)=some ⟨v,[],[],none,off+(Γ t).size<=cells.length⟩:=by
 simp only [opA,hok,cond_true,hp,C0,hc,hv,A4]
theorem JaM {Γ:Nat->Ty} {t:TypeId} {a:Operand} {ev:Operand->AV} {e:Eff} (O:List (Option Ob)) (h:opA Γ ev objs (.load t a)=some e):opA Γ ev (objs++O) (.load t a)=some e:=by
 simp only [opA] at h ⊢
 cases hok:(Γ t).ok with
 | false=>rw [hok] at h;cases h
 | true=>
  rw [hok,cond_true] at h
  rw [cond_true]
  have hap:∀ k ob,obA objs k=some ob->obA (objs++O) k=some ob:=λ k ob hk=>by rw [AJ,if_pos (AT hk)];exact hk
  unfold C0 at h ⊢
  split at h
  ·split at h
   ·rename_i hk;rw [hap _ _ hk];exact h
   ·cases h
  ·split at h
   ·rename_i hk;rw [hap _ _ hk];exact h
   ·rename_i hk;rw [hap _ _ hk];exact h
   ·cases h
  ·exact h
  ·cases h
theorem JaN {ops:Array Oper} {b x m i:Nat} (hbi:b<=i) (hix:i≠x) (hx:x<m) (h1:i<x->¬((Region.before ops).getD x 0).testBit i=true) (h2:x<i->¬((Region.before ops).getD i 0).testBit x=true)  :exX ops b x m i=false:=by
 rw [← Bool.not_eq_true]
 intro h
 unfold exX at h
 simp only [Jm4,JmN] at h
 rcases h with (((h|h)|h)|h)|h
 ·have:=Jm1 h;omega
 ·exact hix (JmT h)
 ·have:=Jm1 h;omega
 ·exact h1 (Jm1 h.1) h.2
 ·exact h2 (Jm1 h.1) h.2
theorem Tt {ops:Array Oper} {b x m:Nat} (h:QO ops b x m=true):(m<ops.size/\b<=x/\b<=m)/\(∀ o',ops[x]? = some o'->DH o'.op=true) /\
  (∀ (j:Nat) oj,ops[j]? = some oj->(∀ e∈oj.after.toList,Region.binds .any e=true->e.on<j)/\(b<=j->j<m->FH ops m j/\(H5 oj.op=true\/DH oj.op=true)/\(DH oj.op=true->j=x))/\(b<=j->m<j->FH ops j m)/\(∀ k b,oj.guard=some (k,b)->k<j) /\
   ∀ (i:Nat) oi d,ops[i]? = some oi->i≠j->oi.dst=some d->oj.dst≠some d/\(d∈Cc ops.toList oj->(i<j->Region.waitsFor .any ops j i=true)/\(j<i->Region.waitsFor .any ops i j=true))):=by
 unfold QO at h
 simp only [JmN] at h
 obtain ⟨⟨⟨⟨h1,hbx⟩,hbm⟩,hx⟩,h2⟩:=h
 have hz:∀ (j:Nat) oj,ops[j]? = some oj->(oj,j)∈ops.toList.zipIdx:=λ j oj hj=>by
  rw [List.mem_zipIdx_iff_getElem?]
  simpa using hj
 refine ⟨⟨Jm1 h1,Jm1 hbx,Jm1 hbm⟩,λ o' ho'=>?_,λ j oj hj=>?_⟩
 ·rw [ho'] at hx;exact hx
 have h3:=Jmz.1 h2 _ (hz j oj hj)
 simp only [JmN] at h3
 obtain ⟨⟨⟨h3,h4⟩,h5⟩,h6⟩:=h3
 refine ⟨λ e he hb=>?_,λ hbj hjm=>?_,λ hbj hmj=>?_,λ k b hg=>?_,λ i oi d hi hne hd=>?_⟩
 ·have:=Array.all_eq_true_iff_forall_mem.1 h3 e (by simpa using he)
  rw [hb,JmC,Bool.false_or] at this
  exact of_decide_eq_true this
 ·have hb:Nat.blt j m=true:=Nat.ble_eq_true_of_le hjm
  have hb0:Nat.blt j b=false:=by
   cases hb:Nat.blt j b with
   | false=>rfl
   | true=>have:=Jm1 hb;omega
  rw [hb0,Bool.false_or,hb,cond_true,JmN] at h4
  refine ⟨BS _ _ _ h4.1,?_,λ hc=>?_⟩
  ·cases hjx:Nat.beq j x with
   | true=>rw [hjx,cond_true] at h4;exact .inr h4.2
   | false=>rw [hjx,cond_false] at h4;exact .inl h4.2
  ·cases hjx:Nat.beq j x with
   | true=>exact JmT hjx
   | false=>rw [hjx,cond_false] at h4;exact (Km hc h4.2).elim
 ·have hb:Nat.blt j m=false:=by
   cases hb:Nat.blt j m with
   | false=>rfl
   | true=>have:=Jm1 hb;omega
  have hb0:Nat.blt j b=false:=by
   cases hb:Nat.blt j b with
   | false=>rfl
   | true=>have:=Jm1 hb;omega
  rw [hb0,Bool.false_or,hb,cond_false,Jm4] at h4
  rcases h4 with h4|h4
  ·have:=JmT h4;omega
  ·exact BS _ _ _ h4
 ·rw [hg] at h5
  exact of_decide_eq_true h5
 ·have h7:=Jmz.1 h6 _ (hz i oi hi)
  simp only [Jm4,beq_iff_eq] at h7
  rcases h7 with h7|h7
  ·exact absurd h7 hne
  rw [hd] at h7
  simp only [JmN,bne_iff_ne,ne_eq,Jm4,Bool.not_eq_true'] at h7
  refine ⟨h7.1,λ hm=>?_⟩
  have h8:=h7.2
  rw [List.contains_iff_mem.2 hm] at h8
  rcases h8 with h8|h8
  ·cases h8
  refine ⟨λ hlt=>?_,λ hlt=>?_⟩
  ·rw [decide_eq_true hlt,cond_true] at h8;exact h8
  ·rw [decide_eq_false (by omega),cond_false] at h8;exact h8
theorem Tu (env:List (Nat×AV)):∃ B,∀ t,B<=t->lkA env t=.top:=by
 induction env with
 | nil=>exact ⟨0,λ t _=>rfl⟩
 | cons p env ih=>
  obtain ⟨B,hB⟩:=ih
  obtain ⟨k,v⟩:=p
  refine ⟨B+k+1,λ t ht=>?_⟩
  rw [Bg,if_neg (by omega)]
  exact hB t (by omega)
theorem Xt (S:Nat->St):∀ n,∃ B,∀ i,i<=n->∀ t,B<=t->lkA (S i).env t=.top:=by
 intro n
 induction n with
 | zero=>
  obtain ⟨B,hB⟩:=Tu (S 0).env
  refine ⟨B,λ i hi t ht=>?_⟩
  have:i=0:=by omega
  subst this
  exact hB t ht
 | succ n ih=>
  obtain ⟨B,hB⟩:=ih
  obtain ⟨B',hB'⟩:=Tu (S (n+1)).env
  refine ⟨B+B',λ i hi t ht=>?_⟩
  by_cases e:i=n+1
  ·subst e;exact hB' t (by omega)
  ·exact hB i (by omega) t (by omega)
theorem Jdf (f:Nat->AV) (B:Nat) (hf:∀ t,B<=t->f t=.top) (t:Nat):lkA ((List.range B).map λ t=>(t,f t)) t=f t:=by
 have key:∀ (l:List Nat),lkA (l.map λ t=>(t,f t)) t=if t∈l then f t else .top:=by
  intro l
  induction l with
  | nil=>rfl
  | cons x l ih=>
   rw [JmK,Bg,ih]
   by_cases e:x=t
   ·subst e;simp
   ·rw [if_neg e];simp [Ne.symm e]
 rw [key]
 split
 ·rfl
 ·rename_i h
  rw [List.mem_range] at h
  exact (hf t (by omega)).symm
structure DX (N:Nat->Prop) (H0 F0:Nat->Option Obj) (w0:W0) (nt:Slt) (ops:Array Oper) (b m x:Nat) (S:Nat->St) (listed:Array Bool) (a:Act) (w:World):Prop where
 size:listed.size=ops.size
 closed:∀ (j:Nat) oj,ops[j]? = some oj->listed.getD j false=true->∀ e∈oj.after.toList,Region.binds .any e=true->listed.getD e.on false=true
 tsz:TS nt w0.kp a.tmps
 mu:Mu w0.w w
 last:∀ j,m<=j->listed.getD j false=false
 base:∀ j,j<b->listed.getD j false=true
 ex:∃ F ρ,(RK w0 nt ρ/\Dfr w0 nt F a.defers)/\Sim N H0 F0 F ρ (if listed.getD x false=true then (S m).objs else (S b).objs) w.heap /\
  ∀ t,(∀ (i:Nat) o,b<=i->i<m->ops[i]? = some o->o.dst=some t->listed.getD i false=true->Ah F ρ (lkA (S (i+1)).env t) (a.tmps.getD t undef))/\((∀ (i:Nat) o,b<=i->i<m->ops[i]? = some o->o.dst=some t->listed.getD i false=false)->Ah F ρ (lkA (S b).env t) (a.tmps.getD t undef))
theorem JaO {Γ:Cx} (hΓ:FG P Γ) (rd:Option Nat) (hqr:Γ.nt.qf≠[]->rd=none) (n:Nat) {ops:Array Oper} {b x m:Nat} {Q:St->Prop} {st:St} {a:Act} (hB:QO ops b x m=true)
  (h:GP (cxX Γ ops x) false (ops.toList.take m) ((ops.toList.take m).drop b) (λ s=>Jge Γ.ty ops b x m st.env s.env st.objs s.objs/\∃ F,ops[m]? = some F/\AP Γ false ops.toList F Q s) st) (hI:Inv N H0 F0 w0 Γ.nt st a w)
  {Qw:Exit->Act->World->Prop} {listed0:Array Bool} (hs0:listed0.size=ops.size) (hl0:∀ k,k<b->listed0.getD k false=true) (hl1:∀ k,b<=k->listed0.getD k false=false)
  (hQ:∀ st' a' w' (listed':Array Bool) (fuel:Nat),Q st'->Inv N H0 F0 w0 Γ.nt st' a' w'->listed'.size=ops.size->(∀ k,k<m+1->listed'.getD k false=true)->(∀ k,m+1<=k->listed'.getD k false=false)->m+1+fuel=ops.size->wpAnyIn (GF rd) n P .any ops Qw fuel listed' a' w') :
  wpAnyIn (GF rd) n P .any ops Qw (ops.size-b) listed0 a w:=by
 obtain ⟨S',h0',hst',hend⟩:=E8 _ _ _ h
 obtain ⟨⟨hn1,hbx,hbm⟩,hxc,hops⟩:=Tt hB
 have hlen:((ops.toList.take m).drop b).length=m-b:=by rw [List.length_drop,List.length_take];simp;omega
 rw [hlen] at hend
 obtain ⟨hlds,Fo,hF,hFs⟩:=hend
 obtain ⟨S,hSd⟩:∃ S:Nat->St,S=λ i=>S' (i-b):=⟨_,rfl⟩
 have h0:S b=st:=by rw [hSd];simpa using h0'
 have hSm:S m=S' (m-b):=by rw [hSd]
 rw [← hSm] at hlds hFs
 have hget:∀ (i:Nat) o,i<m->ops[i]? = some o->(ops.toList.take m)[i]? = some o:=λ i o hi ho=>by
  rw [Jm5 hi]
  simpa using ho
 have hst:∀ (i:Nat) o,b<=i->i<m->ops[i]? = some o->AP (cxX Γ ops x) false (ops.toList.take m) o (λ z=>z=S (i+1)) (S i):=λ i o hbi hi ho=>by
  have:=hst' (i-b) o (by rw [JmH,show b+(i-b)=i by omega];exact hget i o hi ho)
  rw [hSd]
  show AP _ _ _ o (λ z=>z=S' (i+1-b)) (S' (i-b))
  rw [show i+1-b=i-b+1 by omega];exact this
 have hcf:∀ (i:Nat) o,b<=i->i<m->ops[i]? = some o->∃ g v,JaK P Γ ops m x i o (S i) (S (i+1)) g v:=λ i o hbi hi ho=>
  Xs ((hops i o ho).2.1 hbi hi).2.1 hxc (hst i o hbi hi ho)
 have env_trk:∀ j,b<=j->j<=m->∀ t,(∃ i o,b<=i/\i<j/\ops[i]? = some o/\o.dst=some t/\lkA (S j).env t=lkA (S (i+1)).env t)\/((∀ i o,b<=i->i<j->ops[i]? = some o->o.dst≠some t)/\lkA (S j).env t=lkA (S b).env t):=by
  intro j hbj
  induction hbj with
  | refl=>intro _ t;exact .inr ⟨λ i o hbi hi=>by omega,rfl⟩
  | @step j hbj ih=>
   intro hj t
   have hbj:b<=j:=hbj
   have hoj:=JmR (show j<ops.size by omega)
   obtain ⟨g,v,hc⟩:=hcf j _ hbj (by omega) hoj
   by_cases hd:(ops[j]).dst=some t
   ·exact .inl ⟨j,_,hbj,by omega,hoj,hd,rfl⟩
   ·have hlk:lkA (S (j+1)).env t=lkA (S j).env t:=by
     rw [hc.env]
     cases hdd:(ops[j]).dst with
     | none=>rfl
     | some d=>
      simp only [putA]
      rw [Bg,if_neg]
      intro e;subst e;exact hd hdd
    rcases ih (by omega) t with ⟨i,o,hbi,h1,h2,h3,h4⟩|⟨h1,h2⟩
    ·exact .inl ⟨i,o,hbi,by omega,h2,h3,by rw [Nat.succ_eq_add_one,hlk,h4]⟩
    ·refine .inr ⟨λ i o hbi hi ho=>?_,by rw [Nat.succ_eq_add_one,hlk,h2]⟩
     by_cases e:i=j
     ·subst e;rw [hoj] at ho;cases ho;exact hd
     ·exact h1 i o hbi (by omega) ho
 have hdd:∀ (i j:Nat) oi oj d,ops[i]? = some oi->ops[j]? = some oj->i≠j->oi.dst=some d->oj.dst≠some d:=λ i j oi oj d hi hj hne hd=>((hops j oj hj).2.2.2.2 i oi d hi hne hd).1
 have hval:∀ (i:Nat),b<=i->i<=m->∀ y,QL ops.toList (S b).env (S m).env i y=Aj (S i).env y:=by
  intro i hbi hi y
  cases y with
  | tmp t=>
   simp only [QL,Aj]
   cases hany:(ops.toList.take i).any (λ o=>match o.dst with|some d=>Nat.beq d t|none=>false) with
   | true=>
    rw [cond_true]
    rw [List.any_eq_true] at hany
    obtain ⟨o,ho,hot⟩:=hany
    obtain ⟨j,hj⟩:=List.getElem?_of_mem ho
    have hji:j<i:=by have:=Ad hj;simp at this;omega
    rw [Jm5 hji] at hj
    have hoj:ops[j]? = some o:=by simpa using hj
    have hdt:o.dst=some t:=by
     cases hdo:o.dst with
     | none=>rw [hdo] at hot;cases hot
     | some d=>rw [hdo] at hot;rw [JmT hot]
    rcases JmE j b with hjb|hbj
    ·have one:∀ q,b<=q->q<=m->lkA (S q).env t=lkA (S b).env t:=λ q h1 h2=>by
      rcases env_trk q h1 h2 t with ⟨k,ok',q0,q1,q2,q3,q4⟩|⟨_,q2⟩
      ·exact absurd q3 (hdd j k o ok' t hoj q2 (by omega) hdt)
      ·exact q2
     rw [one i hbi hi,one m hbm (JmD _)]
    ·have one:∀ q,j<q->q<=m->lkA (S q).env t=lkA (S (j+1)).env t:=λ q h1 h2=>by
      rcases env_trk q (by omega) h2 t with ⟨k,ok',q0,q1,q2,q3,q4⟩|⟨q1,_⟩
      ·by_cases hkj:k=j
       ·rw [q4,hkj]
       ·exact absurd q3 (hdd j k o ok' t hoj q2 (Ne.symm hkj) hdt)
      ·exact absurd hdt (q1 j o hbj h1 hoj)
     rw [one i hji hi,one m (by omega) (JmD _)]
   | false=>
    rw [cond_false]
    rcases env_trk i hbi hi t with ⟨k,ok',q0,q1,q2,q3,q4⟩|⟨_,q2⟩
    ·exfalso
     rw [List.any_eq_false] at hany
     refine hany ok' ?_ ?_
     ·apply JmO (i:=k)
      rw [Jm5 q1]
      simpa using q2
     ·simp [q3]
    ·rw [q2]
  | _=>rfl
 have grow:∀ d i,b<=i->i+d<=m->(i+d<=x\/x<i)->∃ obs:List Ob,(S (i+d)).objs=(S i).objs++obs.map some:=by
  intro d
  induction d with
  | zero=>intro i _ _ _;exact ⟨[],by simp⟩
  | succ d ih=>
   intro i hbi hi hx
   obtain ⟨obs,ho⟩:=ih i hbi (by omega) (by omega)
   have hoi:=JmR (show i+d<ops.size by omega)
   obtain ⟨g,v,hc⟩:=hcf (i+d) _ (by omega) (by omega) hoi
   have hq:H5 (ops[i+d]).op=true:=by
    obtain ⟨_,h1,h2⟩:=(hops (i+d) _ hoi).2.1 (by omega) (by omega)
    rcases h1 with h1|h1
    ·exact h1
    ·have:=h2 h1;omega
   obtain ⟨obs',ho'⟩:=(hc.quiet hq).1
   exact ⟨obs++obs',by rw [← JmI,ho',ho,List.map_append,List.append_assoc]⟩
 have hnox:m<=x->∃ obs:List Ob,(S m).objs=(S b).objs++obs.map some:=λ hx=>by
  have:=grow (m-b) b (JmD _) (by omega) (.inl (by omega));rwa [show b+(m-b)=m by omega] at this
 obtain ⟨B,hBd⟩:=Xt S m
 have hload:∀ (i:Nat) o t p,b<=i->i<m->exX ops b x m i=false->ops[i]? = some o->o.op=.load t p->∃ k off c0 cm v,unG (Aj (S i).env p)=.ptr k off/\obA (S b).objs k=some (.box c0)/\obA (S m).objs k=some (.box cm)/\BX c0 off (Γ.ty t)=some v/\BX cm off (Γ.ty t)=some v/\off+(Γ.ty t).size<=c0.length/\off+(Γ.ty t).size<=cm.length:=by
  intro i o t p hbi hi hix ho hop
  obtain ⟨h1,h2⟩:=hlds
  rw [← h0] at h1 h2
  have hz:(ldL Γ.ty ops b x m (S b).env (S m).env (S b).objs)[i]? = some (ldX (Γ.ty t) (S b).objs (unG (Aj (S i).env p))):=by
   unfold ldL
   rw [JmQ,List.getElem?_zipIdx,hget i o hi ho]
   simp [hop,hix,hval i hbi (by omega) p]
  have hz':(ldL Γ.ty ops b x m (S b).env (S m).env (S m).objs)[i]? = some (ldX (Γ.ty t) (S m).objs (unG (Aj (S i).env p))):=by
   unfold ldL
   rw [JmQ,List.getElem?_zipIdx,hget i o hi ho]
   simp [hop,hix,hval i hbi (by omega) p]
  have hsome:=Jmz.1 h2 _ (JmO hz)
  cases hv:ldX (Γ.ty t) (S b).objs (unG (Aj (S i).env p)) with
  | none=>rw [hv] at hsome;cases hsome
  | some v=>
   rw [h1,hz',hv] at hz
   obtain ⟨k,off,c0,e1,e2,e3,e4⟩:=JaL hv
   obtain ⟨k',off',cm,f1,f2,f3,f4⟩:=JaL (Option.some.inj hz)
   rw [e1] at f1
   cases f1
   exact ⟨k,off,c0,cm,v,e1,e2,f2,e3,f3,e4,f4⟩
 have hfin:∀ listed a w,DX N H0 F0 w0 Γ.nt ops b m x S listed a w->(∀ k,k<m->listed.getD k false=true)->Inv N H0 F0 w0 Γ.nt (S m) a w:=by
  intro listed a w hD hl
  obtain ⟨F,ρ,hrk,hS,hsl⟩:=hD.ex
  refine ⟨F,ρ,?_,λ t=>?_,hD.tsz,hrk.2,hD.mu,hrk.1⟩
  ·by_cases hx:x<m
   ·rw [if_pos (hl x hx)] at hS;exact hS
   ·obtain ⟨obs,ho⟩:=hnox (by omega)
    split at hS
    ·exact hS
    ·rw [ho];exact hS.grow _
  ·rcases env_trk m hbm (JmD _) t with ⟨i,o,h0,h1,h2,h3,h4⟩|⟨h1,h2⟩
   ·rw [h4];exact (hsl t).1 i o h0 h1 h2 h3 (hl i h1)
   ·rw [h2]
    exact (hsl t).2 λ i o hbi hi ho hd=>absurd hd (h1 i o hbi hi ho)
 have main:∀ (fuel:Nat) (listed:Array Bool) (a:Act) (w:World),DX N H0 F0 w0 Γ.nt ops b m x S listed a w->unl listed ops.size=fuel->wpAnyIn (GF rd) n P .any ops Qw fuel listed a w:=by
  intro fuel
  induction fuel with
  | zero=>
   intro listed a w hD hu
   have:=Nn ops.size hu m (by omega)
   have h2:=hD.last m (JmD _)
   rw [this] at h2;cases h2
  | succ fuel ih=>
   intro listed a w hD hu
   have hall:Region.ready .any ops listed=[]->∀ k,k<ops.size->listed.getD k false=true:=by
    intro hr k
    induction k using Nat.strongRecOn with
    | _ k ihk=>
     intro hk
     cases hl:listed.getD k false with
     | true=>rfl
     | false=>
      have:k∈Region.ready .any ops listed:=by
       rw [mem_ready]
       refine ⟨getD_in (by rw [hD.size];exact hk) hl,_,JmR hk,λ e he hb=>?_⟩
       have hlt:=(hops k _ (JmR hk)).1 e (by simpa using he) hb
       exact ihk e.on hlt (by omega)
      rw [hr] at this
      cases this
   refine ⟨λ hr=>?_,λ i hi=>?_⟩
   ·have:=hall hr m (by omega)
    have h2:=hD.last m (JmD _)
    rw [this] at h2;cases h2
   obtain ⟨hun,o,ho,hedges⟩:=mem_ready.1 hi
   have hui:=getD_both hun
   have hio:=Ap ho
   have hidx:i<listed.size:=by rw [hD.size];exact hio
   have hdirect:∀ k,Region.waitsFor .any ops i k=true->listed.getD k false=true:=λ k hk=>by
    obtain ⟨o',ho',e,he,hb,hon⟩:=Region.waitsFor_spec hk
    rw [ho] at ho';cases ho'
    rw [← hon];exact hedges e he hb
   have hne:∀ k,k≠i->(listed.setIfInBounds i true).getD k false=listed.getD k false:=λ k hk=>by
    rw [JmS,JmS,JmF (Ne.symm hk)]
   have heq:(listed.setIfInBounds i true).getD i false=true:=by simp [hidx]
   have hunl:=Qx hidx hui ops.size hio
   unfold wpOpIn
   rw [ho]
   simp only
   have hbi:b<=i:=by
    rcases JmE i b with h|h
    ·rw [hD.base i h] at hui;cases hui
    ·exact h
   by_cases him:m<=i
   ·
    have him':i=m:=by
     rcases JmE m i with h|h
     ·have h3:=Bq hD.closed ((hops i o ho).2.2.1 hbi h) hdirect
      rw [hD.last m (JmD _)] at h3;cases h3
     ·omega
    subst him'
    have hl:∀ k,k<i->listed.getD k false=true:=λ k hk=>by
     rcases JmE k b with h|h
     ·exact hD.base k h
     ·have hr:=((hops k _ (JmR (show k<ops.size by omega))).2.1 h (by omega)).1
      exact Bq hD.closed hr hdirect
    have hI':=hfin listed a w hD hl
    rw [hF] at ho
    cases ho
    refine Q7 hΓ rd hqr n (all:=ops) hFs hI' λ st' a' w' hq hI2=>?_
    have hfz:i+1+fuel=ops.size:=by
     have key:∀ q,q<=ops.size->unl listed q=q-i:=by
      intro q
      induction q with
      | zero=>intro _;simp [unl]
      | succ q ihq=>
       intro hq'
       simp only [unl]
       rw [ihq (by omega)]
       rcases JmE q i with h|h
       ·rw [if_pos (hl q h)];omega
       ·rw [if_neg (by rw [hD.last q h];simp)];omega
     have:=key ops.size (JmD _)
     omega
    refine hQ st' a' w' _ fuel hq hI2 (by simpa using hD.size) (λ q hq'=>?_) (λ q hq'=>?_) hfz
    ·by_cases e:q=i
     ·subst e;exact heq
     ·rw [hne q e];exact hl q (by omega)
    ·rw [hne q (by omega)];exact hD.last q (by omega)
   have him:i<m:=by omega
   obtain ⟨g,v0,hc⟩:=hcf i o hbi him ho
   obtain ⟨F,ρ,hrk,hS,hsl⟩:=hD.ex
   have hrs:RS F ρ (S i).env a.tmps (Cc ops.toList o):=by
    intro t ht
    rcases env_trk i hbi (by omega) t with ⟨k,ok',h0,h1,h2,h3,h4⟩|⟨h1,h2⟩
    ·rw [h4]
     refine (hsl t).1 k ok' h0 (by omega) h2 h3 (hdirect k ?_)
     exact (((hops i o ho).2.2.2.2 k ok' t h2 (by omega) h3).2 ht).1 h1
    ·rw [h2]
     refine (hsl t).2 λ k ok' hbk hkm hk hd=>?_
     rcases Nat.lt_trichotomy k i with hlt|he|hgt
     ·exact absurd hd (h1 k ok' hbk hlt hk)
     ·rw [he];exact hui
     ·cases hl:listed.getD k false with
      | false=>rfl
      | true=>
       obtain ⟨o',ho',e,he,hb,hon⟩:=Region.waitsFor_spec ((((hops i o ho).2.2.2.2 k ok' t hk (by omega) hd).2 ht).2 hgt)
       have:=hD.closed k o' ho' hl e (by simpa using he) hb
       rw [hon,hui] at this
       cases this
   have hSl:BP F ρ (Dc (S i).env (Cc ops.toList o)) a.tmps:=BP.ofRS hrs
   have hev:∀ y∈o.op.operands.toList,Ah F ρ (Aj (S i).env y) (a.eval y):=λ y hy=>by
    have:=AY hSl y
    cases y with
    | tmp t=>
     simp only [Aj] at this ⊢
     rw [Kj,if_pos (by unfold Cc;exact List.mem_append_left _ (Jg hy))] at this
     exact this
    | _=>exact this
   have hgd:Bk ops.toList (Dc (S i).env (Cc ops.toList o)) o.guard=some g:=by
    have:=hc.gd
    unfold Bk at this ⊢
    split at this
    ·exact this
    ·rename_i j want hg
     have hj:=(hops i o ho).2.2.2.1 j want hg
     have hoj:=JmR (show j<ops.size by omega)
     rw [hget j _ (by omega) hoj] at this
     have hoj':ops.toList[j]? = some ops[j]:=by simp
     rw [hoj']
     simp only at this ⊢
     split at this
     ·rename_i t ht
      rw [ht]
      simp only
      rw [Kj,if_pos (by unfold Cc M9;rw [hg];simp only [hoj',ht];simp)]
      exact this
     ·cases this
   have hw:=FE hSl hgd
   rw [hw]
   have next:∀ (v:Value) (w':World) (F':Nat->Option Obj) (ρ':Nat->Option Loc),FLe F F'->RLe ρ ρ'->Sim N H0 F0 F' ρ' (if (listed.setIfInBounds i true).getD x false=true then (S m).objs else (S b).objs) w'.heap->(∀ d,o.dst=some d->Ah F' ρ' (lkA (S (i+1)).env d) v)->Mu w w'->wpAnyIn (GF rd) n P .any ops Qw fuel (listed.setIfInBounds i true) (a.put o.dst v) w':=by
    intro v w' F' ρ' hF' hρ' hS' hv hmu
    refine ih _ _ _ { size:=by simpa using hD.size,closed:=λ j oj hj hl e he hb=>?_,tsz:=hD.tsz.put hc.dst,mu:=hD.mu.trans hmu,last:=λ j hj=>by rw [hne j (by omega)];exact hD.last j hj,base:=λ j hj=>by rw [hne j (by omega)];exact hD.base j hj,ex:=⟨F',ρ',⟨hrk.1.mono hρ',by rw [Bu];exact hrk.2.mono hF'⟩,hS',λ t=>?_⟩ } (by omega)
    ·by_cases hji:j=i
     ·subst hji
      rw [ho] at hj;cases hj
      have:=hedges e (by simpa using he) hb
      by_cases hee:e.on=j
      ·rw [hee];exact heq
      ·rw [hne _ hee];exact this
     ·rw [hne j hji] at hl
      have:=hD.closed j oj hj hl e he hb
      by_cases hee:e.on=i
      ·rw [hee];exact heq
      ·rw [hne _ hee];exact this
    ·by_cases hdt:o.dst=some t
     ·have hvl:(a.put o.dst v).tmps.getD t undef=v:=by
       have hd:=hc.dst
       rw [hdt] at hd ⊢
       have:t<a.tmps.size:=hD.tsz.lt hd
       simp [Act.put,this]
      rw [hvl]
      refine ⟨λ k ok' hbk hkm hk hd _=>?_,λ hno=>?_⟩
      ·by_cases hki:k=i
       ·subst hki;exact hv t hdt
       ·exact absurd hd (hdd i k o ok' t ho hk (Ne.symm hki) hdt)
      ·have:=hno i o hbi (by omega) ho hdt
       rw [heq] at this;cases this
     ·have hvl:(a.put o.dst v).tmps.getD t undef=a.tmps.getD t undef:=by
       cases hde:o.dst with
       | none=>rfl
       | some d=>
        have hdne:d≠t:=λ e=>hdt (by rw [hde,e])
        rw [JmS,JmS]
        simp only [Act.put]
        rw [JmF hdne]
      rw [hvl]
      refine ⟨λ k ok' hbk hkm hk hd hl=>?_,λ hno=>?_⟩
      ·have hki:k≠i:=λ e=>by subst e;rw [ho] at hk;cases hk;exact hdt hd
       rw [hne k hki] at hl
       exact ((hsl t).1 k ok' hbk (by omega) hk hd hl).mono hF' hρ'
      ·refine ((hsl t).2 λ k ok' hbk hkm hk hd=>?_).mono hF' hρ'
       have hki:k≠i:=λ e=>by subst e;rw [ho] at hk;cases hk;exact hdt hd
       have:=hno k ok' hbk (by omega) hk hd
       rwa [hne k hki] at this
   have hput:∀ (F':Nat->Option Obj) (ρ':Nat->Option Loc) (v:Value) d,o.dst=some d->Ah F' ρ' (bif o.guard.isSome then .gv g v0 else v0) v->Ah F' ρ' (lkA (S (i+1)).env d) v:=λ F' ρ' v d hd hv=>by
    rw [hc.env,hd]
    simp only [putA]
    rw [Bg,if_pos rfl];exact hv
   by_cases hix:i=x
   ·subst hix
    have hcall:DH o.op=true:=hxc o ho
    rw [hui] at hS
    simp only [JmY,if_false] at hS
    obtain ⟨obs0,hobs0⟩:=grow (i-b) b (JmD _) (by omega) (.inl (by omega))
    rw [show b+(i-b)=i by omega] at hobs0
    obtain ⟨obs1,hobs1⟩:=grow (m-(i+1)) (i+1) (by omega) (by omega) (.inr (by omega))
    rw [show i+1+(m-(i+1))=m by omega] at hobs1
    cases g with
    | false=>
     rw [if_neg (by simp)]
     refine ⟨λ _ _=>trivial,?_⟩
     obtain ⟨obs2,hobs2⟩:=(hc.call hcall).1 rfl
     have hgs:o.guard.isSome=true:=by
      cases hgo:o.guard with
      | some y=>rfl
      | none=>have:=hc.gd;rw [hgo] at this;cases this
     refine next undef w F ρ (FLe.refl _) (RLe.refl _) ?_ (λ d hd=>hput F ρ _ d hd (by rw [hgs];exact .gvF _)) (Mu.refl w)
     rw [heq,if_pos rfl,hobs1,hobs2,hobs0]
     exact ((hS.grow _).grow _).grow _
    | true=>
     rw [if_pos rfl]
     let f:Nat->AV:=λ t=>@dite _ (∃ k ok',b<=k/\k<m/\ops[k]? = some ok'/\ok'.dst=some t/\listed.getD k false=true) (Classical.propDecidable _) (λ h=>lkA (S (Classical.choose h+1)).env t) λ _=>lkA (S b).env t
     have hf1:∀ k ok' t,b<=k->k<m->ops[k]? = some ok'->ok'.dst=some t->listed.getD k false=true->f t=lkA (S (k+1)).env t:=λ k ok' t h0 h1 h2 h3 h4=>by
      have hex:∃ k ok',b<=k/\k<m/\ops[k]? = some ok'/\ok'.dst=some t/\listed.getD k false=true:=⟨k,ok',h0,h1,h2,h3,h4⟩
      have e:f t=lkA (S (Classical.choose hex+1)).env t:=dif_pos hex
      rw [e]
      obtain ⟨ok2,q0,q1,q2,q3,q4⟩:=Classical.choose_spec hex
      by_cases hkk:Classical.choose hex=k
      ·rw [hkk]
      ·exact absurd h3 (hdd _ k ok2 ok' t q2 h2 hkk q3)
     have hf0:∀ t,(∀ (k:Nat) ok',b<=k->k<m->ops[k]? = some ok'->ok'.dst=some t->listed.getD k false=false)->f t=lkA (S b).env t:=λ t hno=>by
      have hnex:¬∃ k ok',b<=k/\k<m/\ops[k]? = some ok'/\ok'.dst=some t/\listed.getD k false=true:=by
       rintro ⟨k,ok',h0,h1,h2,h3,h4⟩
       rw [hno k ok' h0 h1 h2 h3] at h4;cases h4
      exact dif_neg hnex
     have hfc:∀ t,(∃ k ok',b<=k/\k<m/\ops[k]? = some ok'/\ok'.dst=some t/\listed.getD k false=true)\/∀ (k:Nat) ok',b<=k->k<m->ops[k]? = some ok'->ok'.dst=some t->listed.getD k false=false:=λ t=>by
      rcases Classical.em (∃ k ok',b<=k/\k<m/\ops[k]? = some ok'/\ok'.dst=some t/\listed.getD k false=true) with h|h
      ·exact .inl h
      ·refine .inr λ k ok' h0 h1 h2 h3=>?_
       cases hl:listed.getD k false with
       | false=>rfl
       | true=>exact absurd ⟨k,ok',h0,h1,h2,h3,hl⟩ h
     have hfB:∀ t,B<=t->f t=.top:=λ t ht=>by
      rcases hfc t with ⟨k,ok',h0,h1,h2,h3,h4⟩|hno
      ·rw [hf1 k ok' t h0 h1 h2 h3 h4];exact hBd (k+1) (by omega) t ht
      ·rw [hf0 t hno];exact hBd b (by omega) t ht
     have hlk:=Jdf f B hfB
     have hSlE:BP F ρ ((List.range B).map λ t=>(t,f t)) a.tmps:=λ t=>by
      rw [hlk]
      rcases hfc t with ⟨k,ok',h0,h1,h2,h3,h4⟩|hno
      ·rw [hf1 k ok' t h0 h1 h2 h3 h4];exact (hsl t).1 k ok' h0 h1 h2 h3 h4
      ·rw [hf0 t hno];exact (hsl t).2 hno
     have hfr:∀ t∈Cc ops.toList o,f t=lkA (S i).env t:=λ t ht=>by
      rcases env_trk i hbi (by omega) t with ⟨k,ok',h0,h1,h2,h3,h4⟩|⟨h1,h2⟩
      ·rw [h4]
       exact hf1 k ok' t h0 (by omega) h2 h3 (hdirect k ((((hops i o ho).2.2.2.2 k ok' t h2 (by omega) h3).2 ht).1 h1))
      ·rw [h2]
       refine hf0 t λ k ok' hbk hkm hk hd=>?_
       rcases Nat.lt_trichotomy k i with hlt|he|hgt
       ·exact absurd hd (h1 k ok' hbk hlt hk)
       ·rw [he];exact hui
       ·cases hl:listed.getD k false with
        | false=>rfl
        | true=>
         obtain ⟨o',ho',e,he,hb,hon⟩:=Region.waitsFor_spec ((((hops i o ho).2.2.2.2 k ok' t hk (by omega) hd).2 ht).2 hgt)
         have:=hD.closed k o' ho' hl e (by simpa using he) hb
         rw [hon,hui] at this
         cases this
     have hext:=(hc.call hcall).2 rfl ((List.range B).map λ t=>(t,f t)) λ y hy=>by
      cases y with
      | tmp t=>
       simp only [Aj]
       rw [hlk,hfr t (by unfold Cc;exact List.mem_append_left _ (Jg hy))]
      | _=>rfl
     have hSx:Sim N H0 F0 F ρ (S i).objs w.heap:=by rw [hobs0];exact hS.grow _
     refine hΓ.ext _ _ _ _ _ hext N H0 F0 w0 a w rfl ⟨F,ρ,hSx,hSlE,hD.tsz,hrk.2,hD.mu,hrk.1⟩ hc.dst rd n _ _ hqr λ a' w' hI'=>?_
     obtain ⟨F',ρ',hS',hSl',hts',hdf',hmu',hrk'⟩:=hI'
     have hslot:∀ t,Ah F' ρ' (if o.dst=some t then lkA (S (i+1)).env t else f t) (a'.tmps.getD t undef):=λ t=>by
      have:=hSl' t
      cases hd:o.dst with
      | none=>rw [hd] at this;simp only [putA] at this;rw [hlk] at this;simpa using this
      | some d=>
       rw [hd] at this
       simp only [putA] at this
       rw [Bg,hlk] at this
       by_cases e:d=t
       ·subst e
        rw [if_pos rfl] at this ⊢
        rw [hc.env,hd]
        simp only [putA]
        rw [Bg,if_pos rfl];exact this
       ·rw [if_neg e] at this
        rw [if_neg (λ h=>e (Option.some.inj h))];exact this
     refine ih _ _ _ { size:=by simpa using hD.size,closed:=λ j oj hj hl e he hb=>?_,tsz:=hts',mu:=hmu',last:=λ j hj=>by rw [hne j (by omega)];exact hD.last j hj,base:=λ j hj=>by rw [hne j (by omega)];exact hD.base j hj,ex:=⟨F',ρ',⟨hrk',hdf'⟩,by rw [heq,if_pos rfl,hobs1];exact hS'.grow _,λ t=>?_⟩ } (by omega)
     ·by_cases hji:j=i
      ·subst hji
       rw [ho] at hj;cases hj
       have:=hedges e (by simpa using he) hb
       by_cases hee:e.on=j
       ·rw [hee];exact heq
       ·rw [hne _ hee];exact this
      ·rw [hne j hji] at hl
       have:=hD.closed j oj hj hl e he hb
       by_cases hee:e.on=i
       ·rw [hee];exact heq
       ·rw [hne _ hee];exact this
     ·have hs:=hslot t
      by_cases hdt:o.dst=some t
      ·rw [if_pos hdt] at hs
       refine ⟨λ k ok' hbk hkm hk hd _=>?_,λ hno=>?_⟩
       ·by_cases hki:k=i
        ·subst hki;exact hs
        ·exact absurd hd (hdd i k o ok' t ho hk (Ne.symm hki) hdt)
       ·have:=hno i o hbi (by omega) ho hdt
        rw [heq] at this;cases this
      ·rw [if_neg hdt] at hs
       refine ⟨λ k ok' hbk hkm hk hd hl=>?_,λ hno=>?_⟩
       ·have hki:k≠i:=λ e=>by subst e;rw [ho] at hk;cases hk;exact hdt hd
        rw [hne k hki] at hl
        rw [← hf1 k ok' t hbk (by omega) hk hd hl];exact hs
       ·rw [hf0 t λ k ok' hbk hkm hk hd=>by
         have hki:k≠i:=λ e=>by subst e;rw [ho] at hk;cases hk;exact hdt hd
         have:=hno k ok' hbk (by omega) hk hd
         rwa [hne k hki] at this] at hs
        exact hs
   ·
    have hq:H5 o.op=true:=by
     obtain ⟨_,h1,h2⟩:=(hops i o ho).2.1 hbi (by omega)
     rcases h1 with h1|h1
     ·exact h1
     ·exact absurd (h2 h1) hix
    have hSn:Sim N H0 F0 F ρ (if (listed.setIfInBounds i true).getD x false=true then (S m).objs else (S b).objs) w.heap:=by
     rw [hne x (λ e=>hix e.symm)];exact hS
    cases g with
    | false=>
     rw [if_neg (by simp)]
     have hgs:o.guard.isSome=true:=by
      cases hgo:o.guard with
      | some y=>rfl
      | none=>have:=hc.gd;rw [hgo] at this;cases this
     exact ⟨λ _ _=>trivial,next undef w F ρ (FLe.refl _) (RLe.refl _) hSn (λ d hd=>hput F ρ _ d hd (by rw [hgs];exact .gvF _)) (Mu.refl w)⟩
    | true=>
     rw [if_pos rfl]
     obtain ⟨e,he,hgob,hob,rfl⟩:=(hc.quiet hq).2 rfl
     have hevu:∀ y∈o.op.operands.toList,Ah F ρ (unG (Aj (S i).env y)) (a.eval y):=λ y hy=>Bt rfl _ hgob _ (List.mem_map_of_mem hy) _ (hev y hy)
     have hrun:∃ v,(execOp a.eval o).run P w=.ok (.value v) w/\Ah F ρ e.v v:=by
      cases hmo:CT o.op with
      | false=>
       rw [Nm _ hmo (Fb hq).2] at he
       exact (Cj hΓ.ty hS (λ k ob h=>by simp [obA] at h) o (Fb hq).1 he hob hevu).2
      | true=>
       have hok:∀ t p,o.op=.load t p->(Γ.ty t).ok=true:=λ t p hop=>by
        rw [hop] at he
        simp only [opA] at he
        cases hk:(Γ.ty t).ok with
        | true=>rfl
        | false=>rw [hk] at he;cases he
       by_cases hlx:listed.getD x false=true
       ·have hxm:x<m:=by
         rcases Nat.lt_trichotomy x m with h1|h1|h1
         ·exact h1
         ·subst h1;have:=hD.last x (JmD _);rw [hlx] at this;cases this
         ·have:=hD.last x (by omega);rw [hlx] at this;cases this
        rw [if_pos hlx] at hS
        by_cases hxi:x<i
        ·obtain ⟨obs,ho2⟩:=grow (m-i) i hbi (by omega) (.inr hxi)
         rw [show i+(m-i)=m by omega] at ho2
         obtain ⟨t,p,hop⟩:=Mr hq hmo
         rw [hop] at he
         have he':=JaM (obs.map some) he
         rw [← ho2] at he'
         exact (Cj hΓ.ty hS (λ _ _ h=>h) o (Fb hq).1 (by rw [hop];exact he') hob hevu).2
        ·have hex:exX ops b x m i=false:=JaN hbi hix (by omega) (λ _ ht=>by
          have:=Bq hD.closed (BS _ _ _ ht) λ k hk=>by
           obtain ⟨o',ho',e,he,hb,hon⟩:=Region.waitsFor_spec hk
           rw [← hon]
           exact hD.closed x o' ho' hlx e (by simpa using he) hb
          rw [hui] at this;cases this) λ h=>absurd h hxi
         obtain ⟨t,p,hop⟩:=Mr hq hmo
         obtain ⟨k,off,c0,cm,v,q1,q2,q3,q4,q5,q6,q7⟩:=hload i o t p hbi him hex ho hop
         obtain ⟨obs,ho2⟩:=grow (i-b) b (JmD _) (by omega) (.inl (by omega))
         rw [show b+(i-b)=i by omega] at ho2
         have hev':=Ns (Γ:=Γ.ty) (t:=t) (a:=p) (ev:=λ y=>unG (Aj (S i).env y)) (hok t p hop) q1 (show obA (S i).objs k=some (.box c0) by rw [ho2,AJ,if_pos (AT q2)];exact q2) q4
         rw [hop,hev'] at he
         cases he
         exact (Cj hΓ.ty hS (λ _ _ h=>h) o (Fb hq).1 (ev:=λ y=>unG (Aj (S i).env y)) (e:=⟨v,[],[],none,off+(Γ.ty t).size<=cm.length⟩) (by rw [hop];exact Ns (hok t p hop) q1 q3 q5) q7 hevu).2
       ·rw [if_neg hlx] at hS
        by_cases hxi:i<x
        ·obtain ⟨obs,ho2⟩:=grow (i-b) b (JmD _) (by omega) (.inl (by omega))
         rw [show b+(i-b)=i by omega] at ho2
         have hSi:=hS.grow (obs.map some)
         rw [← ho2] at hSi
         exact (Cj hΓ.ty hSi (λ _ _ h=>h) o (Fb hq).1 he hob hevu).2
        ·have hex:exX ops b x m i=false:=JaN hbi hix (by omega) (λ h=>absurd h hxi) λ _ ht=>hlx (Bq hD.closed (BS _ _ _ ht) hdirect)
         obtain ⟨t,p,hop⟩:=Mr hq hmo
         obtain ⟨k,off,c0,cm,v,q1,q2,q3,q4,q5,q6,q7⟩:=hload i o t p hbi him hex ho hop
         obtain ⟨obs,ho2⟩:=grow (m-i) i hbi (by omega) (.inr (by omega))
         rw [show i+(m-i)=m by omega] at ho2
         have hki:k<(S i).objs.length:=by
          rw [hop] at he
          simp only [opA,hok t p hop,cond_true,q1,C0] at he
          split at he
          ·rename_i cells hcs;exact AT hcs
          ·cases he
         have q3':=q3
         rw [ho2,AJ,if_pos hki] at q3'
         have hev':=Ns (Γ:=Γ.ty) (t:=t) (a:=p) (ev:=λ y=>unG (Aj (S i).env y)) (hok t p hop) q1 q3' q5
         rw [hop,hev'] at he
         cases he
         exact (Cj hΓ.ty hS (λ _ _ h=>h) o (Fb hq).1 (ev:=λ y=>unG (Aj (S i).env y)) (e:=⟨v,[],[],none,off+(Γ.ty t).size<=c0.length⟩) (by rw [hop];exact Ns (hok t p hop) q1 q2 q4) q6 hevu).2
     obtain ⟨v,hv,hr⟩:=hrun
     refine DV (λ c hcd=>by rw [hcd] at hq;cases hq) ?_
     unfold Oper.wp
     rw [hv,Oper.upon_value]
     refine next v w F ρ (FLe.refl _) (RLe.refl _) hSn (λ d hd=>hput F ρ _ d hd ?_) (Mu.refl w)
     cases o.guard.isSome with
     | false=>exact hr
     | true=>exact .gvT _ _ hr
 obtain ⟨F,ρ,hS,hSl,hts,hdf⟩:=hI
 refine main (ops.size-b) _ a _ { size:=hs0,closed:=λ j oj hj hl e he hb=>?_,tsz:=hts,mu:=hdf.2.1,last:=λ j hj=>hl1 j (by omega),base:=hl0,ex:=⟨F,ρ,⟨hdf.2.2,hdf.1⟩,by rw [hl1 x hbx,h0];exact hS,λ t=>⟨λ i o hbi _ _ _ hl=>(by rw [hl1 i hbi] at hl;cases hl),λ _=>by rw [h0];exact hSl t⟩⟩ } ?_
 ·have hjb:j<b:=by
   rcases JmE j b with h|h
   ·exact h
   ·rw [hl1 j h] at hl;cases hl
  exact hl0 _ (Nat.lt_trans ((hops j oj hj).1 e he hb) hjb)
 ·have:∀ q,unl listed0 q=q-b:=by
   intro q
   induction q with
   | zero=>simp [unl]
   | succ q ihq=>
    simp only [unl]
    rw [ihq]
    rcases JmE q b with h|h
    ·rw [if_pos (hl0 q h)];omega
    ·rw [if_neg (by rw [hl1 q h];simp)];omega
  exact this _
theorem Yl {Γ:Cx} (hΓ:FG P Γ) (rd:Option Nat) (hqr:Γ.nt.qf≠[]->rd=none) (n:Nat) {ops:Array Oper} {Q:St->Prop} {Qw:Exit->Act->World->Prop} (hQ:∀ st' a' w',Q st'->Inv N H0 F0 w0 Γ.nt st' a' w'->Qw .normal a' w'):∀ (f b:Nat) (st:St) (a:Act) (w:World) (listed:Array Bool),phX Γ ops Q f b st->Inv N H0 F0 w0 Γ.nt st a w->listed.size=ops.size->(∀ k,k<b->listed.getD k false=true)->(∀ k,b<=k->listed.getD k false=false)->wpAnyIn (GF rd) n P .any ops Qw (ops.size-b) listed a w:=by
 have done:∀ (b:Nat) (st:St) (a:Act) (w:World) (listed:Array Bool),b=ops.size->Q st->Inv N H0 F0 w0 Γ.nt st a w->(∀ k,k<b->listed.getD k false=true)->wpAnyIn (GF rd) n P .any ops Qw (ops.size-b) listed a w:=by
  intro b st a w listed hb hq hI hl
  subst hb
  rw [Nat.sub_self]
  refine ⟨?_,hQ st a w hq hI⟩
  rw [List.eq_nil_iff_forall_not_mem]
  intro k hk
  obtain ⟨h1,o',ho',_⟩:=mem_ready.1 hk
  have hk':=Ap ho'
  have:=getD_both h1
  rw [hl k hk'] at this;cases this
 intro f
 induction f with
 | zero=>intro b st a w listed h hI hs h1 h2;exact done b st a w listed h.1 h.2 hI h1
 | succ f ih=>
  intro b st a w listed h hI hs h1 h2
  rcases h with h|⟨x,m,hbm,hB,h⟩
  ·exact done b st a w listed h.1 h.2 hI h1
  ·refine JaO hΓ rd hqr n hB h hI hs h1 h2 λ st' a' w' listed' fuel hq hI' q1 q2 q3 q4=>?_
   have:=ih (m+1) st' a' w' listed' hq hI' q1 q2 q3
   rwa [show ops.size-(m+1)=fuel by omega] at this
end Go.AI
end
section
namespace Go.AI
variable {P:Program} {N:Nat->Prop} {H0 F0:Nat->Option Obj} {w:World} {w0:W0}
theorem Ub {ops:Array Oper} {m:Nat} (h:Jam ops m=true):m<ops.size/\∀ (j:Nat) oj,ops[j]? = some oj->(∀ e∈oj.after.toList,Region.binds .any e=true->e.on<j)/\(∀ k b,oj.guard=some (k,b)->k<j)/\(m<j->FH ops j m)/\(m<=j->∀ i,i<m->FH ops j i):=by
 unfold Jam at h
 simp only [JmN] at h
 obtain ⟨h1,h2⟩:=h
 refine ⟨Jm1 h1,λ j oj hj=>?_⟩
 have hz:(oj,j)∈ops.toList.zipIdx:=by
  rw [List.mem_zipIdx_iff_getElem?]
  simpa using hj
 have h3:=Jmz.1 h2 _ hz
 simp only [JmN] at h3
 obtain ⟨⟨h3,h5⟩,h4⟩:=h3
 refine ⟨λ e he hb=>?_,λ k b hg=>?_,λ hm=>?_,λ hm i hi=>?_⟩
 ·have:=Array.all_eq_true_iff_forall_mem.1 h3 e (by simpa using he)
  rw [hb,JmC,Bool.false_or] at this
  exact of_decide_eq_true this
 ·rw [hg] at h5
  exact of_decide_eq_true h5
 all_goals
  have hlt:Nat.blt j m=false:=by
   cases hb:Nat.blt j m with
   | false=>rfl
   | true=>have:=Jm1 hb;omega
  rw [hlt,Bool.false_or,JmN] at h4
 ·rcases Jm4 _ _▸h4.1 with h|h
  ·have:=JmT h;omega
  ·exact BS _ _ _ h
 ·exact BS _ _ _ (Jmz.1 h4.2 i (List.mem_range.2 hi))
theorem JaP {F:Fence} {n:Nat} {o:Oper} {a:Act} {K:Act->World->Prop} {Q Q':Exit->Act->World->Prop} (hq:∀ e a w,Q e a w->e=.normal) (h:o.wpIn F n P a w K Q):o.wpIn F n P a w K Q':=by
 have hL:¬LetsOut Q:=by
  rintro ⟨a,w,h⟩
  cases hq _ _ _ h
 unfold Oper.wpIn at h ⊢
 refine ⟨h.1,?_⟩
 have hh:=h.2
 clear h
 generalize (o.semAt F.round a.eval).run P w=r at hh
 cases r with
 | ok x w'=>
  cases x<;>simp only [Oper.uponIn] at hh ⊢ <;>
   first
    | exact hh
    | exact ⟨hh.1,CallsIn.mono hh.2 (λ e w'' he=>by cases e<;>first|exact he|exact absurd he hL|(have:=hq _ _ _ he;cases this))⟩
    | exact ⟨hh.1,RoundIn.mono hh.2 (λ e w'' he=>by cases e<;>first|exact he|exact absurd he hL|(have:=hq _ _ _ he;cases this))⟩
 | halt x w'=>cases x<;>simp only [Oper.uponIn] at hh ⊢<;>first|exact hh|(have:=hq _ _ _ hh;cases this)
theorem Rp {ops:Array Oper} {m i:Nat} (hi:i<m):(ops.toList.take m).toArray[i]? = ops[i]? := by
 rw [List.getElem?_toArray,Jm5 hi,Array.getElem?_toList]
theorem Jgn {F:Fence} {n:Nat} {ops:Array Oper} {m:Nat} (hB:Jam ops m=true) {Q Q':Exit->Act->World->Prop} (hq:∀ e a w,Q e a w->e=.normal)
  (hk:∀ a' w' (listed':Array Bool),Q .normal a' w'->listed'.size=ops.size->(∀ k,k<m->listed'.getD k false=true)->(∀ k,m<=k->listed'.getD k false=false)->wpAnyIn F n P .any ops Q' (ops.size-m) listed' a' w') :
  ∀ (f:Nat) (listed ls:Array Bool) (a:Act) (w:World),listed.size=ops.size->ls.size=m->(∀ k,k<m->ls.getD k false=listed.getD k false)->(∀ k,m<=k->listed.getD k false=false) ->
   (∀ (j:Nat) oj,ops[j]? = some oj->listed.getD j false=true->∀ e∈oj.after.toList,Region.binds .any e=true->listed.getD e.on false=true)->unl listed m=f ->
   wpAnyIn F n P .any (ops.toList.take m).toArray Q f ls a w->wpAnyIn F n P .any ops Q' (f+(ops.size-m)) listed a w:=by
 obtain ⟨hm,hop⟩:=Ub hB
 have hgT:∀ (l:Array Bool) (k:Nat),k<l.size->l.getD k true=l.getD k false:=λ l k hk=>by
  rw [JmS,JmS,JmR hk];rfl
 intro f
 induction f with
 | zero=>
  intro listed ls a w h1 h2 h3 h4 h5 h6 h
  rw [Jm0]
  exact hk a w listed h.2 h1 (Nn m h6) h4
 | succ f ih=>
  intro listed ls a w h1 h2 h3 h4 h5 h6 h
  have hex:∃ k,k<m/\listed.getD k false=false/\∀ i,i<k->listed.getD i false=true:=by
   refine Classical.byContradiction λ hn=>?_
   have hall:∀ k,k<m->listed.getD k false=true:=by
    intro k
    induction k using Nat.strongRecOn with
    | _ k ihk=>
     intro hkm
     cases hl:listed.getD k false with
     | true=>rfl
     | false=>exact absurd ⟨k,hkm,hl,λ i hi=>ihk i hi (by omega)⟩ hn
   have:∀ n,n<=m->unl listed n=0:=by
    intro n
    induction n with
    | zero=>intro _;rfl
    | succ n ihn=>intro hn;simp only [unl];rw [ihn (by omega),if_pos (hall n (by omega))]
   rw [this m (JmD _)] at h6
   omega
  obtain ⟨k0,hk0,hkl,hkb⟩:=hex
  show wpAnyIn F n P .any ops Q' (f+1+(ops.size-m)) listed a w
  rw [show f+1+(ops.size-m)=(f+(ops.size-m))+1 by omega]
  refine ⟨λ hr=>?_,λ i hi=>?_⟩
  ·have hg0:=JmR (show k0<ops.size by omega)
   have:k0∈Region.ready .any ops listed:=mem_ready.2 ⟨by rw [hgT _ _ (by omega)];exact hkl,_,hg0,λ e he hb=>hkb _ ((hop k0 _ hg0).1 e (by simpa using he) hb)⟩
   rw [hr] at this
   cases this
  ·obtain ⟨r1,oi,r2,r3⟩:=mem_ready.1 hi
   have hisz:=Ap r2
   rw [hgT _ _ (by omega)] at r1
   have him:i<m:=by
    refine Classical.byContradiction λ hge=>?_
    have:=Bq h5 ((hop i oi r2).2.2.2 (by omega) k0 hk0) λ k hkw=>by
     obtain ⟨ok,hok,e,he,hb,hon⟩:=Region.waitsFor_spec hkw
     rw [r2] at hok;cases hok
     rw [← hon]
     exact r3 e he hb
    rw [hkl] at this;cases this
   have hsub:(ops.toList.take m).toArray.size=m:=by simp;omega
   have hi':i∈Region.ready .any (ops.toList.take m).toArray ls:=mem_ready.2 ⟨by rw [hgT _ _ (by omega),h3 i him];exact r1,oi,by rw [Rp him];exact r2,λ e he hb=>by
    rw [h3 _ (Nat.lt_trans ((hop i oi r2).1 e (by simpa using he) hb) him)];exact r3 e he hb⟩
   have hw:=h.2 i hi'
   have hK:∀ a w,wpAnyIn F n P .any (ops.toList.take m).toArray Q f (ls.setIfInBounds i true) a w->wpAnyIn F n P .any ops Q' (f+(ops.size-m)) (listed.setIfInBounds i true) a w:=by
    intro a w hh
    have hne:∀ (l:Array Bool) (k:Nat),k≠i->(l.setIfInBounds i true).getD k false=l.getD k false:=λ l k hk=>by
     rw [JmS,JmS,JmF (Ne.symm hk)]
    have heq:∀ (l:Array Bool),i<l.size->(l.setIfInBounds i true).getD i false=true:=λ l hl=>by simp [hl]
    refine ih _ _ a w (by simpa using h1) (by simpa using h2) (λ k hk=>?_) (λ k hk=>?_) (λ j oj hj hl e he hb=>?_) ?_ hh
    ·by_cases e:k=i
     ·subst e;rw [heq _ (by omega),heq _ (by omega)]
     ·rw [hne _ _ e,hne _ _ e];exact h3 k hk
    ·rw [hne _ _ (by omega)];exact h4 k hk
    ·have hlt:=(hop j oj hj).1 e he hb
     by_cases e2:e.on=i
     ·rw [e2];exact heq _ (by omega)
     ·rw [hne _ _ e2]
      by_cases e1:j=i
      ·subst e1
       rw [r2] at hj;cases hj
       exact r3 e (by simpa using he) hb
      ·rw [hne _ _ e1] at hl
       exact h5 j oj hj hl e he hb
    ·have:=Qx (l:=listed) (i:=i) (by omega) r1 m him
     omega
   unfold wpOpIn at hw ⊢
   rw [Rp him,r2] at hw
   rw [r2]
   simp only at hw ⊢
   have hy:Region.wanted oi (yielded (ops.toList.take m).toArray a.tmps)=Region.wanted oi (yielded ops a.tmps):=by
    unfold Region.wanted
    cases hg:oi.guard with
    | none=>rfl
    | some q=>
     obtain ⟨k,b⟩:=q
     have hkm:=(hop i oi r2).2.1 k b hg
     simp only [yielded,Rp (ops:=ops) (show k<m by omega)]
   rw [hy] at hw
   split
   ·rename_i hyes
    rw [if_pos hyes] at hw
    exact Oper.wpIn_mono hK (JaP hq hw)
   ·rename_i hyes
    rw [if_neg hyes] at hw
    exact ⟨hw.1,hK _ _ hw.2⟩
theorem JaQ {Γ:Cx} (hΓ:FG P Γ) (rd:Option Nat) (hqr:Γ.nt.qf≠[]->rd=none) (n:Nat) {ops:Array Oper} {Q:St->Prop} {st:St} {a:Act} (h:Jkh Γ ops Q st) (hI:Inv N H0 F0 w0 Γ.nt st a w)
  {Qw:Exit->Act->World->Prop} (hQ:∀ st' a' w',Q st'->Inv N H0 F0 w0 Γ.nt st' a' w'->Qw .normal a' w'):wpAnyIn (GF rd) n P .any ops Qw ops.size (Array.replicate ops.size false) a { w with drawn:=w.drawn+1 }:=by
 have hz:∀ k,(Array.replicate ops.size false).getD k false=false:=λ k=>getD_replicate_false _ _
 rcases h with ⟨f,h⟩|⟨f,m,hB,h⟩
 ·obtain ⟨F,ρ,hS,hSl,hts,hdf⟩:=hI
  exact Yl hΓ rd hqr n hQ f 0 st a _ _ h ⟨F,ρ,hS,hSl,hts,hdf.1,hdf.2.1.draw,hdf.2.2⟩ (by simp) (λ k hk=>by omega) (λ k _=>hz k)
 ·have hm:=(Ub hB).1
  have hsub:(ops.toList.take m).toArray.size=m:=by simp;omega
  have hnd:∀ o∈(ops.toList.take m).toArray.toList,ndB o.op=true:=by
   obtain ⟨S,_,_,hQS⟩:=E8 _ _ _ h
   exact (QM hQS.1).2
  let Q1:St->Prop:=λ s=>∃ F,ops[m]? = some F/\AP Γ false ops.toList F (λ s'=>phX Γ ops Q f (m+1) s') s
  let QW:Exit->Act->World->Prop:=λ e a' w'=>e=.normal/\∃ st',Q1 st'/\Inv N H0 F0 w0 Γ.nt st' a' w'
  have hL:¬LetsOut QW:=by
   rintro ⟨a,w,h,_⟩
   cases h
  have main:wpAny P .any (ops.toList.take m).toArray QW m (Array.replicate m false) a { w with drawn:=w.drawn+1 }:=by
   cases hd:Na (ops.toList.take m).toArray with
   | true=>
    have:=Rc (Q:=λ s=>Ke true (ops.toList.take m).toArray st.env s.env=true/\Q1 s) hΓ hd h hI (Qw:=QW) λ st' a' w' hq hI'=>⟨rfl,st',hq.2,hI'⟩
    rwa [hsub] at this
   | false=>
    have:=PL hΓ hd h hI (Qw:=QW) λ st' a' w' hq hI'=>⟨rfl,st',hq,hI'⟩
    rwa [hsub] at this
  have hin:=Q5 (r:=rd) (n:=n) hL hnd _ _ _ _ main
  have hlen:∀ n,unl (Array.replicate ops.size false) n=n:=by
   intro n
   induction n with
   | zero=>rfl
   | succ n ih=>simp only [unl,ih,hz];rfl
  have:=Jgn (F:=GF rd) (n:=n) (P:=P) (ops:=ops) (m:=m) hB (Q:=QW) (Q':=Qw) (λ e a w h=>h.1) (λ a' w' listed' hq q1 q2 q3=>?_) m (Array.replicate ops.size false) (Array.replicate m false) a _ (by simp) (by simp) (λ k hk=>by rw [hz];exact getD_replicate_false _ _) (λ k _=>hz k) (λ j oj _ hl=>by rw [hz] at hl;cases hl) (hlen m) hin
  ·rwa [show m+(ops.size-m)=ops.size by omega] at this
  ·have hq:Exit.normal=Exit.normal/\∃ st',(∃ F,ops[m]? = some F/\AP Γ false ops.toList F (λ s'=>phX Γ ops Q f (m+1) s') st')/\Inv N H0 F0 w0 Γ.nt st' a' w':=hq
   obtain ⟨_,st',⟨Fo,hF,hst⟩,hI'⟩:=hq
   obtain ⟨_,hop⟩:=Ub hB
   have hgT:∀ (l:Array Bool) (k:Nat),k<l.size->l.getD k true=l.getD k false:=λ l k hk=>by
    rw [JmS,JmS,JmR hk];rfl
   have hmr:m∈Region.ready .any ops listed':=mem_ready.2 ⟨by rw [hgT _ _ (by omega)];exact q3 m (JmD _),Fo,hF,λ e he hb=>q2 _ ((hop m Fo hF).1 e (by simpa using he) hb)⟩
   have hro:∀ i∈Region.ready .any ops listed',i=m:=by
    intro i hi
    obtain ⟨r1,oi,r2,r3⟩:=mem_ready.1 hi
    have hisz:=Ap r2
    rw [hgT _ _ (by omega)] at r1
    rcases Nat.lt_trichotomy i m with hlt|rfl|hgt
    ·rw [q2 i hlt] at r1;cases r1
    ·rfl
    ·have hcl:∀ (j:Nat) oj,ops[j]? = some oj->listed'.getD j false=true->∀ e∈oj.after.toList,Region.binds .any e=true->listed'.getD e.on false=true:=λ j oj hj hl e he hb=>by
      rcases JmE j m with h|h
      ·exact q2 _ (Nat.lt_trans ((hop j oj hj).1 e he hb) h)
      ·rw [q3 j h] at hl;cases hl
     have:=Bq hcl ((hop i oi r2).2.2.1 hgt) λ k hkw=>by
      obtain ⟨ok,hok,e,he,hb,hon⟩:=Region.waitsFor_spec hkw
      rw [r2] at hok;cases hok
      rw [← hon]
      exact r3 e he hb
     rw [q3 m (JmD _)] at this;cases this
   obtain ⟨k,hk⟩:∃ k,ops.size-m=k+1:=⟨ops.size-m-1,by omega⟩
   rw [hk]
   refine ⟨λ hr=>by (rw [hr] at hmr;cases hmr),λ i hi=>?_⟩
   have:=hro i hi
   subst this
   unfold wpOpIn
   rw [hF]
   simp only
   have hne:∀ (l:Array Bool) (k:Nat),k≠i->(l.setIfInBounds i true).getD k false=l.getD k false:=λ l k hk=>by
    rw [JmS,JmS,JmF (Ne.symm hk)]
   have hstep:=Q7 hΓ rd hqr n (all:=ops) hst hI' (K:=λ a w=>wpAnyIn (GF rd) n P .any ops Qw k (listed'.setIfInBounds i true) a w) (Qw:=Qw) λ s2 a2 w2 hq2 hI2=>by
    have:=Yl hΓ rd hqr n hQ f (i+1) s2 a2 w2 (listed'.setIfInBounds i true) hq2 hI2 (by simpa using q1) (λ q hq=>by
     by_cases e:q=i
     ·subst e;simp;omega
     ·rw [hne _ _ e];exact q2 q (by omega)) (λ q hq=>by rw [hne _ _ (by omega)];exact q3 q (by omega))
    rwa [show ops.size-(i+1)=k by omega] at this
   exact hstep
end Go.AI
end
section
namespace Go.AI
variable {P:Program} {F F':Nat->Option Obj} {ρ ρ':Nat->Option Loc} {N:Nat->Prop} {H0 F0:Nat->Option Obj} {O objs:List (Option Ob)} {w:World} {w0:W0}
theorem VW {Γ:Cx} (hfol:P.follows .mixedOrders=true) (hΓ:FG P Γ) {rd:Option Nat} (hrd:Γ.rd=rd.isSome):∀ (c:Code) (Q:Ex->St->Prop) (st:St) (a:Act) (w:World),wpA Γ c Q st->Inv N H0 F0 w0 Γ.nt st a w->c.wpIn (GF rd) 0 P (PM N H0 F0 w0 Γ.nt Q) a w:=by
 have hqr:Γ.nt.qf≠[]->rd=none:=λ hne=>by
  cases rd with
  | none=>rfl
  | some r=>exact absurd (hΓ.rq hrd) hne
 intro c
 induction c with
 | skip=>intro Q st a w h hI;exact wpIn_skip ⟨.normal,st,rfl,h,hI⟩
 | region id ops draw=>
  intro Q st a w h hI
  obtain ⟨s1,hsh,h|⟨hdr,h⟩|⟨hdr,h⟩⟩:=h
  rotate_left
  ·subst hdr
   exact wpIn_region_any hfol (JaQ hΓ rd hqr 0 h (CM rfl hsh hI) λ st' a' w' hq hI'=>⟨.normal,st',rfl,hq,hI'⟩)
  ·subst hdr
   exact wpIn_region_list (JaB hΓ rd hqr 0 h (CM rfl hsh hI) λ st' a' w' hq hI'=>⟨.normal,st',rfl,hq,hI'⟩)
  replace hI:=CM rfl hsh hI
  cases draw with
  | false=>exact wpIn_region_list (Yh hΓ rd hqr 0 ops.toList _ s1 a w h hI λ st' a' w' hq hI'=>⟨.normal,st',rfl,hq.2,hI'⟩)
  | true=>
   have hnd:∀ o∈ops.toList,ndB o.op=true:=by
    obtain ⟨S,_,_,hQS⟩:=E8 _ _ _ h
    exact (QM hQS.1).2
   have hQ:¬LetsOut (PM N H0 F0 w0 Γ.nt Q):=by
    rintro ⟨a,w,e',st',h1,_⟩
    cases e'<;>cases h1
   refine wpIn_region_any hfol (Q5 hQ hnd _ _ _ _ ?_)
   cases hB:Na ops with
   | true=>exact Rc (Q:=λ s=>Ke true ops s1.env s.env=true/\Q .normal s) hΓ hB h hI λ st' a' w' hq hI'=>⟨.normal,st',rfl,hq.2,hI'⟩
   | false=>exact PL hΓ hB h hI λ st' a' w' hq hI'=>⟨.normal,st',rfl,hq,hI'⟩
 | seq x y ihx ihy=>
  intro Q st a w h hI
  refine wpIn_seq (wpIn_mono (ihx _ st a w h hI) λ e a' w' hp=>?_)
  obtain ⟨e',st',rfl,hq,hI'⟩:=hp
  cases e' with
  | normal=>
   obtain ⟨s1,hsh,hq⟩:=hq
   exact ihy Q s1 a' w' hq (CM rfl hsh hI')
  | exit i=>exact ⟨.exit i,st',rfl,hq,hI'⟩
  | ret=>exact ⟨.ret,st',rfl,hq,hI'⟩
 | cond c x y ihx ihy=>
  intro Q st a w h hI
  obtain ⟨F,ρ,hS,hSl,hn,hdf⟩:=hI
  simp only [wpA] at h
  unfold X9 at h
  split at h
  ·rename_i t ht
   have hc:=AY hSl c
   rw [ht] at hc
   refine wpIn_cond_split hc.bool (λ e=>ihx Q st a w (h.1 e) ⟨F,ρ,hS,hSl,hn,hdf⟩) (λ e=>ihy Q st a w (h.2 e) ⟨F,ρ,hS,hSl,hn,hdf⟩)
  ·exact h.elim
 | block id c ih=>
  intro Q st a w h hI
  refine wpIn_block (wpIn_mono (ih _ st a w h hI) λ e a' w' hp=>?_)
  obtain ⟨e',st',rfl,hq,hI'⟩:=hp
  cases e' with
  | normal=>exact ⟨.normal,st',rfl,hq,hI'⟩
  | ret=>exact ⟨.ret,st',rfl,hq,hI'⟩
  | exit i=>
   simp only [I7] at hq
   show if i=id then _ else _
   cases hb:Nat.beq i id with
   | true=>
    rw [hb,cond_true] at hq
    rw [if_pos (JmT hb)]
    exact ⟨.normal,st',rfl,hq,hI'⟩
   | false=>
    rw [hb,cond_false] at hq
    have hne:i≠id:=λ e=>by subst e;simp at hb
    rw [if_neg hne]
    exact ⟨.exit i,st',rfl,hq,hI'⟩
 | loop c ih=>
  intro Q st a w h hI
  obtain ⟨I,n,⟨s0,hsh0,h0⟩,hround⟩:=h
  have key:∀ (k m:Nat) (st:St) (a:Act) (w:World),m<k->I m st->Inv N H0 F0 w0 Γ.nt st a w->Code.roundsIn (GF rd) 0 P c (PM N H0 F0 w0 Γ.nt Q) k a w:=by
   intro k
   induction k with
   | zero=>intro m st a w hm;omega
   | succ k ihk=>
    intro m st a w hm hIm hI
    refine wpIn_mono (ih _ st a w (hround m st hIm) hI) λ e a' w' hp=>?_
    obtain ⟨e',st',rfl,hq,hI'⟩:=hp
    cases e' with
    | normal=>
     obtain ⟨m',s1,hm',hsh,hq⟩:=hq
     exact ihk m' s1 a' w' (by omega) hq (CM rfl hsh hI')
    | exit i=>exact ⟨.exit i,st',rfl,hq,hI'⟩
    | ret=>exact ⟨.ret,st',rfl,hq,hI'⟩
  exact wpIn_loop_rounds (n+1) (key (n+1) n s0 a w (by omega) h0 (CM rfl hsh0 hI))
 | exit id=>intro Q st a w h hI;exact wpIn_exit ⟨.exit id,st,rfl,h,hI⟩
 | ret=>intro Q st a w h hI;exact wpIn_ret ⟨.ret,st,rfl,h,hI⟩
 | scope c ih=>
  intro Q st a w h hI
  refine LA (wpIn_mono (ih Q st a w h hI) λ e a' w' hp=>?_)
  obtain ⟨e',st',rfl,hq,hI'⟩:=hp
  cases e'<;>exact ⟨_,st',rfl,hq,hI'⟩
 | label l=>intro Q st a w h hI;exact wpIn_label ⟨.normal,st,rfl,h,hI⟩
 | rangeFunc g ps asg body=>
  intro Q st a w h hI
  obtain ⟨s1,hsh,h⟩:=h
  rcases h with h|h
  ·exact VV hΓ hrd h (CM rfl hsh hI)
  ·exact Ua hΓ hrd h (CM rfl hsh hI)
 | _=>intro Q st a w h;exact h.elim
def Zs (Γ:Nat->Ty) (st:St):ResultVar->Option (AV×Prop)
 | .tmp t=>some (lkA st.env t,True)
 | .cell a t=>bif (Γ t).ok then (match C0 (Γ t) st.objs (lkA st.env a) with
  | some e=>some (e.v,e.ob)
  | none=>none) else none
def Rq (Γ:Nat->Ty) (st:St):List ResultVar->Option (List AV×Prop)
 | []=>some ([],True)
 | r::rs=>match Zs Γ st r,Rq Γ st rs with
  | some (v,p),some (vs,q)=>some (v::vs,p/\q)
  | _,_=>none
def VX (Γ:Nat->Ty) (rs:List ResultVar) (r:AV) (st:St):Prop:=
 match Rq Γ st rs with
 | some ([v],p)=>p/\Rf st.objs v r/\(ksE (LC v r)).Nodup
 | some (vs,p)=>match r with
  | .tup l=>p/\Xj st.objs vs l/\(ksE (LD vs l)).Nodup
  | _=>False
 | none=>False
def VY (Γ:Nat->Ty) (rs:List ResultVar) (r:AV):Ex->St->Prop
 | .exit _,_=>False
 | _,st=>VX Γ rs r st
def Zt (tmps:Array Value):ResultVar->Sem Value
 | .tmp t=>pure (tmps.getD t undef)
 | .cell a t=>do loadVar t (← asAddr (tmps.getD a undef))
theorem Rr (fn:Func) (tmps:Array Value):results fn tmps=(do let vs ← fn.results.mapM (Zt tmps);pure (if h:vs.size=1 then vs[0] else .tuple vs)):=by
 rfl
theorem Xu {Γ:Nat->Ty} (hΓ:I8 P Γ) {st:St} {tmps:Array Value} (hS:Sim N H0 F0 F ρ st.objs w.heap) (hSl:BP F ρ st.env tmps) {r:ResultVar} {v:AV} {p:Prop} (h:Zs Γ st r=some (v,p)) (hp:p) :
  ∃ x,(Zt tmps r).run P w=.ok x w/\Ah F ρ v x:=by
 cases r with
 | tmp t=>simp only [Zs,JmX,Prod.mk.injEq] at h;obtain ⟨rfl,rfl⟩:=h;exact ⟨_,rfl,hSl t⟩
 | cell a t=>
  simp only [Zs] at h
  cases hok:(Γ t).ok with
  | false=>rw [hok] at h;cases h
  | true=>
   rw [hok,cond_true] at h
   split at h
   ·rename_i e he
    simp only [JmX,Prod.mk.injEq] at h
    obtain ⟨rfl,rfl⟩:=h
    obtain ⟨_,_,_,x,hx,hr⟩:=Px (hΓ t hok) hS (λ _ _ h=>h) he hp (hSl a)
    refine ⟨x,?_,hr⟩
    simp only [Instr.loadAt,Zt,Jmw] at hx ⊢
    cases hv:tmps.getD a undef with
    | pointer q=>
     cases q with
     | none=>rw [hv] at hx;simp [Instr.sureAddr] at hx
     | some q=>rw [hv] at hx;simpa [Instr.sureAddr,asAddr] using hx
    | _=>rw [hv] at hx;simp [Instr.sureAddr] at hx
   ·cases h
theorem Hx {Γ:Nat->Ty} (hΓ:I8 P Γ) {st:St} {tmps:Array Value} (hS:Sim N H0 F0 F ρ st.objs w.heap) (hSl:BP F ρ st.env tmps):∀ (rs:List ResultVar) (vs:List AV) (p:Prop),Rq Γ st rs=some (vs,p)->p ->
  ∃ xs:List Value,(rs.mapM (Zt tmps)).run P w=.ok xs w/\CR F ρ vs xs:=by
 intro rs
 induction rs with
 | nil=>intro vs p h _;cases h;exact ⟨[],rfl,rfl,λ i a v ha=>by simp at ha⟩
 | cons r rs ih=>
  intro vs p h hp
  simp only [Rq] at h
  split at h
  ·rename_i v p1 vs' q h1 h2
   cases h
   obtain ⟨x,hx,hr⟩:=Xu hΓ hS hSl h1 hp.1
   obtain ⟨xs,hxs,hc⟩:=ih vs' q h2 hp.2
   refine ⟨x::xs,?_,by simp [hc.1],λ i a u ha hu=>?_⟩
   ·rw [List.mapM_cons]
    simp only [Jmw,hx,Jmu,hxs,Jmx]
   ·cases i with
    | zero=>simp at ha hu;subst ha;subst hu;exact hr
    | succ i=>exact hc.2 i a u (by simpa using ha) (by simpa using hu)
  ·cases h
theorem Zu {Γ:Cx} (hfol:P.follows .mixedOrders=true) (hΓ:FG P Γ) (hrd:Γ.rd=false) {f:FuncId} {fn:Func} {c:Code} {args:List AV} {r:AV} (hf:P.funcs[f]? = some fn) (hb:fn.body=some c) (hnm:(fn.name == "runtime.NumGoroutine")=false)
  (hnt:Γ.nt.n=fn.ntmps) (hlen:args.length<=fn.ntmps) (h:wpA Γ c (VY Γ.ty fn.results.toList r) ⟨(List.range args.length).zip args,[]⟩):Aq P f args r:=by
 refine ⟨⟨fn,c,hf,hb,hnm⟩,λ F w vs hvs hF=>?_⟩
 have hvl:args.length=vs.size:=by have:=hvs.1;simpa using this
 refine callsIn_wide.1 (callsIn_of_wp_marks (F:=Fence.wide) (n:=0) hf hb trivial ?_ rfl)
 have hS:Sim (λ b=>w.heap.size<=b) (λ b=>w.heap[b]?) F F noR [] w.heap:={ size:=λ b hb=>hb,old:=λ b _=>rfl,f0:=FLe.refl _,fnew:=λ b o h _=>h,frz:=hF,loc:=λ k L h=>by simp [noR] at h,dom:=λ k L h=>by simp [noR] at h,obj:=λ k L ob h=>by simp [noR] at h,sep:=λ k k' L L' ob ob' h=>by simp [noR] at h,inn:=⟨λ _ _=>none,⟨(λ k c M h=>by cases h),(λ k c M k' L ob h=>by cases h),(λ k c M k' c' M' h=>by cases h),(λ k L sz es h=>by simp [noR] at h)⟩⟩ }
 have hSl:BP F noR ((List.range args.length).zip args) (vs++Array.replicate (fn.ntmps-vs.size) undef):=by
  intro t
  rcases TV (List.range args.length) args t (by simp) with h|⟨i,a,h1,h2,h3⟩
  ·rw [h];exact .top _
  ·rw [h3]
   have hi:=Ad h2
   have:i=t:=by
    rw [List.getElem?_range hi] at h1
    exact Option.some.inj h1
   subst this
   have hv:vs[i]? = some vs[i]:=JmR (by omega)
   have:(vs++Array.replicate (fn.ntmps-vs.size) undef).getD i undef=vs[i]:=by
    rw [JmS,Array.getElem?_append_left (by omega),hv];rfl
   rw [this]
   exact hvs.2 i a _ h2 (by simp)
 refine wpIn_mono (VW (rd:=none) (hrd:=hrd) (w0:=⟨w,λ _=>none,λ _=>none⟩) hfol hΓ c _ _ _ w h ⟨F,noR,hS,hSl,⟨by simp [hnt];omega,λ t v h=>by cases h⟩,Dfr.nil,Mu.refl w,λ j L h=>by cases h⟩) λ e a' w' hp=>?_
 obtain ⟨e',st',rfl,hq,F',ρ',hS',hSl',hn',hdf'⟩:=hp
 obtain ⟨l,hl1,hl2,hl3⟩:=hdf'.1
 have hF0:∀ b,w.heap.size<=b->F b=none:=λ b hb=>by
  cases hf:F b with
  | none=>rfl
  | some o=>have:=Ap (hF b o hf);omega
 have fin:VX Γ.ty fn.results.toList r st'->LeavesInM Fence.wide 0 P fn a'.tmps (λ e w'=>∃ v F' ρ,e=.returned v/\Sim (λ b=>w.heap.size<=b) (λ b=>w.heap[b]?) F F' ρ ((BB true 0 r).2.map some) w'.heap/\Ah F' ρ (BB true 0 r).1 v/\Mu w w') a'.defers .returning w':=by
  intro hr
  refine PN (w0:=⟨w,λ _=>none,λ _=>none⟩) hΓ.qf (λ b hb=>hb) hF0 hl1 F' w' hl2 hl3 hS' λ F'' w'' hFc hS'' hmu''=>?_
  replace hSl':BP F'' ρ' st'.env a'.tmps:=λ t=>(hSl' t).monoC hFc (RLe.refl _)
  have hmu:Mu w w'':=hdf'.2.1.trans hmu''
  clear hS' hl3
  revert hS'' hSl'
  generalize F''=F'
  generalize w''=w' at hmu ⊢
  intro hS' hSl'
  unfold VX at hr
  have hmap:∀ (xs:List Value),(fn.results.toList.mapM (Zt a'.tmps)).run P w'=.ok xs w'->(results fn a'.tmps).run P w'=.ok (if h:xs.toArray.size=1 then xs.toArray[0] else .tuple xs.toArray) w':=by
   intro xs hxs
   rw [Rr,Array.mapM_eq_mapM_toList]
   simp only [Jmw,Sem.run_map,hxs,Jmu,Jmx]
  split at hr
  ·rename_i v p hres
   obtain ⟨hp,ho,hnd⟩:=hr
   obtain ⟨xs,hxs,hcr⟩:=Hx hΓ.ty hS' hSl' _ _ _ hres hp
   match xs,hcr.1 with
   | [x],_=>
    obtain ⟨g1,g2⟩:=T1 ho 0
    refine ⟨x,by rw [hmap _ hxs];rfl,x,F',FY ρ' (LC v r),rfl,?_,?_⟩
    ·have hi:(BB true 0 r).2=(BI true 0 r).2:=by
      cases r with
      | tup l=>
       cases v<;>simp [Rf,LB] at ho
       all_goals (rename_i y;cases y<;>simp at ho)
      | _=>rfl
     rw [hi]
     exact hS'.out (by rw [g1]) hnd g2
    ·have hi:(BB true 0 r).1=(BI true 0 r).1:=by
      cases r with
      | tup l=>
       cases v<;>simp [Rf,LB] at ho
       all_goals (rename_i y;cases y<;>simp at ho)
      | _=>rfl
     rw [hi]
     exact ⟨VP ho (λ j x hx=>by rw [Jm0];exact hx) (hcr.2 0 v x rfl rfl),hmu⟩
  ·rename_i vs' p hne hres
   split at hr
   ·rename_i l
    obtain ⟨hp,ho,hnd⟩:=hr
    obtain ⟨xs,hxs,hcr⟩:=Hx hΓ.ty hS' hSl' _ _ _ hres hp
    obtain ⟨g1,g2⟩:=Jc9 vs' l 0 ho
    have hne1:xs.toArray.size≠1:=by
     intro h1
     have:vs'.length=1:=by rw [hcr.1];simpa using h1
     match vs',this with
     | [y],_=>exact hne y rfl
    refine ⟨.tuple xs.toArray,by rw [hmap _ hxs,dif_neg hne1],_,F',FY ρ' (LD vs' l),rfl,hS'.out (by rw [g1];rfl) hnd g2,?_⟩
    have:=JaG (F:=F') (ρ:=ρ') (E:=LD vs' l) vs' l 0 xs ho (λ j x hx=>by rw [Jm0];exact hx) hcr
    exact ⟨.tup _ _ (by have:=this.1;simpa using this) λ j a v ha hv=>this.2 j a v ha (by simpa using hv),hmu⟩
   ·exact hr.elim
  ·exact hr.elim
 cases e' with
 | normal=>exact fin hq
 | ret=>exact fin hq
 | exit i=>exact hq.elim
def Jdg (Γ:Nat->Ty) (rs:List ResultVar) (r:AV) (objs1:List (Option Ob)) (st:St):Prop:=
 st.objs=objs1/\match Rq Γ st rs with
  | some ([v],p)=>p/\v=r
  | some (vs,p)=>p/\r=.tup vs
  | none=>False
def VZ (nk:Nat) (Γ:Nat->Ty) (rs:List ResultVar) (r:AV) (objs1:List (Option Ob)):Ex->St->Prop
 | .exit _,_=>False
 | _,st=>∃ s',AR nk st s'/\Jdg Γ rs r objs1 s'
def Jkk (nk:Nat) (Γ:Nat->Ty) (rs:List ResultVar) (R:AV->List (Option Ob)->Prop):Ex->St->Prop
 | .exit _,_=>False
 | _,st=>∃ s',AR nk st s'/\∃ r objs1,R r objs1/\Jdg Γ rs r objs1 s'
theorem Xv {Q:Ex->St->Prop} {Γ:Cx} (hfol:P.follows .mixedOrders=true) (hΓ:FG P Γ) (hrd:Γ.rd=false) {f:FuncId} {fn:Func} {c:Code} {args:List AV} {objs:List (Option Ob)} {nb:Nat} {R:AV->List (Option Ob)->Prop} (hf:P.funcs[f]? = some fn) (hb:fn.body=some c) (hnm:(fn.name == "runtime.NumGoroutine")=false)
  (hnt:Γ.nt=⟨fn.ntmps,[],nb,Γ.nt.qf⟩) (hlen:args.length<=fn.ntmps)
  (hQ:∀ e s,Q e s->Jkk nb Γ.ty fn.results.toList R e s) (h:wpA Γ c Q ⟨(List.range args.length).zip args,objs⟩):Hu P f args objs nb R:=by
 refine ⟨⟨fn,c,hf,hb,hnm⟩,λ N F ρ w vs hS hvs=>?_⟩
 have hvl:args.length=vs.size:=by have:=hvs.1;simpa using this
 refine callsIn_wide.1 (callsIn_of_wp_marks (F:=Fence.wide) (n:=0) hf hb trivial ?_ rfl)
 have hget:∀ i,i<vs.size->(vs++Array.replicate (fn.ntmps-vs.size) undef)[i]? = vs[i]? := λ i hi=>Array.getElem?_append_left hi
 have hSl:BP F ρ ((List.range args.length).zip args) (vs++Array.replicate (fn.ntmps-vs.size) undef):=by
  intro t
  rcases TV (List.range args.length) args t (by simp) with h|⟨i,a,h1,h2,h3⟩
  ·rw [h];exact .top _
  ·rw [h3]
   have hi:=Ad h2
   have:i=t:=by
    rw [List.getElem?_range hi] at h1
    exact Option.some.inj h1
   subst this
   have hv:vs[i]? = some vs[i]:=JmR (by omega)
   rw [JmS,hget i (by omega),hv]
   exact hvs.2 i a _ h2 (by simp)
 have hts:TS Γ.nt (λ _=>none) (vs++Array.replicate (fn.ntmps-vs.size) undef):=by
  rw [hnt]
  exact ⟨by simp;omega,λ t v ht=>by cases ht⟩
 have hrk:RK ⟨w,λ _=>none,λ j=>if j<nb then ρ j else none⟩ Γ.nt ρ:=λ j L hj=>by
  simp only at hj
  split at hj
  ·rename_i hlt;exact ⟨by rw [hnt];exact hlt,hj⟩
  ·cases hj
 refine wpIn_mono (VW (rd:=none) (hrd:=hrd) (w0:=⟨w,λ _=>none,λ j=>if j<nb then ρ j else none⟩) hfol hΓ c _ _ _ w h ⟨F,ρ,hS,hSl,hts,Dfr.nil,Mu.refl w,hrk⟩) λ e a' w' hp=>?_
 obtain ⟨e',st',rfl,hq,hI⟩:=hp
 replace hq:=hQ _ _ hq
 have hN:∀ b,w.heap.size<=b->N b:=hS.size
 have hF0:∀ b,w.heap.size<=b->F b=none:=λ b hb=>by
  cases hf:F b with
  | none=>rfl
  | some o=>have:=Ap (hS.frz b o hf);omega
 have fin:(∃ s',AR nb st' s'/\∃ r objs1,R r objs1/\Jdg Γ.ty fn.results.toList r objs1 s')->LeavesInM Fence.wide 0 P fn a'.tmps (λ e w'=>∃ v F' ρ' r objs1,R r objs1/\e=.returned v/\Sim N (λ b=>w.heap[b]?) F F' ρ' objs1 w'.heap/\(∀ j,j<nb->∀ L,ρ j=some L->ρ' j=some L)/\Ah F' ρ' r v/\Mu w w') a'.defers .returning w':=by
  rintro ⟨s',hsh,r,objs1,hR,ho,hr⟩
  obtain ⟨F',ρ',hS',hSl',hn',hdf'⟩:=CM (by rw [hnt]) hsh hI
  obtain ⟨l,hl1,hl2,hl3⟩:=hdf'.1
  refine PN (w0:=⟨w,λ _=>none,λ j=>if j<nb then ρ j else none⟩) hΓ.qf hN hF0 hl1 F' w' hl2 hl3 hS' λ F'' w'' hFc hS'' hmu''=>?_
  replace hSl':BP F'' ρ' s'.env a'.tmps:=λ t=>(hSl' t).monoC hFc (RLe.refl _)
  have hmu:Mu w w'':=hdf'.2.1.trans hmu''
  have hrk':=hdf'.2.2
  clear hS' hl3 hI
  revert hS'' hSl'
  generalize F''=F'
  generalize w''=w' at hmu ⊢
  intro hS' hSl'
  have hmap:∀ (xs:List Value),(fn.results.toList.mapM (Zt a'.tmps)).run P w'=.ok xs w'->(results fn a'.tmps).run P w'=.ok (if h:xs.toArray.size=1 then xs.toArray[0] else .tuple xs.toArray) w':=by
   intro xs hxs
   rw [Rr,Array.mapM_eq_mapM_toList]
   simp only [Jmw,Sem.run_map,hxs,Jmu,Jmx]
  have hS1:Sim N (λ b=>w.heap[b]?) F F' ρ' objs1 w'.heap:=by rw [← ho];exact hS'
  have hkeep:∀ j,j<nb->∀ L,ρ j=some L->ρ' j=some L:=λ j hj L hL=>(hrk' j L (by simp only;rw [if_pos hj];exact hL)).2
  split at hr
  ·rename_i v p hres
   obtain ⟨hp,rfl⟩:=hr
   obtain ⟨xs,hxs,hcr⟩:=Hx hΓ.ty hS' hSl' _ _ _ hres hp
   match xs,hcr.1 with
   | [x],_=>exact ⟨x,by rw [hmap _ hxs];rfl,x,F',ρ',v,objs1,hR,rfl,hS1,hkeep,hcr.2 0 v x rfl rfl,hmu⟩
  ·rename_i vs' p hne hres
   obtain ⟨hp,rfl⟩:=hr
   obtain ⟨xs,hxs,hcr⟩:=Hx hΓ.ty hS' hSl' _ _ _ hres hp
   have hne1:xs.toArray.size≠1:=by
    intro h1
    have:vs'.length=1:=by rw [hcr.1];simpa using h1
    match vs',this with
    | [y],_=>exact hne y rfl
   exact ⟨.tuple xs.toArray,by rw [hmap _ hxs,dif_neg hne1],_,F',ρ',_,objs1,hR,rfl,hS1,hkeep,.tup _ _ (by simpa using hcr.1) λ j a v ha hv=>hcr.2 j a v ha (by simpa using hv),hmu⟩
  ·exact hr.elim
 cases e' with
 | normal=>exact fin hq
 | ret=>exact fin hq
 | exit i=>exact hq.elim
theorem Zv {Γ:Cx} (hfol:P.follows .mixedOrders=true) (hΓ:FG P Γ) (hrd:Γ.rd=false) {f:FuncId} {fn:Func} {c:Code} {args:List AV} {objs objs1:List (Option Ob)} {nb:Nat} {r:AV} (hf:P.funcs[f]? = some fn) (hb:fn.body=some c) (hnm:(fn.name == "runtime.NumGoroutine")=false)
  (hnt:Γ.nt=⟨fn.ntmps,[],nb,Γ.nt.qf⟩) (hlen:args.length<=fn.ntmps)
  (h:wpA Γ c (VZ nb Γ.ty fn.results.toList r objs1) ⟨(List.range args.length).zip args,objs⟩):BM P f args objs nb r objs1:=by
 have:=Xv (R:=λ r' O'=>r'=r/\O'=objs1) hfol hΓ hrd hf hb hnm hnt hlen (λ e s hs=>by
  cases e with
  | exit i=>exact hs.elim
  | normal=>obtain ⟨s',h1,h2⟩:=hs;exact ⟨s',h1,r,objs1,⟨rfl,rfl⟩,h2⟩
  | ret=>obtain ⟨s',h1,h2⟩:=hs;exact ⟨s',h1,r,objs1,⟨rfl,rfl⟩,h2⟩) h
 refine ⟨this.1,λ N F ρ w vs hS hc=>(this.2 N F ρ w vs hS hc).mono λ e w' he=>?_⟩
 obtain ⟨v,F',ρ',_,_,⟨rfl,rfl⟩,h1,h2,h3,h4,h5⟩:=he
 exact ⟨v,F',ρ',h1,h2,h3,h4,h5⟩
end Go.AI
end
section
namespace Go.AI
variable {P:Program} {F F':Nat->Option Obj} {ρ ρ':Nat->Option Loc} {w:World}
def JaR (P:Program) (t:TypeId):Prop:=(∃ k,P.underlying t=some (.int k))\/P.underlying t=some .bool\/P.underlying t=some .string
theorem CA {t:TypeId} (h:JaR P t) {cs:Array Value} {o:Nat} {v:Value} (hv:cs[o]? = some v):(part t cs o).run P w=.ok v w:=by
 have hag:(isAgg t).run P w=.ok false w:=by
  rcases h with ⟨k,h⟩|h|h<;>rw [Lh w h]<;>rfl
 simp only [part,Jmw,hag,Jmu,JmY,if_false,hv,Jmx]
def JaS (P:Program) (t:TypeId):TK->Prop
 | .int _=>∃ k,P.underlying t=some (.int k)
 | .bool=>P.underlying t=some .bool
 | .string=>P.underlying t=some .string
 | _=>False
theorem Ms {t:TypeId} {k:TK} (h:JaS P t k):JaR P t:=by
 cases k with
 | int _=>exact .inl h
 | bool=>exact .inr (.inl h)
 | string=>exact .inr (.inr h)
 | _=>exact h.elim
theorem Nt (d:Nat) (xs ys:Array Value):∀ (fs:List Field) (ks:List TK) (i:Nat) (l l':List AV) (r:Bool),fs.length=ks.length ->
  (∀ (j:Nat) f k,fs[j]? = some f->ks[j]? = some k->f.name ≠ "_"/\f.offset=i+j/\JaS P f.type k)->AM ks l l'=some r ->
  (∀ (j:Nat) a,l[j]? = some a->∃ v,xs[i+j]? = some v/\Ah F ρ a v)->(∀ (j:Nat) a,l'[j]? = some a->∃ v,ys[i+j]? = some v/\Ah F ρ a v)->(Op.eqFields (d+1) xs ys fs).run P w=.ok r w:=by
 intro fs
 induction fs with
 | nil=>
  intro ks i l l' r hn _ h _ _
  cases ks with
  | cons=>cases hn
  | nil=>
   cases l with
   | cons=>simp [AM] at h
   | nil=>cases l' with
    | cons=>simp [AM] at h
    | nil=>simp [AM] at h;subst h;rfl
 | cons f fs ih=>
  intro ks i l l' r hn hf h hl hl'
  cases ks with
  | nil=>cases hn
  | cons k ks=>
   obtain ⟨hname,hoff,hfit⟩:=hf 0 f k rfl rfl
   have hrec:∀ (m m':List AV) (x y:AV) (r':Bool),l=x::m->l'=y::m'->AM ks m m'=some r'->(Op.eqFields (d+1) xs ys fs).run P w=.ok r' w:=by
    intro m m' x y r' e1 e2 hr'
    subst e1;subst e2
    refine ih ks (i+1) m m' r' (by simpa using hn) (λ j f k hf' hk'=>?_) hr' (λ j a ha=>?_) (λ j a ha=>?_)
    ·obtain ⟨a1,a2,a3⟩:=hf (j+1) f k (by simpa using hf') (by simpa using hk');exact ⟨a1,by omega,a3⟩
    ·obtain ⟨v,h1,h2⟩:=hl (j+1) a (by simpa using ha);exact ⟨v,by rw [← h1];congr 1;omega,h2⟩
    ·obtain ⟨v,h1,h2⟩:=hl' (j+1) a (by simpa using ha);exact ⟨v,by rw [← h1];congr 1;omega,h2⟩
   have step:∀ (x y:AV) (m m':List AV) (b r':Bool),l=x::m->l'=y::m'->AM ks m m'=some r'->r=(b&&r')->(∀ u v,Ah F ρ x u->Ah F ρ y v->(Op.equalIn (d+1) f.type u v).run P w=.ok b w)->(Op.eqFields (d+1) xs ys (f::fs)).run P w=.ok r w:=by
    intro x y m m' b r' e1 e2 hr' hb hrun
    obtain ⟨u,hu1,hu2⟩:=hl 0 x (by rw [e1];rfl)
    obtain ⟨v,hv1,hv2⟩:=hl' 0 y (by rw [e2];rfl)
    have hpl:=Ms hfit
    simp only [Op.eqFields]
    rw [if_pos hname]
    have hp1:=CA (P:=P) (w:=w) hpl (o:=f.offset) (cs:=xs) (v:=u) (by rw [hoff];simpa using hu1)
    have hp2:=CA (P:=P) (w:=w) hpl (o:=f.offset) (cs:=ys) (v:=v) (by rw [hoff];simpa using hv1)
    simp only [Jmw,hp1,hp2,Jmu,hrun u v hu2 hv2]
    cases b with
    | false=>simp [hb]
    | true=>simp only [JmC,JmY,if_false];rw [hrec m m' x y r' e1 e2 hr',hb];rfl
   unfold AM at h
   split at h
   ·rename_i heq;cases heq
   ·rename_i k0 ks0 k1 a xs0 k2 b ys0 e0
    cases e0
    split at h
    ·rename_i r' hr'
     cases hk:(k1==k2) with
     | false=>rw [hk] at h;cases h
     | true=>
      rw [hk,cond_true] at h
      have:k1=k2:=by simpa using hk
      subst this
      cases h
      refine step _ _ _ _ (a==b) r' rfl rfl hr' rfl λ u v hu hv=>?_
      rw [hu.int,hv.int]
      obtain ⟨k3,hk3⟩:=hfit
      exact run_equalIn_int w d f.type k1 k3 a b hk3
    ·cases h
   ·rename_i ks0 a xs0 b ys0 e0
    cases e0
    split at h
    ·rename_i r' hr'
     cases h
     refine step _ _ _ _ (a==b) r' rfl rfl hr' rfl λ u v hu hv=>?_
     rw [hu.bool,hv.bool]
     exact run_equalIn_bool' w d f.type a b hfit
    ·cases h
   ·rename_i ks0 a xs0 b ys0 e0
    cases e0
    split at h
    ·rename_i r' hr'
     cases h
     refine step _ _ _ _ (a==b) r' rfl rfl hr' rfl λ u v hu hv=>?_
     rw [hu.str,hv.str,run_equalIn_string w d f.type _ _ hfit,BR,BR]
    ·cases h
   ·cases h
theorem Qz {t:TypeId} {fields:Array Field} {ks:List TK} (hd:P.underlying t=some (.struct fields)) (hst:P.stoodInHeld t=false) (hg:P.eqGuardType P.depth t=false) (hn:fields.size=ks.length)
  (hf:∀ (j:Nat) f k,fields[j]? = some f->ks[j]? = some k->f.name ≠ "_"/\f.offset=j/\JaS P f.type k):Nc P t ks:=by
 intro l l' r xs ys F ρ w x y h hx hy
 have hfo:P.fieldsOf t=fields:=by simp [Program.fieldsOf,hd]
 have hrun:(Op.equalIn 10000 t (.agg xs) (.agg ys)).run P w=.ok r w:=by
  rw [run_equalIn_struct w 9999 t xs ys (by rw [hfo];exact hd) hst,hfo]
  cases hx with
  | agg _ _ hxl hxr=>
   cases hy with
   | agg _ _ hyl hyr=>
    refine Nt (F:=F) (ρ:=ρ) 9998 xs ys fields.toList ks 0 l l' r (by simpa using hn) (λ j f k h1 h2=>?_) h (λ j a ha=>?_) (λ j a ha=>?_)
    ·obtain ⟨a1,a2,a3⟩:=hf j f k (by simpa using h1) h2;exact ⟨a1,by omega,a3⟩
    ·have hj:=Ad ha
     refine ⟨xs[j],?_,hxr j a _ ha (JmR (by omega))⟩
     rw [Jm0];exact JmR (by omega)
    ·have hj:=Ad ha
     refine ⟨ys[j],?_,hyr j a _ ha (JmR (by omega))⟩
     rw [Jm0];exact JmR (by omega)
 constructor
 ·simp only [Jmw,run_eqGuard_agg w .eql t x y xs ys hg,Jmu]
  rw [run_eql_struct,hrun];rfl
 ·simp only [Jmw,run_eqGuard_agg w .neq t x y xs ys hg,Jmu]
  rw [run_neq_struct,hrun];rfl
def Inf (P:Program) (t:TypeId) (s b:Nat) (z:Value):Prop:=∃ i,P.info? t=some i/\i.size=s/\i.bytes=b/\i.zero=some z
theorem AK {t:TypeId} {z:Value} {s b:Nat} (h:(P.info? t).map (λ i=>(i.zero,i.size,i.bytes))=some (some z,s,b)):Inf P t s b z:=by
 rw [JmP] at h
 obtain ⟨i,h1,h2⟩:=h
 simp only [Prod.mk.injEq] at h2
 exact ⟨i,h1,h2.2.1,h2.2.2,h2.1⟩
def Jgo (P:Program) (fields:Array Field) (i o s:Nat):Prop:=∃ f j,fields[i]? = some f/\f.offset=o/\P.info? f.type=some j/\j.size=s/\s≠0/\∃ e,P.underlying f.type=some e/\(s=1->Hs e=false)
theorem B5 {fields:Array Field} {t:TypeId} {i o s b:Nat} {z:Value} {e:TypeDesc} (h:Inf P t s b z) (hu:P.underlying t=some e) (hf:(fields[i]?).map (λ f=>(f.type,f.offset))=some (t,o):=by rfl) (h0:s≠0:=by decide) (h1:s=1->Hs e=false:=by decide):Jgo P fields i o s:=by
 obtain ⟨j,g1,g2,_⟩:=h
 rw [JmP] at hf
 obtain ⟨f,q1,q2⟩:=hf
 simp only [Prod.mk.injEq] at q2
 obtain ⟨rfl,rfl⟩:=q2
 exact ⟨f,j,q1,rfl,g1,g2,h0,e,hu,h1⟩
def StF (P:Program) (fields:Array Field) (k:Nat) (offs:List (Nat×Nat)):Prop:=∀ (i o s:Nat),offs[i]? = some (o,s)->Jgo P fields (k+i) o s
theorem Hy {fields:Array Field} {k:Nat}:StF P fields k []:=λ i o s h=>by simp at h
theorem AZ {fields:Array Field} {k o s:Nat} {offs:List (Nat×Nat)} (h:Jgo P fields k o s) (ht:StF P fields (k+1) offs):StF P fields k ((o,s)::offs):=λ i o' s' hi=>by
 cases i with
 | zero=>simp only [List.getElem?_cons_zero,JmX,Prod.mk.injEq] at hi;obtain ⟨rfl,rfl⟩:=hi;exact h
 | succ i=>
  have:=ht i o' s' (by simpa using hi)
  rwa [JmI,Nat.add_comm 1 i] at this
theorem stF {fields:Array Field} {offs:List (Nat×Nat)} (h:StF P fields 0 offs) (hl:fields.size=offs.length:=by rfl):Il P (.struct fields) (.struct offs):=⟨fields,rfl,hl,λ i o s hi=>by have:=h i o s hi;rwa [Jm0] at this⟩
theorem slK {elem:TypeId} {esz eb:Nat} {ez:List D} {z:Value} (h:Inf P elem esz eb z) (hu:ez=[.int .u8 0]->P.underlying elem=some (.int .u8):=by (intro h;cases h)) (hz:z.cells.toList=ez.map D.val:=by rfl) (hp:ez.all D.isPlain=true:=by rfl) (hl:ez.length=esz:=by rfl):Il P (.slice elem) (.slice esz eb ez):=by
 obtain ⟨i,g1,g2,g3,g4⟩:=h
 exact ⟨elem,i,z,rfl,g1,g2,g3,g4,hz,hp,hl,hu⟩
theorem arK {elem:TypeId} {n esz eb:Nat} {z:Value} (h:Inf P elem esz eb z):Il P (.array n elem) (.array n esz):=by
 obtain ⟨i,g1,g2,_⟩:=h
 exact ⟨elem,i,rfl,g1,g2⟩
theorem tfM {t:TypeId} {y:Ty} {b:Nat} {z:Value} {d:TypeDesc} (h:Inf P t y.size b z) (hu:P.underlying t=some d) (hk:Il P d y.kind) (he:y.eqk≠[]->Nc P t y.eqk:=by exact λ h=>absurd rfl h) (ha:Hs d=y.agg:=by rfl) (hz:z.cells.toList=y.zero.map D.val:=by rfl) (hp:y.zero.all D.isPlain=true:=by rfl) (h1:y.agg=false->y.size=1:=by first|exact λ _=>rfl|(intro h;cases h)) (h0:1<=y.size:=by decide):Az P t y:=by
 obtain ⟨i,g1,g2,_,g4⟩:=h
 exact ⟨⟨i,z,g1,g2,g4,hz⟩,hp,⟨d,hu,ha,hk⟩,h1,h0,he⟩
theorem V0 (d:Nat) {e:TypeId} {k0:IntKind} (he:P.underlying e=some (.int k0)) (xs ys:Array Value):∀ (m s:Nat) (l l':List AV) (r:Bool),AM (List.replicate m (.int k0)) l l'=some r ->
  (∀ (j:Nat) a,l[j]? = some a->∃ v,xs[s+j]? = some v/\Ah F ρ a v)->(∀ (j:Nat) a,l'[j]? = some a->∃ v,ys[s+j]? = some v/\Ah F ρ a v)->(Op.eqItems (d+1) e 1 xs ys (List.range' s m)).run P w=.ok r w:=by
 intro m
 induction m with
 | zero=>
  intro s l l' r h _ _
  cases l with
  | cons=>simp [AM] at h
  | nil=>cases l' with
   | cons=>simp [AM] at h
   | nil=>simp [AM] at h;subst h;rfl
 | succ m ih=>
  intro s l l' r h hl hl'
  rw [List.replicate_succ] at h
  unfold AM at h
  split at h
  ·rename_i heq;cases heq
  ·rename_i k2 ks0 k1 a xs0 k2' b ys0 e0
   cases e0
   split at h
   ·rename_i r' hr'
    cases hk:(k1==k2') with
    | false=>rw [hk] at h;cases h
    | true=>
     rw [hk,cond_true] at h
     have:k1=k2':=by simpa using hk
     subst this
     cases h
     obtain ⟨u,hu1,hu2⟩:=hl 0 _ rfl
     obtain ⟨v,hv1,hv2⟩:=hl' 0 _ rfl
     have hp1:=CA (P:=P) (w:=w) (.inl ⟨k0,he⟩) (o:=s*1) (cs:=xs) (v:=u) (by simpa using hu1)
     have hp2:=CA (P:=P) (w:=w) (.inl ⟨k0,he⟩) (o:=s*1) (cs:=ys) (v:=v) (by simpa using hv1)
     have hrec:=ih (s+1) xs0 ys0 r' hr' (λ j x hx=>by obtain ⟨y,h1,h2⟩:=hl (j+1) x (by simpa using hx);exact ⟨y,by rw [← h1];congr 1;omega,h2⟩) (λ j x hx=>by obtain ⟨y,h1,h2⟩:=hl' (j+1) x (by simpa using hx);exact ⟨y,by rw [← h1];congr 1;omega,h2⟩)
     have hq:(Op.equalIn (d+1) e u v).run P w=.ok (a==b) w:=by rw [hu2.int,hv2.int];exact run_equalIn_int w d e k1 k0 a b he
     rw [List.range'_succ]
     simp only [Op.eqItems,Jmw,hp1,hp2,hq,Jmu]
     cases hab:(a==b) with
     | false=>simp
     | true=>simp only [JmC,JmY,if_false,Bool.true_and];exact hrec
   ·cases h
  ·rename_i e0
   cases e0
  ·rename_i e0
   cases e0
  ·cases h
theorem Uc {t e:TypeId} {n:Nat} {k:IntKind} {b:Nat} {z:Value} (hd:P.underlying t=some (.array n e)) (hu:P.underlying e=some (.int k)) (hi:Inf P e 1 b z) (hg:P.eqGuardType P.depth t=false):Nc P t (List.replicate n (.int k)):=by
 intro l l' r xs ys F ρ w x y h hx hy
 obtain ⟨i,hi1,hi2,_⟩:=hi
 have hc:P.cellsOf e=1:=by simp [Program.cellsOf,hi1,hi2]
 have hrun:(Op.equalIn 10000 t (.agg xs) (.agg ys)).run P w=.ok r w:=by
  rw [run_equalIn_array w 9999 xs ys hd hi1,hc,List.range_eq_range']
  cases hx with
  | agg _ _ hxl hxr=>
   cases hy with
   | agg _ _ hyl hyr=>
    refine V0 (F:=F) (ρ:=ρ) 9998 hu xs ys n 0 l l' r h (λ j a ha=>?_) (λ j a ha=>?_)
    ·have hj:=Ad ha
     refine ⟨xs[j],?_,hxr j a _ ha (JmR (by omega))⟩
     rw [Jm0];exact JmR (by omega)
    ·have hj:=Ad ha
     refine ⟨ys[j],?_,hyr j a _ ha (JmR (by omega))⟩
     rw [Jm0];exact JmR (by omega)
 constructor
 ·simp only [Jmw,run_eqGuard_agg w .eql t x y xs ys hg,Jmu]
  rw [run_eql_struct,hrun];rfl
 ·simp only [Jmw,run_eqGuard_agg w .neq t x y xs ys hg,Jmu]
  rw [run_neq_struct,hrun];rfl
end Go.AI
end
section
namespace Go.AI
variable {P:Program} {F F':Nat->Option Obj} {ρ ρ':Nat->Option Loc} {w:World}
theorem V1:∀ (ks:List TK) (l l':List AV) (r:Bool),AM ks l l'=some r->l.length=ks.length/\l'.length=ks.length:=by
 intro ks
 induction ks with
 | nil=>
  intro l l' r h
  cases l with
  | cons=>simp [AM] at h
  | nil=>cases l' with
   | cons=>simp [AM] at h
   | nil=>exact ⟨rfl,rfl⟩
 | cons k ks ih=>
  intro l l' r h
  unfold AM at h
  split at h
  ·rename_i heq;cases heq
  ·rename_i e0;cases e0
   split at h
   ·rename_i r' hr'
    obtain ⟨a,b⟩:=ih _ _ _ hr'
    simp [a,b]
   ·cases h
  ·rename_i e0;cases e0
   split at h
   ·rename_i r' hr'
    obtain ⟨a,b⟩:=ih _ _ _ hr'
    simp [a,b]
   ·cases h
  ·rename_i e0;cases e0
   split at h
   ·rename_i r' hr'
    obtain ⟨a,b⟩:=ih _ _ _ hr'
    simp [a,b]
   ·cases h
  ·cases h
end Go.AI
end
section
namespace Go.AI
def Ai (k:IntKind) (a b:Int):Int:=k.wrap (a+b)
def AU (k:IntKind) (a b:Int):Int:=k.wrap (a-b)
def BV (k:IntKind) (a b:Int):Int:=k.wrap (a*b)
def Dv (k:IntKind) (a b:Int):Int:=k.wrap (a.tdiv b)
def Al (a b:Int):Int:=a.tmod b
def Ei (k:IntKind) (a b:Int):Int:=k.wrap (BitVec.ofInt k.bits a &&& BitVec.ofInt k.bits b).toNat
def JlF (k:IntKind) (a b:Int):Int:=a.fdiv (2 ^ (min b.toNat k.bits))
def Jgp (k:IntKind) (n:Int):Int:=k.wrap (0-n)
def idx {α:Type} (xs:List α) (i:Int):Option α:=if 0<=i then xs[i.toNat]? else none
def app {α:Type} (eb:Nat) (xs ys:List α):Option (List α):=if (xs.length+ys.length)*eb<=70368744177664 then some (xs++ys) else none
def cat (x y:List UInt8):Option (List UInt8):=if x.length+y.length<=9223372036854775807 then some (x++y) else none
def sub {α:Type} (xs:List α) (l h:Int):Option (List α):=if 0<=l/\l<=h/\h<=xs.length then some ((xs.take h.toNat).drop l.toNat) else none
def put {α:Type} (xs:List α) (i:Int) (y:α):Option (List α):=if 0<=i/\i<xs.length then some (xs.set i.toNat y) else none
def Jj (s:List UInt8) (i:Int):Option Int:=if 0<=i/\i<s.length then some (s[i.toNat]?.getD 0).toNat else none
def BJ (b:Bool):Option Unit:=if b then some () else none
def mkl {α:Type} (eb:Nat) (n:Int) (z:α):Option (List α):=if 0<=n/\n.toNat*eb<=70368744177664 then some (List.replicate n.toNat z) else none
def Jkl (bs:List Int):Option (List UInt8):=if bs.all (λ n=>decide (0<=n)&&decide (n<256)) then some (bs.map λ n=>UInt8.ofNat n.toNat) else none
def Rs {κ α:Type} [DecidableEq κ] (k:κ) (v:α):List (κ×α)->List (κ×α)
 | []=>[(k,v)]
 | p::r=>if k=p.1 then (k,v)::r else p::Rs k v r
theorem bind_some {α β:Type} {x:Option α} {f:α->Option β} {r:β} (h:x.bind f=some r):∃ a,x=some a/\f a=some r:=Option.bind_eq_some_iff.1 h
theorem FJ {α:Type} {xs:List α} {i:Int} {x:α} (h:idx xs i=some x):0<=i/\i<xs.length/\xs[i.toNat]? = some x:=by
 unfold idx at h
 split at h
 ·rename_i h0
  have:=(List.getElem?_eq_some_iff.1 h).1
  exact ⟨h0,by omega,h⟩
 ·cases h
theorem JaT {α:Type} {eb:Nat} {xs ys zs:List α} (h:app eb xs ys=some zs):(xs.length+ys.length)*eb<=70368744177664/\zs=xs++ys:=by
 unfold app at h
 split at h
 ·rename_i h0;cases h;exact ⟨h0,rfl⟩
 ·cases h
def whl {σ ρ:Type} (body:σ->Option (σ⊕ρ)):Nat->σ->Option ρ
 | 0,_=>none
 | n+1,x=>match body x with
  | none=>none
  | some (.inl y)=>whl body n y
  | some (.inr r)=>some r
def J3 {α:Type} (b:α) (f:α->α):Nat->α
 | 0=>b
 | n+1=>f (J3 b f n)
end Go.AI
end
section
namespace Go.AI
def Aw (f:Func):Code:=f.body.getD .skip
def JaU:Code->Nat->Code
 | .seq a b,i=>bif Nat.beq i 0 then a else b
 | .cond _ a b,i=>bif Nat.beq i 0 then a else b
 | .block _ c,_=>c
 | .loop c,_=>c
 | .scope c,_=>c
 | .rangeFunc _ _ a b,i=>bif Nat.beq i 0 then a else b
 | _,_=>.skip
def nav:List Nat->Code->Code
 | [],c=>c
 | i::p,c=>nav p (JaU c i)
def A0:Code->List Oper
 | .region _ ops _=>ops.toList
 | _=>[]
def B2:Code->Array Oper
 | .region _ ops _=>ops
 | _=>#[]
def Mt:Code->Bool
 | .region _ _ d=>d
 | _=>false
def JG:Code->Bool
 | .region _ _ _=>true
 | _=>false
def Ud:Code->Operand
 | .cond c _ _=>c
 | _=>.tmp 0
def AX (Γ:Cx) (C:Code) (p:List Nat) (i:Nat) (K:St->Prop) (s:St):Prop:=GP Γ (Mt (nav p C)) (A0 (nav p C)) ((A0 (nav p C)).drop i) K s
theorem GQ {Γ:Cx} {d:Bool} {all:List Oper} {o:Oper} {Q Q':St->Prop} {s:St} (hQ:∀ s,Q s->Q' s) (h:AP Γ d all o Q s):AP Γ d all o Q' s:=by
 unfold AP at h ⊢
 cases hg:Bk all s.env o.guard with
 | none=>rw [hg] at h;exact h.elim
 | some g=>
  rw [hg] at h
  simp only at h ⊢
  cases hdst:Bv Γ.nt o.dst with
  | false=>rw [hdst] at h;exact h.elim
  | true=>
   rw [hdst] at h
   simp only [JmC,cond_false] at h ⊢
   refine ⟨λ hgt=>?_,λ hgf=>by obtain ⟨v,obs,hm,hq⟩:=h.2 hgf;exact ⟨v,obs,hm,hQ _ hq⟩⟩
   rcases h.1 hgt with h|h|h
   case inr.inr=>
    refine .inr (.inr ?_)
    obtain ⟨hdr,⟨st',h1,h2⟩|⟨hgn,h⟩⟩:=h
    ·exact ⟨hdr,.inl ⟨st',h1,hQ _ h2⟩⟩
    refine ⟨hdr,.inr ⟨hgn,?_⟩⟩
    rcases h with h|h
    ·left
     split at h
     ·obtain ⟨h1,h2⟩:=h
      exact ⟨h1,h2.imp (hQ _) (hQ _)⟩
     ·exact h.elim
    ·right
     split at h
     ·obtain ⟨h1,nb,r,O1,g1,g2,g3,g4,g5⟩:=h
      exact ⟨h1,nb,r,O1,g1,g2,g3,g4,hQ _ g5⟩
     ·exact h.elim
   case inr.inl=>
    refine .inr (.inl ?_)
    unfold Eg at h ⊢
    split at h
    ·exact ⟨h.1,hQ _ h.2⟩
    ·exact h.elim
   refine .inl ?_
   unfold stepG at h ⊢
   split at h
   ·obtain ⟨h1,h⟩:=h
    unfold JE at h ⊢
    split at h
    ·obtain ⟨hob,m,r,hcall,hflat,hq⟩:=h
     exact ⟨h1,hob,m,r,hcall,hflat,hQ _ hq⟩
    ·exact h.elim
   ·split at h
    ·exact ⟨h.1,hQ _ h.2⟩
    ·exact h.elim
   ·split at h
    ·rename_i e he
     obtain ⟨h1,h2,h3⟩:=h
     refine ⟨h1,h2,?_⟩
     cases hc:((e.upd.isSome&&o.guard.isSome)||(!e.rm.isEmpty&&(o.guard.isSome||(d&&!isW o.op)))) with
     | true=>rw [hc] at h3;exact h3.elim
     | false=>rw [hc,cond_false] at h3;rw [cond_false];exact hQ _ h3
    ·exact h.elim
theorem D8 {Γ:Cx} {d:Bool} {all:List Oper} {Q Q':St->Prop} (hQ:∀ s,Q s->Q' s):∀ (l:List Oper) (s:St),GP Γ d all l Q s->GP Γ d all l Q' s:=by
 intro l
 induction l with
 | nil=>intro s h;exact hQ s h
 | cons o l ih=>intro s h;exact GQ ih h
theorem V2 {Γ:Cx} {ops:Array Oper} {Q Q':St->Prop} (hQ:∀ s,Q s->Q' s):∀ (f b:Nat) (s:St),phX Γ ops Q f b s->phX Γ ops Q' f b s:=by
 intro f
 induction f with
 | zero=>intro b s h;exact ⟨h.1,hQ _ h.2⟩
 | succ f ih=>
  intro b s h
  rcases h with h|⟨x,m,hb,hB,h⟩
  ·exact .inl ⟨h.1,hQ _ h.2⟩
  ·refine .inr ⟨x,m,hb,hB,D8 (λ s hs=>⟨hs.1,?_⟩) _ _ h⟩
   obtain ⟨F,q1,q2⟩:=hs.2
   exact ⟨F,q1,GQ (λ s hs=>ih _ _ hs) q2⟩
theorem JaV {Γ:Cx} {ops:Array Oper} {Q:St->Prop}:∀ (f b:Nat) (s:St),phX Γ ops Q f b s->phX Γ ops Q (f+1) b s:=by
 intro f
 induction f with
 | zero=>intro b s h;exact .inl h
 | succ f ih=>
  intro b s h
  rcases h with h|⟨x,m,hb,hB,h⟩
  ·exact .inl h
  ·refine .inr ⟨x,m,hb,hB,D8 (λ s hs=>⟨hs.1,?_⟩) _ _ h⟩
   obtain ⟨F,q1,q2⟩:=hs.2
   exact ⟨F,q1,GQ (λ s hs=>ih _ _ hs) q2⟩
theorem Jgq {Γ:Cx} {ops:Array Oper} {Q:St->Prop} {f f' b:Nat} {s:St} (hf:f<=f') (h:phX Γ ops Q f b s):phX Γ ops Q f' b s:=by
 induction hf with
 | refl=>exact h
 | step _ ih=>exact JaV _ _ _ ih
theorem V3 {Γ:Cx}:∀ {c:Code} {Q Q':Ex->St->Prop} {s:St},(∀ e s,Q e s->Q' e s)->wpA Γ c Q s->wpA Γ c Q' s:=by
 intro c
 induction c with
 | skip=>intro Q Q' s hQ h;exact hQ _ _ h
 | region id ops d=>
  intro Q Q' s hQ h
  obtain ⟨s',h1,h2|⟨hd,h4⟩|⟨hd,h4⟩⟩:=h
  rotate_left 2
  ·obtain ⟨i,o,ho,h4⟩:=h4
   refine ⟨s',h1,.inr (.inr ⟨hd,i,o,ho,D8 (λ s hs=>?_) _ _ h4⟩)⟩
   obtain ⟨q1,q2,S,q3,q4⟩:=hs
   exact ⟨q1,q2,S,q3,λ st' hst=>D8 (λ s hs=>hQ _ s hs) _ _ (q4 st' hst)⟩
  ·exact ⟨s',h1,.inl (D8 (λ s hs=>⟨hs.1,hQ _ s hs.2⟩) _ _ h2)⟩
  ·rcases h4 with ⟨f,h4⟩|⟨f,m,hB,h4⟩
   ·exact ⟨s',h1,.inr (.inl ⟨hd,.inl ⟨f,V2 (λ s hs=>hQ _ s hs) f 0 _ h4⟩⟩)⟩
   ·refine ⟨s',h1,.inr (.inl ⟨hd,.inr ⟨f,m,hB,D8 (λ s hs=>⟨hs.1,?_⟩) _ _ h4⟩⟩)⟩
    obtain ⟨F,q1,q2⟩:=hs.2
    exact ⟨F,q1,GQ (λ s hs=>V2 (λ s hs=>hQ _ s hs) _ _ _ hs) q2⟩
 | seq a b iha ihb=>
  intro Q Q' s hQ h
  refine iha (λ e s h=>?_) h
  cases e with
  | normal=>obtain ⟨s',h1,h2⟩:=h;exact ⟨s',h1,ihb hQ h2⟩
  | exit i=>exact hQ _ _ h
  | ret=>exact hQ _ _ h
 | cond c a b iha ihb=>
  intro Q Q' s hQ h
  simp only [wpA] at h ⊢
  unfold X9 at h ⊢
  split at h
  ·exact ⟨λ e=>iha hQ (h.1 e),λ e=>ihb hQ (h.2 e)⟩
  ·exact h.elim
 | block id c ih=>
  intro Q Q' s hQ h
  refine ih (λ e s h=>?_) h
  cases e with
  | normal=>exact hQ _ _ h
  | ret=>exact hQ _ _ h
  | exit i=>
   simp only [I7] at h ⊢
   cases hb:Nat.beq i id with
   | true=>rw [hb] at h;exact hQ _ _ h
   | false=>rw [hb] at h;exact hQ _ _ h
 | loop c ih=>
  intro Q Q' s hQ h
  obtain ⟨I,n,h0,h⟩:=h
  refine ⟨I,n,h0,λ n s hI=>ih (λ e s h=>?_) (h n s hI)⟩
  cases e with
  | normal=>exact h
  | exit i=>exact hQ _ _ h
  | ret=>exact hQ _ _ h
 | exit id=>intro Q Q' s hQ h;exact hQ _ _ h
 | ret=>intro Q Q' s hQ h;exact hQ _ _ h
 | scope c ih=>intro Q Q' s hQ h;exact ih (s:=s) hQ h
 | label l=>intro Q Q' s hQ h;exact hQ _ _ h
 | rangeFunc g ps asg body=>
  intro Q Q' s hQ h
  obtain ⟨s',h1,h2⟩:=h
  refine ⟨s',h1,?_⟩
  rcases h2 with h2|h2
  case inr=>
   right
   unfold TP at h2 ⊢
   split at h2
   ·rename_i f caps hg
    obtain ⟨js,ts,nb,R,q1,q2,q3,q4,q5⟩:=h2
    refine ⟨js,ts,nb,R,q1,q2,q3,q4,λ r O1 hR=>?_⟩
    obtain ⟨q6,j,q7,q8⟩:=q5 r O1 hR
    refine ⟨q6,j,q7,?_⟩
    unfold YV at q8 ⊢
    split at q8
    ·exact hQ _ _ q8
    ·exact q8.elim
    ·split at q8
     ·exact hQ _ _ q8
     ·exact hQ _ _ q8
     ·exact q8.elim
   ·exact h2.elim
  left
  unfold TO at h2 ⊢
  split at h2
  ·rename_i f caps hg
   obtain ⟨js,ts,nb,r,O1,j,q1,q2,q3,q4,q5,q6,q7⟩:=h2
   refine ⟨js,ts,nb,r,O1,j,q1,q2,q3,q4,q5,q6,?_⟩
   unfold YV at q7 ⊢
   split at q7
   ·exact hQ _ _ q7
   ·exact q7.elim
   ·split at q7
    ·exact hQ _ _ q7
    ·exact hQ _ _ q7
    ·exact q7.elim
  ·exact h2.elim
 | _=>intro Q Q' s hQ h;exact h.elim
variable {Γ:Cx} {C:Code} {p p0 p1:List Nat} {Q:Ex->St->Prop} {s s':St} {K:St->Prop}
theorem Jgr (h:nav p C=.seq (nav p0 C) (nav p1 C)) (hw:wpA Γ (nav p0 C) (SK Γ.nt.nk (wpA Γ (nav p1 C) Q) Q) s):wpA Γ (nav p C) Q s:=by rw [h];exact hw
theorem JaW (id:Nat) (h:nav p C=.block id (nav p0 C)) (hw:wpA Γ (nav p0 C) (I7 id Q) s):wpA Γ (nav p C) Q s:=by rw [h];exact hw
theorem Jdh (t:Bool) (h:nav p C=.cond (Ud (nav p C)) (nav p0 C) (nav p1 C)) (hc:Aj s.env (Ud (nav p C))=.d (.bool t)) (h1:t=true->wpA Γ (nav p0 C) Q s) (h2:t=false->wpA Γ (nav p1 C) Q s):wpA Γ (nav p C) Q s:=by
 rw [h];simp only [wpA,hc,X9];exact ⟨h1,h2⟩
theorem Jdi (i:Nat) (h:nav p C=.exit i) (hq:Q (.exit i) s):wpA Γ (nav p C) Q s:=by rw [h];exact hq
theorem Jgs (h:nav p C=.ret) (hq:Q .ret s):wpA Γ (nav p C) Q s:=by rw [h];exact hq
theorem Jdj (h:nav p C=.skip) (hq:Q .normal s):wpA Γ (nav p C) Q s:=by rw [h];exact hq
def Ue (C:Code) (p:List Nat) (s0:St) (Q:Ex->St->Prop):Ex->St->Prop:=λ e s=>Ke (Mt (nav p C)) (B2 (nav p C)) s0.env s.env=true/\Q e s
theorem Tv (h:JG (nav p C)=true) (hs:AR Γ.nt.nk s s') (hk:AX Γ C p 0 (Ue C p s' Q .normal) s'):wpA Γ (nav p C) Q s:=by
 unfold AX Ue at hk
 cases hc:nav p C with
 | region id ops d=>rw [hc] at hk;exact ⟨s',hs,.inl hk⟩
 | _=>rw [hc] at h;cases h
theorem Mv (n:Nat) (h:Nat.ble (A0 (nav p C)).length n=true) (hk:K s):AX Γ C p n K s:=by
 unfold AX
 rw [List.drop_eq_nil_of_le (Jm1 h)]
 exact hk
theorem JaX {id:Nat} (h:Q .normal s):I7 id Q (.exit id) s:=by
 show bif Nat.beq id id then _ else _
 have:Nat.beq id id=true:=Nat.beq_refl id
 rw [this];exact h
def Au {σ ρ:Type} (nk:Nat) (st:σ->St) (E:ρ->Ex->St->Prop) (z:σ⊕ρ):Ex->St->Prop
 | .normal,s=>∃ y,z=.inl y/\AR nk s (st y)
 | e,s=>∃ r,z=.inr r/\E r e s
theorem JaY {σ ρ:Type} {nk:Nat} {st:σ->St} {E:ρ->Ex->St->Prop} {y:σ} (h:AR nk s (st y)):Au nk st E (.inl y) .normal s:=⟨y,rfl,h⟩
theorem Xw {σ ρ:Type} {nk:Nat} {st:σ->St} {E:ρ->Ex->St->Prop} {r:ρ} {i:Nat} (h:E r (.exit i) s):Au nk st E (.inr r) (.exit i) s:=⟨r,rfl,h⟩
theorem Zw {σ ρ:Type} {nk:Nat} {st:σ->St} {E:ρ->Ex->St->Prop} {r:ρ} (h:E r .ret s):Au nk st E (.inr r) .ret s:=⟨r,rfl,h⟩
theorem Jdk {σ ρ:Type} {body:σ->Option (σ⊕ρ)} {n:Nat} {x:σ} {r:ρ} (st:σ->St) (E:ρ->Ex->St->Prop) (h:nav p C=.loop (nav p0 C)) (hr:whl body n x=some r) (hs:AR Γ.nt.nk s (st x))
  (hb:∀ x z,body x=some z->wpA Γ (nav p0 C) (Au Γ.nt.nk st E z) (st x)) (hE:∀ e s,E r e s->Q e s):wpA Γ (nav p C) Q s:=by
 rw [h]
 refine ⟨λ m s=>∃ x,s=st x/\whl body m x=some r,n,⟨_,hs,x,rfl,hr⟩,?_⟩
 rintro m _ ⟨x,rfl,hm⟩
 cases m with
 | zero=>cases hm
 | succ m=>
  unfold whl at hm
  split at hm
  ·cases hm
  ·rename_i y hy
   have:=hb x _ hy
   refine V3 ?_ this
   intro e s' hq
   cases e with
   | normal=>
    obtain ⟨y',e1,hsh⟩:=hq
    cases e1
    exact ⟨m,_,Nat.lt_succ_self m,hsh,y,rfl,hm⟩
   | exit i=>obtain ⟨_,e1,_⟩:=hq;cases e1
   | ret=>obtain ⟨_,e1,_⟩:=hq;cases e1
  ·rename_i r' hy
   cases hm
   have:=hb x _ hy
   refine V3 ?_ this
   intro e s' hq
   cases e with
   | normal=>obtain ⟨_,e1,_⟩:=hq;cases e1
   | exit i=>obtain ⟨r',e1,he⟩:=hq;cases e1;exact hE _ _ he
   | ret=>obtain ⟨r',e1,he⟩:=hq;cases e1;exact hE _ _ he
end Go.AI
end
section
namespace Go.AI
def Rt (op:BinOp) (x y:AV):Bool:=
 match op with
 | .quo=>match y with | .d (.int _ b)=>!(b==0)|_=>false
 | .rem=>match y with | .d (.int _ b)=>!(b==0)|_=>false
 | .shl=>match y with | .d (.int _ b)=>decide (0<=b)|_=>false
 | .shr=>match y with | .d (.int _ b)=>decide (0<=b)|_=>false
 | .add=>match x with | .d (.int _ _)=>true|_=>false
 | _=>true
def Xx (ty:Nat->Ty) (ev:Operand->AV) (objs:List (Option Ob)):Op->Bool
 | .move _=>true
 | .assign _=>true
 | .alloc _=>true
 | .box _ _=>true
 | .build _ _=>true
 | .nilCheck _=>true
 | .unOp _ _ _=>true
 | .fieldAddr _ _ _=>true
 | .field _ _ _=>true
 | .extract _ _=>true
 | .makeMap _ _=>true
 | .load t a=>match ev a with
  | .ptr k off=>match obA objs k with
   | some (.box cells)=>Nat.ble (off+(ty t).size) cells.length
   | _=>false
  | .dptr e off=>Nat.ble (off+(ty t).size) e.length
  | _=>false
 | .store t a v=>match ev a with
  | .ptr k off=>match obA objs k with
   | some (.box cells)=>Nat.beq (Ar (ev v)).length (ty t).size&&Nat.ble (off+(ty t).size) cells.length
   | _=>false
  | _=>false
 | .binOp op _ x y _=>Rt op (ev x) (ev y)
 | .convert s _ x=>match (ty s).kind,ev x with
  | .int _,.d (.int _ _)=>true
  | .string,.d (.str _)=>true
  | _,_=>false
 | .call ⟨.builtin .len,_,_⟩=>true
 | .call ⟨.builtin .min,_,_⟩=>true
 | .call ⟨.builtin .max,_,_⟩=>true
 | .buildSlice _ _ parts=>parts.toList.all λ p=>(Ar (ev p.2)).all Mn
 | .indexAddr t x i=>match (ty t).kind,ev x,ev i with
  | .array n _,.ptr _ _,.d (.int _ m)=>decide (0<=m)&&decide (m<n)
  | .array n _,.eptr _ _ _ _,.d (.int _ m)=>decide (0<=m)&&decide (m<n)
  | .array n _,.dptr _ _,.d (.int _ m)=>decide (0<=m)&&decide (m<n)
  | _,_,_=>false
 | _=>false
theorem Cp {v:AV} {e:Eff} (h:val v=some e):e.ob:=by cases h;trivial
theorem FK {v:AV} {ob:Prop} {e:Eff} (h:A4 v ob=some e) (ho:ob):e.ob:=by cases h;exact ho
theorem AQ {α:Type} {b:Bool} {x:Option α} {e:α} (h:(bif b then x else none)=some e):b=true/\x=some e:=by
 cases b with
 | true=>exact ⟨rfl,h⟩
 | false=>cases h
theorem Jdl {op:BinOp} {k k' k'':IntKind} {a b:Int} {e:Eff} (h:WR op k a b=some e) (ho:Rt op (.d (.int k' a)) (.d (.int k'' b))=true):e.ob:=by
 cases op<;>simp only [WR] at h<;>first|exact Cp h|(refine FK h ?_;simpa [Rt] using ho)|cases h
theorem Jdm {t:Ty} {op:BinOp} {x y:AV} {e:Eff} (h:YU t op x y=some e) (ho:Rt op x y=true):e.ob:=by
 unfold YU at h
 split at h
 ·split at h
  ·exact FK h (by simpa [Rt] using ho)
  ·exact FK h (by simpa [Rt] using ho)
  ·obtain ⟨_,h⟩:=AQ h
   exact Jdl h ho
 ·cases op<;>simp only [U5] at h<;>first|exact Cp h|(simp [Rt] at ho;done)|cases h
 ·split at h
  ·obtain ⟨_,h⟩:=AQ h
   split at h
   ·exact Cp h
   ·exact Cp h
   ·cases h
  ·cases h
 ·obtain ⟨_,h⟩:=AQ h
  split at h
  ·exact Cp h
  ·exact Cp h
  ·cases h
 ·cases h
theorem Jdn {objs:List (Option Ob)} {v:AV} {r:Rd D} (hd:Mn v=true) (h:Ig objs v=some r):r.ob/\r.ks=[]:=by
 cases v with
 | d x=>cases x<;>(cases h;exact ⟨trivial,rfl⟩)
 | _=>cases hd
theorem JaZ {objs:List (Option Ob)}:∀ {l:List AV} {r:Rd (List D)},l.all Mn=true->CS objs l=some r->r.ob/\r.ks=[]:=by
 intro l
 induction l with
 | nil=>intro r _ h;cases h;exact ⟨trivial,rfl⟩
 | cons v l ih=>
  intro r hd h
  simp only [List.all_cons,JmN] at hd
  simp only [CS] at h
  split at h
  ·rename_i r1 r2 h1 h2
   cases h
   obtain ⟨a1,a2⟩:=Jdn hd.1 h1
   obtain ⟨b1,b2⟩:=ih hd.2 h2
   exact ⟨⟨a1,b1⟩,by simp [a2,b2]⟩
  ·cases h
theorem Ja0 {objs:List (Option Ob)} {esz:Nat}:∀ {parts:List (Nat×AV)} {es:List (List D)} {r:Rd (List (List D))},(parts.all λ p=>(Ar p.2).all Mn)=true->Ii objs esz es parts=some r->r.ob:=by
 intro parts
 induction parts with
 | nil=>intro es r _ h;cases h;trivial
 | cons p parts ih=>
  intro es r hd h
  obtain ⟨i,v⟩:=p
  simp only [List.all_cons,JmN] at hd
  simp only [Ii] at h
  split at h
  ·rename_i r1 h1
   obtain ⟨_,h⟩:=AQ h
   split at h
   ·rename_i r2 h2
    cases h
    exact ⟨(JaZ hd.1 h1).1,ih hd.2 h2⟩
   ·cases h
  ·cases h
theorem Ru {ty:Nat->Ty} {ev:Operand->AV} {objs:List (Option Ob)} {op:Op} {e:Eff} (ho:Xx ty ev objs op=true) (h:opA ty ev objs op=some e):e.ob:=by
 cases op with
 | move x=>exact Cp h
 | assign x=>exact Cp h
 | alloc t=>obtain ⟨_,h⟩:=AQ h;cases h;trivial
 | box t v=>obtain ⟨_,h⟩:=AQ h;cases h;trivial
 | build t parts=>
  obtain ⟨_,h⟩:=AQ h
  split at h
  ·exact Cp h
  ·cases h
 | nilCheck x=>
  simp only [opA] at h
  split at h<;>first|exact Cp h|cases h
 | unOp op t x=>
  cases op<;>simp only [opA] at h<;>first|(split at h<;>first|exact Cp h|cases h)|cases h
 | fieldAddr t x f=>
  obtain ⟨_,h⟩:=AQ h
  unfold Kc at h
  split at h
  ·split at h
   ·split at h<;>first|exact Cp h|cases h
   ·cases h
  ·cases h
 | field t x f=>
  simp only [opA] at h
  obtain ⟨_,h⟩:=AQ h
  unfold QJ at h
  split at h
  ·split at h
   ·split at h
    ·split at h<;>first|exact Cp h|cases h
    ·cases h
   ·cases h
  ·cases h
 | extract x i=>
  simp only [opA] at h
  split at h
  ·split at h
   ·exact Cp h
   ·cases h
  ·cases h
 | makeMap t r=>
  cases r with
  | none=>
   obtain ⟨_,h⟩:=AQ h
   split at h
   ·cases h;trivial
   ·cases h
  | some x=>
   obtain ⟨_,h⟩:=AQ h
   split at h
   ·cases h;trivial
   ·cases h
 | load t a=>
  obtain ⟨_,h⟩:=AQ h
  simp only [Xx] at ho
  split at ho
  ·rename_i k off ha
   rw [ha] at h
   simp only [C0] at h
   split at ho
   ·rename_i cells hc
    rw [hc] at h
    simp only at h
    split at h
    ·exact FK h (Jm1 ho)
    ·cases h
   ·cases ho
  ·rename_i e' off ha
   rw [ha] at h
   simp only [C0] at h
   split at h
   ·exact FK h (Jm1 ho)
   ·cases h
  ·cases ho
 | store t a v=>
  obtain ⟨_,h⟩:=AQ h
  simp only [Xx] at ho
  split at ho
  ·rename_i k off ha
   rw [ha] at h
   simp only [DT] at h
   split at ho
   ·rename_i cells hc
    rw [hc] at h
    simp only at h
    obtain ⟨_,h⟩:=AQ h
    cases h
    simp only [JmN] at ho
    exact ⟨JmT ho.1,Jm1 ho.2⟩
   ·cases ho
  ·cases ho
 | binOp op t x y t'=>exact Jdm h ho
 | convert a b x=>
  obtain ⟨_,h⟩:=AQ h
  simp only [Xx] at ho
  split at ho
  ·rename_i k1 k2 n hk hx
   rw [hk,hx] at h
   unfold Ta at h
   split at h
   ·rename_i heq _;cases heq
   ·exact Cp h
   ·exact Cp h
   ·cases h
  ·rename_i n hk hx
   rw [hk,hx] at h
   unfold Ta at h
   split at h
   ·rename_i heq _;cases heq
   ·exact Cp h
   ·exact Cp h
   ·cases h
  ·cases ho
 | call c=>
  obtain ⟨callee,args,ts⟩:=c
  cases callee with
  | value f=>cases ho
  | invoke r m=>cases ho
  | builtin b=>
   cases b<;>first|(cases ho;done)|skip
   all_goals simp only [opA] at h
   ·split at h
    ·obtain ⟨_,h⟩:=AQ h
     unfold WS at h
     split at h<;>first|exact Cp h|cases h
    ·cases h
   ·split at h
    ·exact Cp h
    ·cases h
   ·split at h
    ·exact Cp h
    ·cases h
 | buildSlice t len parts=>
  obtain ⟨_,h⟩:=AQ h
  split at h
  ·obtain ⟨_,h⟩:=AQ h
   split at h
   ·rename_i r hr
    cases h
    refine Ja0 (parts:=parts.toList.map λ p=>(p.1,ev p.2)) ?_ hr
    rw [List.all_map]
    exact ho
   ·cases h
  ·cases h
 | indexAddr t x i=>
  obtain ⟨_,h⟩:=AQ h
  simp only [Xx] at ho
  split at ho
  ·rename_i n esz k off k' m hk hx hi
   rw [hk,hx,hi] at h
   simp only [Ih,P4] at h
   exact FK h (by simpa using ho)
  ·rename_i n esz a b c d k' m hk hx hi
   rw [hk,hx,hi] at h
   simp only [Ih,P4] at h
   exact FK h (by simpa using ho)
  ·rename_i n esz a b k' m hk hx hi
   rw [hk,hx,hi] at h
   simp only [Ih,P4] at h
   exact FK h (by simpa using ho)
  ·cases ho
 | _=>cases ho
end Go.AI
end
section
namespace Go.AI
def PO:AV->Bool
 | .gv _ _=>false
 | _=>true
theorem Nu {g:Bool}:∀ {l:List AV},l.all PO=true->Ed g l:=by
 intro l
 induction l with
 | nil=>intro _;trivial
 | cons v l ih=>
  intro h
  simp only [List.all_cons,JmN] at h
  cases v<;>first|exact ih h.2|(cases h.1;done)
def Jdo:Op->Bool
 | .pick _ _ _=>true
 | .call ⟨.value _,_,_⟩=>true
 | _=>false
def Ja1 (Γ:Cx) (all:List Oper) (o:Oper) (st:St):Option St:=
 match Bk all st.env o.guard with
 | none=>none
 | some g=>bif Bv Γ.nt o.dst&&!Jdo o.op&&Xx Γ.ty (λ x=>unG (Aj st.env x)) st.objs o.op&&(o.op.operands.toList.map (Aj st.env)).all PO&&!(o.guard.isSome&&isW o.op) then
   (match opA Γ.ty (λ x=>unG (Aj st.env x)) st.objs o.op with
   | some e=>bif (e.upd.isSome&&o.guard.isSome)||!e.rm.isEmpty then none else some (Dh o.dst o.guard.isSome g e st)
   | none=>none)
  else none
theorem Rv {Γ:Cx} {d:Bool} {o:Oper} {Q:St->Prop} {st:St} {g:Bool} (hpc:Jdo o.op=false) (h:match opA Γ.ty (λ x=>unG (Aj st.env x)) st.objs o.op with
   | some e=>Ed g (o.op.operands.toList.map (Aj st.env))/\(g=true->e.ob)/\(bif (e.upd.isSome&&o.guard.isSome)||(!e.rm.isEmpty&&(o.guard.isSome||(d&&!isW o.op))) then False else Q (Dh o.dst o.guard.isSome g e st))
   | none=>False):stepG Γ d o Q st g:=by
 unfold stepG
 split
 ·rename_i hop;rw [hop] at hpc;cases hpc
 ·rename_i hop;rw [hop] at hpc;cases hpc
 ·exact h
theorem Ja2 {Γ:Cx} {d:Bool} {all:List Oper} {o:Oper} {st st':St} {Q:St->Prop} (h:Ja1 Γ all o st=some st') (hq:Q st'):AP Γ d all o Q st:=by
 unfold Ja1 at h
 unfold AP
 cases hg:Bk all st.env o.guard with
 | none=>rw [hg] at h;cases h
 | some g=>
  rw [hg] at h
  obtain ⟨hc,h⟩:=AQ h
  simp only [JmN,Bool.not_eq_true'] at hc
  obtain ⟨⟨⟨⟨h1,h2⟩,h3⟩,h4⟩,h5⟩:=hc
  simp only [h1,JmC,cond_false]
  split at h
  ·rename_i e he
   cases hb:(e.upd.isSome&&o.guard.isSome)||!e.rm.isEmpty with
   | true=>rw [hb] at h;cases h
   | false=>
    rw [hb,cond_false] at h
    cases h
    simp only [JmL,Bool.not_eq_false'] at hb
    obtain ⟨hb1,hb2⟩:=hb
    have hrm:e.rm=[]:=isEmpty_nil hb2
    refine ⟨λ _=>.inl (Rv h2 ?_),λ hgf=>?_⟩
    ·rw [he]
     refine ⟨Nu h4,λ _=>Ru h3 he,?_⟩
     rw [hb1,hrm]
     exact hq
    ·have hgs:o.guard.isSome=true:=by
      cases hgo:o.guard with
      | none=>rw [hgo] at hg;cases hg;cases hgf
      | some x=>rfl
     have hupd:e.upd=none:=by
      rw [hgs,Bool.and_true] at hb1
      cases hu:e.upd with
      | none=>rfl
      | some x=>rw [hu] at hb1;cases hb1
     refine ⟨e.v,e.obs,λ hm=>?_,?_⟩
     ·rw [hgs,Bool.true_and] at h5
      exact Tm h5 hm he
     ·subst hgf
      simp only [Dh,hrm,hupd,rmA,BH] at hq
      exact hq
  ·cases h
def Zx (Γ:Cx) (all:List Oper):List Oper->St->Option St
 | [],st=>some st
 | o::l,st=>match Ja1 Γ all o st with
  | some st'=>Zx Γ all l st'
  | none=>none
variable {Γ:Cx} {C:Code} {p p0 p1:List Nat} {Q:Ex->St->Prop} {s s':St} {K:St->Prop} {i:Nat}
theorem Jdp {d:Bool} {all:List Oper}:∀ (l m:List Oper) (st:St),Zx Γ all l st=some s'->GP Γ d all m K s'->GP Γ d all (l++m) K st:=by
 intro l
 induction l with
 | nil=>intro m st h hk;cases h;exact hk
 | cons o l ih=>
  intro m st h hk
  simp only [Zx] at h
  split at h
  ·rename_i st1 h1
   exact Ja2 h1 (ih m st1 h hk)
  ·cases h
theorem Jkm (n j:Nat) (h:Zx Γ (A0 (nav p C)) (((A0 (nav p C)).drop i).take n) s=some s') (hj:i+n=j) (hk:AX Γ C p j K s'):AX Γ C p i K s:=by
 unfold AX at hk ⊢
 have:(A0 (nav p C)).drop i=((A0 (nav p C)).drop i).take n++(A0 (nav p C)).drop j:=by
  rw [← hj,← List.drop_drop,List.take_append_drop]
 rw [this]
 exact Jdp _ _ _ h hk
def FL (x:Option Eff) (v:AV) (obs:List Ob) (rm:List Nat) (upd:Option (Nat×Ob)):Prop:=∃ ob,x=some ⟨v,obs,rm,upd,ob⟩/\ob
def Oz (Γ:Cx) (c:Code) (i:Nat) (s:St):Option Eff:=
 match (A0 c)[i]? with
 | some o=>opA Γ.ty (λ x=>unG (Aj s.env x)) s.objs o.op
 | none=>none
def L7 (Γ:Cx) (c:Code) (i:Nat) (v:AV) (obs:List Ob) (rm:List Nat) (upd:Option (Nat×Ob)) (s:St):Option St:=
 match (A0 c)[i]? with
 | some o=>bif o.guard.isNone&&Bv Γ.nt o.dst&&!Jdo o.op&&(o.op.operands.toList.map (Aj s.env)).all PO&&!(!rm.isEmpty&&(Mt c&&!isW o.op)) then some ⟨putA o.dst false true v s.env,BH (rmA s.objs rm) upd++obs.map some⟩ else none
 | none=>none
theorem Cf {all:List Oper} {o:Oper} (h:all[i]? = some o):all.drop i=o::all.drop (i+1):=by
 have hl:=Ad h
 rw [JmM hl] at h
 cases h
 exact List.drop_eq_getElem_cons hl
theorem JlG {v:AV} {obs:List Ob} {rm:List Nat} {upd:Option (Nat×Ob)} {x:Option Eff} (j:Nat) (hx:Oz Γ (nav p C) i s=x) (ho:FL x v obs rm upd) (hn:L7 Γ (nav p C) i v obs rm upd s=some s') (hj:i+1=j) (hk:AX Γ C p j K s'):AX Γ C p i K s:=by
 subst hj
 unfold AX at hk ⊢
 unfold Oz at hx
 unfold L7 at hn
 split at hn
 ·rename_i o hi
  rw [hi] at hx
  obtain ⟨hc,hn⟩:=AQ hn
  simp only [JmN,Bool.not_eq_true'] at hc
  obtain ⟨⟨⟨⟨h1,h2⟩,h3⟩,h4⟩,h5⟩:=hc
  cases hn
  rw [Cf hi]
  show AP _ _ _ _ _ _
  have hgN:o.guard=none:=by simpa using h1
  unfold AP
  rw [hgN]
  simp only [Bk,h2,JmC,cond_false]
  refine ⟨λ _=>.inl (Rv h3 ?_),λ h=>by cases h⟩
  obtain ⟨ob,e1,hob⟩:=ho
  simp only [hx,e1]
  refine ⟨Nu h4,λ _=>hob,?_⟩
  rw [hgN]
  simp only [Option.isSome_none,Bool.and_false,Bool.false_or,h5,cond_false]
  exact hk
 ·cases hn
def DZ (g:Bool):List Bool->Prop
 | []=>True
 | b::r=>(g=true->b=true)/\DZ g r
theorem C9 {g:Bool}:DZ g []:=trivial
theorem BW {g b:Bool} {r:List Bool} (h:g=true->b=true) (hr:DZ g r):DZ g (b::r):=⟨h,hr⟩
def gvs:List AV->List Bool
 | []=>[]
 | .gv g _::r=>g::gvs r
 | _::r=>gvs r
theorem Kn {g:Bool}:∀ {l:List AV},DZ g (gvs l)->Ed g l:=by
 intro l
 induction l with
 | nil=>intro _;trivial
 | cons v l ih=>
  intro h
  cases v<;>first|exact ih h|exact ⟨h.1,ih h.2⟩
def gAt (c:Code) (i:Nat) (s:St):Option Bool:=
 match (A0 c)[i]? with
 | some o=>match o.guard with
  | some x=>Bk (A0 c) s.env (some x)
  | none=>none
 | none=>none
def Ej (c:Code) (i:Nat) (s:St):List Bool:=
 match (A0 c)[i]? with
 | some o=>gvs (o.op.operands.toList.map (Aj s.env))
 | none=>[]
def Nv (Γ:Cx) (c:Code) (i:Nat) (g:Bool) (v:AV) (obs:List Ob) (s:St):Option St:=
 match (A0 c)[i]? with
 | some o=>bif o.guard.isSome&&Bv Γ.nt o.dst&&!Jdo o.op&&(CT o.op||obs.isEmpty) then some ⟨putA o.dst true g v s.env,s.objs++obs.map some⟩ else none
 | none=>none
theorem JfJ {g:Bool} {v:AV} {obs:List Ob} {x:Option Eff} {gs:List Bool} (j:Nat) (hg:gAt (nav p C) i s=some g) (hx:Oz Γ (nav p C) i s=x) (ho:g=true->FL x v obs [] none) (hgs:Ej (nav p C) i s=gs) (hi:DZ g gs) (hn:Nv Γ (nav p C) i g v obs s=some s') (hj:i+1=j) (hk:AX Γ C p j K s'):AX Γ C p i K s:=by
 subst hj
 unfold AX at hk ⊢
 unfold Oz at hx
 unfold Nv at hn
 unfold gAt at hg
 unfold Ej at hgs
 split at hn
 ·rename_i o hii
  rw [hii] at hx hg hgs
  simp only at hx hg hgs
  obtain ⟨hc,hn⟩:=AQ hn
  simp only [JmN,Bool.not_eq_true'] at hc
  obtain ⟨⟨⟨h1,h2⟩,h3⟩,h4⟩:=hc
  cases hn
  rw [Cf hii]
  show AP _ _ _ _ _ _
  unfold AP
  cases hgo:o.guard with
  | none=>rw [hgo] at h1;cases h1
  | some y=>
   rw [hgo] at hg
   simp only at hg
   simp only [hg,h2,JmC,cond_false]
   refine ⟨λ hgt=>.inl (Rv h3 ?_),λ hgf=>⟨v,obs,λ hm=>?_,?_⟩⟩
   ·obtain ⟨ob,e1,hob⟩:=ho hgt
    simp only [hx,e1]
    refine ⟨Kn (by rw [hgs];exact hi),λ _=>hob,?_⟩
    simp only [Option.isSome_none,Bool.false_and,List.isEmpty_nil,JmC,Bool.or_self,cond_false,hgo]
    exact hk
   ·rw [hm,Bool.false_or] at h4
    exact isEmpty_nil h4
   ·subst hgf;exact hk
 ·cases hn
def Mw (c:Code) (i:Nat) (s:St):Option Eff:=
 match (A0 c)[i]? with
 | some o=>match o.op with
  | .pick x y z=>F9 (Aj s.env x) (Aj s.env y) (Aj s.env z)
  | _=>none
 | none=>none
def Tw (Γ:Cx) (c:Code) (i:Nat) (v:AV) (s:St):Option St:=
 match (A0 c)[i]? with
 | some o=>bif o.guard.isNone&&Bv Γ.nt o.dst then some ⟨putA o.dst false true v s.env,s.objs⟩ else none
 | none=>none
def Uf (Γ:Cx) (c:Code) (i:Nat) (g:Bool) (v:AV) (s:St):Option St:=
 match (A0 c)[i]? with
 | some o=>bif o.guard.isSome&&Bv Γ.nt o.dst then some ⟨putA o.dst true g v s.env,s.objs⟩ else none
 | none=>none
theorem JfK {v:AV} {x:Option Eff} (j:Nat) (hx:Mw (nav p C) i s=x) (ho:FL x v [] [] none) (hn:Tw Γ (nav p C) i v s=some s') (hj:i+1=j) (hk:AX Γ C p j K s'):AX Γ C p i K s:=by
 subst hj
 unfold AX at hk ⊢
 unfold Mw at hx
 unfold Tw at hn
 split at hn
 ·rename_i o hi
  rw [hi] at hx
  simp only at hx
  obtain ⟨hc,hn⟩:=AQ hn
  simp only [JmN] at hc
  obtain ⟨h1,h2⟩:=hc
  cases hn
  obtain ⟨ob,e1,hob⟩:=ho
  rw [Cf hi]
  show AP _ _ _ _ _ _
  have hgN:o.guard=none:=by simpa using h1
  split at hx
  ·rename_i a b c hop
   unfold AP
   rw [hgN]
   simp only [Bk,h2,JmC,cond_false]
   refine ⟨λ _=>.inl ?_,λ h=>by cases h⟩
   unfold stepG
   rw [hop]
   have:opA Γ.ty (Aj s.env) s.objs (.pick a b c)=some ⟨v,[],[],none,ob⟩:=by rw [← e1,← hx];rfl
   simp only [this]
   refine ⟨λ _=>hob,?_⟩
   rw [hgN]
   simpa [Dh,rmA,BH] using hk
  ·rw [← hx] at e1;cases e1
 ·cases hn
theorem Jgt {g:Bool} {v:AV} {x:Option Eff} (j:Nat) (hg:gAt (nav p C) i s=some g) (hx:Mw (nav p C) i s=x) (ho:g=true->FL x v [] [] none) (hn:Uf Γ (nav p C) i g v s=some s') (hj:i+1=j) (hk:AX Γ C p j K s'):AX Γ C p i K s:=by
 subst hj
 unfold AX at hk ⊢
 unfold Mw at hx
 unfold gAt at hg
 unfold Uf at hn
 split at hn
 ·rename_i o hi
  rw [hi] at hx hg
  simp only at hx hg
  obtain ⟨hc,hn⟩:=AQ hn
  simp only [JmN] at hc
  obtain ⟨h1,h2⟩:=hc
  cases hn
  rw [Cf hi]
  show AP _ _ _ _ _ _
  cases hgo:o.guard with
  | none=>rw [hgo] at h1;cases h1
  | some y=>
   rw [hgo] at hg
   simp only at hg
   unfold AP
   rw [hgo]
   simp only [hg,h2,JmC,cond_false]
   refine ⟨λ hgt=>.inl ?_,λ hgf=>⟨v,[],λ _=>rfl,?_⟩⟩
   ·obtain ⟨ob,e1,hob⟩:=ho hgt
    split at hx
    ·rename_i a b c hop
     unfold stepG
     rw [hop]
     have:opA Γ.ty (Aj s.env) s.objs (.pick a b c)=some ⟨v,[],[],none,ob⟩:=by rw [← e1,← hx];rfl
     simp only [this]
     refine ⟨λ _=>hob,?_⟩
     rw [hgo]
     simpa [Dh,rmA,BH] using hk
    ·rw [← hx] at e1;cases e1
   ·subst hgf;simpa using hk
 ·cases hn
end Go.AI
end
section
namespace Go.AI
def EW:List (Nat×Nat)->Prop
 | []=>True
 | (a,b)::r=>a<=b/\EW r
theorem leZ:EW []:=trivial
theorem leK {a b:Nat} {r:List (Nat×Nat)} (h:a<=b) (hr:EW r):EW ((a,b)::r):=⟨h,hr⟩
theorem Nw {l m:List (Nat×Nat)} (h:EW (l++m)):EW l/\EW m:=by
 induction l with
 | nil=>exact ⟨trivial,h⟩
 | cons a l ih=>exact ⟨⟨h.1,(ih h.2).1⟩,(ih h.2).2⟩
def xD (objs:List (Option Ob)):AV->Option (D×List Nat×List (Nat×Nat))
 | .d .nil=>some (.sl [],[],[])
 | .d x=>some (x,[],[])
 | .osl k sz lo n=>match obA objs k with
  | some (.arr sz' es)=>bif Nat.beq sz sz' then some (.sl ((es.drop lo).take n),[k],[(lo+n,es.length)]) else none
  | _=>none
 | _=>none
def xDs (objs:List (Option Ob)):List AV->Option (List D×List Nat×List (Nat×Nat))
 | []=>some ([],[],[])
 | v::vs=>match xD objs v,xDs objs vs with
  | some (x,k,o),some (xs,ks,os)=>some (x::xs,k++ks,o++os)
  | _,_=>none
def xA (objs:List (Option Ob)):AV->Option (AV×List Nat×List (Nat×Nat))
 | .agg l=>match xDs objs l with
  | some (x,k,o)=>some (.agg (x.map .d),k,o)
  | none=>none
 | .ptr k off=>match obA objs k with
  | some (.box cells)=>match xDs objs cells with
   | some (x,ks,o)=>bif ks.contains k then none else some (.dptr x off,k::ks,o)
   | none=>none
  | _=>none
 | .eptr k sz i off=>match obA objs k with
  | some (.arr sz' es)=>bif Nat.beq sz sz' then some (.dptr (es[i]?.getD []) off,[k],[(i+1,es.length)]) else none
  | some (.narr sz' es)=>bif Nat.beq sz sz' then some (.dptr ((es[i]?.getD []).map ofN) off,[k],[(i+1,es.length),(U9 es,0)]) else none
  | _=>none
 | .dptr e off=>some (.dptr e off,[],[])
 | .osl k sz lo n=>match obA objs k with
  | some (.narr sz' es)=>bif Nat.beq sz sz' then some (.d (.sl (((es.drop lo).take n).map λ e=>e.map ofN)),[k],[(lo+n,es.length),(U9 es,0)]) else none
  | _=>match xD objs (.osl k sz lo n) with
   | some (x,k,o)=>some (.d x,k,o)
   | none=>none
 | v=>match xD objs v with
  | some (x,k,o)=>some (.d x,k,o)
  | none=>none
def xAs (objs:List (Option Ob)):List AV->Option (List AV×List Nat×List (Nat×Nat))
 | []=>some ([],[],[])
 | v::vs=>match xA objs v,xAs objs vs with
  | some (x,k,o),some (xs,ks,os)=>some (x::xs,k++ks,o++os)
  | _,_=>none
theorem Ja3 {objs:List (Option Ob)} {v:AV} {x:D} {ks:List Nat} {o:List (Nat×Nat)} (h:xD objs v=some (x,ks,o)) (ho:EW o):∃ ob,Ig objs v=some ⟨x,ks,ob⟩/\ob:=by
 unfold xD at h
 split at h
 ·cases h;exact ⟨_,rfl,trivial⟩
 ·rename_i y hy
  cases h
  refine ⟨True,?_,trivial⟩
  unfold Ig
  split
  ·rename_i e;cases e;exact absurd rfl hy
  ·rename_i e;cases e;rfl
  ·rename_i e;cases e
  ·rename_i e1 _;exact absurd rfl (e1 _)
 ·rename_i k sz lo n
  split at h
  ·rename_i sz' es hob
   obtain ⟨hb,h⟩:=AQ h
   cases h
   refine ⟨_,?_,ho.1⟩
   simp only [Ig,hob,hb,cond_true]
  ·cases h
 ·cases h
theorem Xy {objs:List (Option Ob)}:∀ {l:List AV} {x:List D} {ks:List Nat} {o:List (Nat×Nat)},xDs objs l=some (x,ks,o)->EW o->∃ ob,CS objs l=some ⟨x,ks,ob⟩/\ob:=by
 intro l
 induction l with
 | nil=>intro x ks o h _;cases h;exact ⟨_,rfl,trivial⟩
 | cons v l ih=>
  intro x ks o h ho
  simp only [xDs] at h
  split at h
  ·rename_i a b c a' b' c' h1 h2
   cases h
   obtain ⟨o1,o2⟩:=Nw ho
   obtain ⟨p1,e1,q1⟩:=Ja3 h1 o1
   obtain ⟨p2,e2,q2⟩:=ih h2 o2
   exact ⟨p1/\p2,by simp only [CS,e1,e2],q1,q2⟩
  ·cases h
theorem Jkn {objs:List (Option Ob)} {v x:AV} {ks:List Nat} {o:List (Nat×Nat)} (h:xA objs v=some (x,ks,o)) (ho:EW o):∃ ob,M7 objs v=some ⟨x,ks,ob⟩/\ob:=by
 unfold xA at h
 split at h
 ·split at h
  ·rename_i h1
   cases h
   obtain ⟨p1,e1,q1⟩:=Xy h1 ho
   exact ⟨_,by simp only [M7,e1],q1⟩
  ·cases h
 ·rename_i k off
  split at h
  ·rename_i cells hk
   split at h
   ·rename_i x ks' o' h1
    cases hc:ks'.contains k with
    | true=>rw [hc] at h;cases h
    | false=>
     rw [hc,cond_false] at h
     cases h
     obtain ⟨p1,e1,q1⟩:=Xy h1 ho
     refine ⟨k ∉ ks'/\p1,by simp only [M7,hk,e1],?_,q1⟩
     intro hm
     rw [List.contains_iff_mem.2 hm] at hc
     cases hc
   ·cases h
  ·cases h
 ·rename_i k sz i off
  split at h
  ·rename_i sz' es hk
   obtain ⟨hb,h⟩:=AQ h
   cases h
   exact ⟨sz=sz'/\i<es.length,by simp only [M7,hk],JmT hb,ho.1⟩
  ·rename_i sz' es hk
   obtain ⟨hb,h⟩:=AQ h
   cases h
   exact ⟨sz=sz'/\i<es.length/\U9 es=0,by simp only [M7,hk],JmT hb,ho.1,Nat.le_zero.1 ho.2.1⟩
  ·cases h
 ·cases h;exact ⟨_,rfl,trivial⟩
 ·rename_i k sz lo n
  split at h
  ·rename_i sz' es hk
   obtain ⟨hb,h⟩:=AQ h
   cases h
   exact ⟨lo+n<=es.length/\U9 es=0,by simp only [M7,hk,hb,cond_true],ho.1,Nat.le_zero.1 ho.2.1⟩
  ·rename_i hne
   split at h
   ·rename_i h1
    cases h
    obtain ⟨p1,e1,q1⟩:=Ja3 h1 ho
    exact ⟨p1,by simp only [M7,e1],q1⟩
   ·cases h
 ·rename_i hn1 hn2 hn3 hn4 hn5
  split at h
  ·rename_i h1
   cases h
   obtain ⟨p1,e1,q1⟩:=Ja3 h1 ho
   refine ⟨p1,?_,q1⟩
   unfold M7
   split
   ·exact absurd rfl (hn1 _)
   ·exact absurd rfl (hn2 _ _)
   ·exact absurd rfl (hn3 _ _ _ _)
   ·exact absurd rfl (hn4 _ _)
   ·exact absurd rfl (hn5 _ _ _ _)
   ·rw [e1]
  ·cases h
theorem Ja4 {objs:List (Option Ob)}:∀ {l:List AV} {x:List AV} {ks:List Nat} {o:List (Nat×Nat)},xAs objs l=some (x,ks,o)->EW o->∃ ob,L4 objs l=some ⟨x,ks,ob⟩/\ob:=by
 intro l
 induction l with
 | nil=>intro x ks o h _;cases h;exact ⟨_,rfl,trivial⟩
 | cons v l ih=>
  intro x ks o h ho
  simp only [xAs] at h
  split at h
  ·rename_i a b c a' b' c' h1 h2
   cases h
   obtain ⟨o1,o2⟩:=Nw ho
   obtain ⟨p1,e1,q1⟩:=Jkn h1 o1
   obtain ⟨p2,e2,q2⟩:=ih h2 o2
   exact ⟨p1/\p2,by simp only [L4,e1,e2],q1,q2⟩
  ·cases h
def H6 (c:Code) (i:Nat) (s:St):Option (FuncId×List AV×List Nat×List (Nat×Nat)):=
 match (A0 c)[i]? with
 | some o=>match o.op with
  | .call ⟨.value (.func f),args,_⟩=>match xAs s.objs (args.toList.map λ x=>unG (Aj s.env x)) with
   | some (x,ks,os)=>some (f,x,ks,os)
   | none=>none
  | _=>none
 | none=>none
def Tx:List AV->List Nat
 | []=>[]
 | .own _ es::r=>es.length::Tx r
 | _::r=>Tx r
def V4:AV->List Nat
 | .own _ es=>[es.length]
 | .agg l=>Tx l
 | _=>[]
def V5:List AV->List Nat
 | []=>[]
 | v::r=>V4 v++V5 r
def Hz:AV->List Nat
 | .tup l=>V5 l
 | v=>V4 v
def ilC (m:Bool) (n:Nat):List Nat->List AV->List AV×List Nat
 | ls,[]=>([],ls)
 | ls,.own sz es::r=>bif m then (.osl n sz 0 (ls.headD 0)::(ilC m (n+1) ls.tail r).1,(ilC m (n+1) ls.tail r).2) else (.d (.sl es)::(ilC m n ls.tail r).1,(ilC m n ls.tail r).2)
 | ls,.d x::r=>(.d x::(ilC m n ls r).1,(ilC m n ls r).2)
 | ls,_::r=>(.top::(ilC m n ls r).1,(ilC m n ls r).2)
def ilA (m:Bool) (n:Nat) (ls:List Nat):AV->AV×List Nat
 | .own sz es=>bif m then (.osl n sz 0 (ls.headD 0),ls.tail) else (.d (.sl es),ls.tail)
 | .agg l=>(.agg (ilC m n ls l).1,(ilC m n ls l).2)
 | .d x=>(.d x,ls)
 | _=>(.top,ls)
def ilT (m:Bool) (n:Nat):List Nat->List AV->List AV
 | _,[]=>[]
 | ls,v::r=>(ilA m n ls v).1::ilT m (n+(BI m n v).2.length) (ilA m n ls v).2 r
def ilR (m:Bool) (n:Nat) (ls:List Nat):AV->AV
 | .tup l=>.tup (ilT m n ls l)
 | v=>(ilA m n ls v).1
theorem Jgu (m:Bool):∀ (l:List AV) (n:Nat) (rest:List Nat),ilC m n (Tx l++rest) l=((A5 m n l).1,rest):=by
 intro l
 induction l with
 | nil=>intro n rest;rfl
 | cons v l ih=>
  intro n rest
  cases v<;>simp only [Tx,List.cons_append,ilC,A5,List.headD_cons,List.tail_cons,ih]<;>try rfl
  cases m<;>simp only [cond_true,cond_false]
theorem Xz (m:Bool) (v:AV) (n:Nat) (rest:List Nat):ilA m n (V4 v++rest) v=((BI m n v).1,rest):=by
 cases v with
 | own sz es=>cases m<;>rfl
 | agg l=>simp only [V4,ilA,BI,Jgu]
 | _=>rfl
theorem Jgv (m:Bool):∀ (l:List AV) (n:Nat),ilT m n (V5 l) l=(Ci m n l).1:=by
 intro l
 induction l with
 | nil=>intro n;rfl
 | cons v l ih=>intro n;simp only [V5,ilT,Ci,Xz,ih]
theorem Ja5 (m:Bool) (n:Nat) (r:AV) {ls:List Nat} (h:Hz r=ls):ilR m n ls r=(BB m n r).1:=by
 subst h
 cases r with
 | tup l=>simp only [Hz,ilR,BB,Jgv]
 | own sz es=>have:=Xz m (.own sz es) n [];simp only [List.append_nil] at this;simp only [Hz,ilR,BB,this]
 | agg l=>have:=Xz m (.agg l) n [];simp only [List.append_nil] at this;simp only [Hz,ilR,BB,this]
 | _=>rfl
def PP (Γ:Cx) (c:Code) (i:Nat) (m:Bool) (ls:List Nat) (r:AV) (s:St):Option St:=
 match (A0 c)[i]? with
 | some o=>bif o.guard.isNone&&Bv Γ.nt o.dst&&(o.op.operands.toList.map (Aj s.env)).all PO then some ⟨putA o.dst false true (ilR m s.objs.length ls r) s.env,s.objs++(BB m s.objs.length r).2.map some⟩ else none
 | none=>none
def Mx (Γ:Cx) (c:Code) (i:Nat) (g m:Bool) (ls:List Nat) (r:AV) (s:St):Option St:=
 match (A0 c)[i]? with
 | some o=>bif o.guard.isSome&&Bv Γ.nt o.dst then some ⟨putA o.dst true g (ilR m s.objs.length ls r) s.env,s.objs++(BB m s.objs.length r).2.map some⟩ else none
 | none=>none
variable {Γ:Cx} {C:Code} {p p0 p1:List Nat} {Q:Ex->St->Prop} {s s':St} {K:St->Prop} {i:Nat} {nk:Nat}
theorem Ym {o:Oper} {f:FuncId} {args:Array Operand} {ts:Array TypeId} (hop:o.op=.call ⟨.value (.func f),args,ts⟩) {env:List (Nat×AV)} (h:(o.op.operands.toList.map (Aj env)).all PO=true):(args.toList.map (Aj env)).all PO=true:=by
 rw [hop] at h
 simp only [Op.operands,Call.operands] at h
 simp only [Array.toList_append,List.map_append,List.all_append,JmN] at h
 exact h.2
theorem Ja6 (j:Nat) (m:Bool) {f:FuncId} {xs ys:List AV} {ks:List Nat} {obl:List (Nat×Nat)} {r:AV} (hc:H6 (nav p C) i s=some (f,xs,ks,obl)) (hob:EW obl) (hxs:xs=ys) (hr:Γ.calls f ys r) (hf:ks=[]\/Ij r) {ls:List Nat} (hls:Hz r=ls) (hn:PP Γ (nav p C) i m ls r s=some s') (hj:i+1=j) (hk:AX Γ C p j K s'):AX Γ C p i K s:=by
 subst hj
 subst hxs
 unfold AX at hk ⊢
 unfold H6 at hc
 unfold PP at hn
 rw [Ja5 m _ r hls] at hn
 split at hn
 ·rename_i o hi
  rw [hi] at hc
  simp only at hc
  obtain ⟨hcc,hn⟩:=AQ hn
  simp only [JmN] at hcc
  obtain ⟨⟨h1,h2⟩,h3⟩:=hcc
  cases hn
  rw [Cf hi]
  show AP _ _ _ _ _ _
  have hgN:o.guard=none:=by simpa using h1
  split at hc
  ·rename_i f' args ts hop
   split at hc
   ·rename_i x ks' os hx
    cases hc
    obtain ⟨ob,e1,q1⟩:=Ja4 hx hob
    unfold AP
    rw [hgN]
    simp only [Bk,h2,JmC,cond_false]
    refine ⟨λ _=>.inl ?_,λ h=>by cases h⟩
    unfold stepG
    rw [hop]
    refine ⟨Nu (Ym hop h3),?_⟩
    unfold JE
    rw [e1]
    refine ⟨λ _=>q1,m,r,λ _=>hr,?_,?_⟩
    ·rcases hf with rfl|hf
     ·trivial
     ·cases ks.isEmpty<;>first|trivial|exact hf
    ·rw [hgN];exact hk
   ·cases hc
  ·cases hc
 ·cases hn
theorem Ja7 {g:Bool} {gs:List Bool} (j:Nat) (m:Bool) {f:FuncId} {xs ys:List AV} {ks:List Nat} {obl:List (Nat×Nat)} {r:AV} (hg:gAt (nav p C) i s=some g) (hc:H6 (nav p C) i s=some (f,xs,ks,obl)) (hob:g=true->EW obl) (hxs:g=true->xs=ys) (hr:g=true->Γ.calls f ys r) (hf:ks=[]\/Ij r) (hgs:Ej (nav p C) i s=gs) (hi:DZ g gs) {ls:List Nat} (hls:Hz r=ls) (hn:Mx Γ (nav p C) i g m ls r s=some s') (hj:i+1=j) (hk:AX Γ C p j K s'):AX Γ C p i K s:=by
 subst hj
 have hr:g=true->Γ.calls f xs r:=λ h=>by rw [hxs h];exact hr h
 unfold AX at hk ⊢
 unfold H6 at hc
 unfold gAt at hg
 unfold Ej at hgs
 unfold Mx at hn
 rw [Ja5 m _ r hls] at hn
 split at hn
 ·rename_i o hii
  rw [hii] at hc hg hgs
  simp only at hc hg hgs
  obtain ⟨hcc,hn⟩:=AQ hn
  simp only [JmN] at hcc
  obtain ⟨h1,h2⟩:=hcc
  cases hn
  rw [Cf hii]
  show AP _ _ _ _ _ _
  cases hgo:o.guard with
  | none=>rw [hgo] at h1;cases h1
  | some y=>
   rw [hgo] at hg
   simp only at hg
   split at hc
   ·rename_i f' args ts hop
    split at hc
    ·rename_i x ks' os hx
     cases hc
     unfold AP
     rw [hgo]
     simp only [hg,h2,JmC,cond_false]
     refine ⟨λ hgt=>.inl ?_,λ hgf=>⟨(BB m s.objs.length r).1,(BB m s.objs.length r).2,(λ hm=>by rw [hop] at hm;cases hm),?_⟩⟩
     ·unfold stepG
      rw [hop]
      refine ⟨?_,?_⟩
      ·have:=Kn (g:=g) (l:=o.op.operands.toList.map (Aj s.env)) (by rw [hgs];exact hi)
       rw [hop] at this
       simp only [Op.operands,Call.operands,Array.toList_append,List.map_append] at this
       exact this
      ·obtain ⟨ob,e1,q1⟩:=Ja4 hx (hob hgt)
       unfold JE
       rw [e1]
       refine ⟨λ _=>q1,m,r,hr,?_,?_⟩
       ·rcases hf with rfl|hf
        ·trivial
        ·cases ks.isEmpty<;>first|trivial|exact hf
       ·rw [hgo];exact hk
     ·subst hgf;exact hk
    ·cases hc
   ·cases hc
 ·cases hn
theorem Jko {g:Bool} {gs:List Bool} (j:Nat) (m:Bool) {f:FuncId} {xs ys:List AV} {ks:List Nat} {obl:List (Nat×Nat)} {r:AV} (hg:gAt (nav p C) i s=some g) (hc:H6 (nav p C) i s=some (f,xs,ks,obl)) (hob:EW obl) (hxs:xs=ys) (hr:g=true->Γ.calls f ys r) (hf:ks=[]\/Ij r) (hgs:Ej (nav p C) i s=gs) (hi:DZ g gs) {ls:List Nat} (hls:Hz r=ls) (hn:Mx Γ (nav p C) i g m ls r s=some s') (hj:i+1=j) (hk:AX Γ C p j K s'):AX Γ C p i K s:=
 Ja7 j m hg hc (λ _=>hob) (λ _=>hxs) hr hf hgs hi hls hn hj hk
def Ja8 (ty:Nat->Ty) (s:St):ResultVar->Option AV
 | .tmp t=>some (lkA s.env t)
 | .cell a t=>match lkA s.env a with
  | .ptr k off=>match obA s.objs k with
   | some (.box cells)=>bif (ty t).ok&&Nat.ble (off+(ty t).size) cells.length then BX cells off (ty t) else none
   | _=>none
  | _=>none
def Rw (ty:Nat->Ty) (s:St):List ResultVar->Option (List AV)
 | []=>some []
 | r::rs=>match Ja8 ty s r,Rw ty s rs with
  | some v,some vs=>some (v::vs)
  | _,_=>none
theorem Ja9 {ty:Nat->Ty} {r:ResultVar} {v:AV} (h:Ja8 ty s r=some v):∃ q,Zs ty s r=some (v,q)/\q:=by
 cases r with
 | tmp t=>cases h;exact ⟨_,rfl,trivial⟩
 | cell a t=>
  simp only [Ja8] at h
  split at h
  ·rename_i k off ha
   split at h
   ·rename_i cells hc
    obtain ⟨hb,h⟩:=AQ h
    simp only [JmN] at hb
    refine ⟨_,?_,Jm1 hb.2⟩
    simp only [Zs,hb.1,cond_true,ha,C0,hc,h,A4]
   ·cases h
  ·cases h
theorem Ug {ty:Nat->Ty}:∀ {rs:List ResultVar} {vs:List AV},Rw ty s rs=some vs->∃ q,Rq ty s rs=some (vs,q)/\q:=by
 intro rs
 induction rs with
 | nil=>intro vs h;cases h;exact ⟨_,rfl,trivial⟩
 | cons r rs ih=>
  intro vs h
  simp only [Rw] at h
  split at h
  ·rename_i v vs' h1 h2
   cases h
   obtain ⟨p1,e1,q1⟩:=Ja9 h1
   obtain ⟨p2,e2,q2⟩:=ih h2
   exact ⟨p1/\p2,by simp only [Rq,e1,e2],q1,q2⟩
  ·cases h
theorem Jkp {ty:Nat->Ty} {rs:List ResultVar} {v r:AV} (ks:List Nat) (h:Rw ty s rs=some [v]) (ho:Rf s.objs v r) (hks:ksE (LC v r)=ks) (hnd:ks.Nodup):VX ty rs r s:=by
 have hn:(ksE (LC v r)).Nodup:=by rw [hks];exact hnd
 obtain ⟨q,e,hq⟩:=Ug h
 unfold VX
 rw [e]
 exact ⟨hq,ho,hn⟩
theorem Jkq {ty:Nat->Ty} {rs:List ResultVar} {vs l:List AV} (h:Rw ty s rs=some vs) (hl:Nat.beq vs.length 1=false) (ho:Xj s.objs vs l) (ks:List Nat) (hks:ksE (LD vs l)=ks) (hnd:ks.Nodup):VX ty rs (.tup l) s:=by
 have hn:(ksE (LD vs l)).Nodup:=by rw [hks];exact hnd
 obtain ⟨q,e,hq⟩:=Ug h
 unfold VX
 rw [e]
 split
 ·rename_i heq
  simp only [JmX,Prod.mk.injEq] at heq
  obtain ⟨rfl,_⟩:=heq
  cases hl
 ·rename_i heq
  simp only [JmX,Prod.mk.injEq] at heq
  obtain ⟨rfl,rfl⟩:=heq
  exact ⟨hq,ho,hn⟩
 ·rename_i heq;cases heq
theorem XA {objs:List (Option Ob)} {x:D}:LB objs (.d x) (.d x):=by
 cases x<;>first|rfl|exact .inl rfl
theorem Zy {objs:List (Option Ob)}:LB objs (.d .nil) (.d (.sl [])):=.inr rfl
theorem Zz {objs:List (Option Ob)} {sz:Nat}:LB objs (.d .nil) (.own sz []):=rfl
theorem Jba {α:Type} {enc:α->List D} {xs:List α} {objs:List (Option Ob)} {k sz:Nat} (h:obA objs k=some (.arr sz (xs.map enc))):LB objs (.osl k sz 0 xs.length) (.own sz (xs.map enc)):=by
 have hb:Nat.beq sz sz=true:=Nat.beq_refl sz
 simp only [LB,h,hb,cond_true,JmJ,Jm0,JmD,List.drop_zero,true_and]
 exact (List.take_of_length_le (by simp)).symm
def Rx (c:Code) (i:Nat) (s:St):Option (FuncId×List AV×List Nat):=
 match (A0 c)[i]? with
 | some o=>match o.op with
  | .call ⟨.value (.func f),args,_⟩=>some (f,args.toList.map λ x=>unG (Aj s.env x),AG s.objs (args.toList.map λ x=>unG (Aj s.env x)))
  | _=>none
 | none=>none
def Yn (Γ:Cx) (c:Code) (i:Nat) (ord:List Nat) (nb:Nat) (r:AV) (O1:List (Option Ob)) (s:St):Option St:=
 match (A0 c)[i]? with
 | some o=>bif !Mt c&&o.guard.isNone&&Bv Γ.nt o.dst&&(o.op.operands.toList.map (Aj s.env)).all PO&&Nat.ble nb ord.length&&Nat.ble nb O1.length&&ord.all (λ k=>Nat.blt k s.objs.length) then
   some ⟨putA o.dst false true (M8 (Dz ord s.objs.length nb) r) s.env,CI s.objs ord nb O1⟩ else none
 | none=>none
theorem lentS {f:FuncId} {xs ys:List AV} {ord:List Nat} {O0 O1:List (Option Ob)} {nb:Nat} {r:AV} (hc:Rx (nav p C) i s=some (f,xs,ord)) (hxs:xs.map (J2 ord)=ys) (hO:EV s.objs ord=O0) (hr:Γ.lent f ys O0 nb r O1) (hn:Yn Γ (nav p C) i ord nb r O1 s=some s') (hk:AX Γ C p (i+1) K s'):AX Γ C p i K s:=by
 subst hxs
 subst hO
 unfold AX at hk ⊢
 unfold Rx at hc
 unfold Yn at hn
 split at hn
 ·rename_i o hi
  rw [hi] at hc
  simp only at hc
  obtain ⟨hcc,hn⟩:=AQ hn
  simp only [JmN,Bool.not_eq_true'] at hcc
  obtain ⟨⟨⟨⟨⟨⟨h0,h1⟩,h2⟩,h3⟩,h4⟩,h5⟩,h6⟩:=hcc
  cases hn
  rw [Cf hi]
  show AP _ _ _ _ _ _
  have hgN:o.guard=none:=by simpa using h1
  split at hc
  ·rename_i f' args ts hop
   cases hc
   unfold AP
   rw [hgN]
   simp only [Bk,h2,JmC,cond_false]
   refine ⟨λ _=>.inr (.inr ?_),λ h=>by cases h⟩
   unfold X8
   refine ⟨h0,.inr ⟨hgN,.inr ?_⟩⟩
   rw [hop]
   refine ⟨Nu (Ym hop h3),nb,r,O1,hr,Jm1 h4,Jm1 h5,λ k hk=>?_,hk⟩
   have:=Jmz.1 h6 k hk
   have:=Jm1 this
   omega
  ·cases hc
 ·cases hn
theorem Jkr {P:Program} (hfol:P.follows .mixedOrders=true) (hΓ:FG P Γ) (hrd:Γ.rd=false) {f:FuncId} {fn:Func} {args:List AV} {r:AV} (hf:P.funcs[f]? = some fn) (hb:fn.body=some (Aw fn)) (hnm:(fn.name == "runtime.NumGoroutine")=false)
  (hnt:Γ.nt.n=fn.ntmps) (hlen:Nat.ble args.length fn.ntmps=true) (hs:(⟨(List.range args.length).zip args,[]⟩:St)=s) (h:wpA Γ (nav [] (Aw fn)) (VY Γ.ty fn.results.toList r) s):Aq P f args r:=
 Zu hfol hΓ hrd hf hb hnm hnt (Jm1 hlen) (by rw [hs];exact h)
theorem Jdq {P:Program} (hfol:P.follows .mixedOrders=true) (hΓ:FG P Γ) (hrd:Γ.rd=false) {f:FuncId} {fn:Func} {args:List AV} {objs objs1:List (Option Ob)} {nb:Nat} {r:AV} (hf:P.funcs[f]? = some fn) (hb:fn.body=some (Aw fn)) (hnm:(fn.name == "runtime.NumGoroutine")=false)
  (hnt:Γ.nt=⟨fn.ntmps,[],nb,Γ.nt.qf⟩) (hlen:Nat.ble args.length fn.ntmps=true)
  (hs:(⟨(List.range args.length).zip args,objs⟩:St)=s) (h:wpA Γ (nav [] (Aw fn)) (VZ nb Γ.ty fn.results.toList r objs1) s):BM P f args objs nb r objs1:=
 Zv hfol hΓ hrd hf hb hnm hnt (Jm1 hlen) (by rw [hs];exact h)
theorem Jks (ts:List Nat) (h:gcA nk ts s=s'):AR nk s s':=by subst h;exact .gc ts
theorem Jdr:AR nk s s:=.refl s
def PR (s:St) (k:Nat):List AV:=
 match obA s.objs k with
 | some (.box cells)=>cells
 | _=>[]
def V6 (s:St) (k:Nat):Bool:=
 match obA s.objs k with
 | some (.box _)=>true
 | _=>false
theorem V7 {k:Nat} (h:V6 s k=true):obA s.objs k=some (.box (PR s k)):=by
 unfold V6 at h
 unfold PR
 split at h
 ·rename_i hh;rw [hh]
 ·cases h
theorem Bz (k i sz:Nat) (h:(V6 s k,(PR s k)[i]?)=(true,some (.d .nil))):AR nk s ⟨s.env,s.objs.set k (some (.box ((PR s k).set i (.osl s.objs.length sz 0 0))))++[some (.arr sz [])]⟩:=by
 simp only [Prod.mk.injEq] at h
 exact .nilc k i sz _ (V7 h.1) h.2
def Ry (s:St):AV->Option (Nat×Nat×Nat×Nat×List (List D))
 | .osl k sz lo n=>match obA s.objs k with
  | some (.arr sz' es)=>bif Nat.beq sz sz' then some (k,sz,lo,n,es) else none
  | _=>none
 | _=>none
theorem Rz {v:AV} {k sz lo n:Nat} {es:List (List D)} (h:Ry s v=some (k,sz,lo,n,es)):v=.osl k sz lo n/\obA s.objs k=some (.arr sz es):=by
 unfold Ry at h
 split at h
 ·split at h
  ·rename_i hob
   obtain ⟨hb,h1⟩:=AQ h
   clear h
   have h:=h1
   have:=JmT hb
   subst this
   simp only [JmX,Prod.mk.injEq] at h
   obtain ⟨rfl,rfl,rfl,rfl,rfl⟩:=h
   exact ⟨rfl,hob⟩
  ·cases h
 ·cases h
theorem Jgw (t:Nat) (E:List (List D)) {k sz lo n:Nat} {es:List (List D)} (h:Ry s (lkA s.env t)=some (k,sz,lo,n,es)) (hE:(es.drop lo).take n=E) (hn:lo+n<=es.length):AR nk s ⟨(t,.d (.sl E))::s.env,s.objs.set k none⟩:=by
 subst hE
 obtain ⟨h1,h2⟩:=Rz h
 exact .frzA t k sz lo n es h1 h2 hn
theorem XB (t:Nat) (E:List (List D)) (M:Nat) {k sz lo n:Nat} {es:List (List D)} (h:Ry s (lkA s.env t)=some (k,sz,lo,n,es)) (hE:(es.drop lo).take n=E) (hn:lo+n<=es.length) (hM:n=M):AR nk s ⟨(t,.osl s.objs.length sz 0 M)::s.env,s.objs.set k none++[some (.arr sz E)]⟩:=by
 subst hE
 subst hM
 obtain ⟨h1,h2⟩:=Rz h
 exact .sub t k sz lo n es h1 h2 hn
theorem Jds (kb i:Nat) (E:List (List D)) {k sz lo n:Nat} {es:List (List D)} (h:(V6 s kb,((PR s kb)[i]?).bind (Ry s))=(true,some (k,sz,lo,n,es))) (hE:(es.drop lo).take n=E) (hn:lo+n<=es.length):AR nk s ⟨s.env,(s.objs.set k none).set kb (some (.box ((PR s kb).set i (.d (.sl E)))))⟩:=by
 subst hE
 simp only [Prod.mk.injEq,Option.bind_eq_some_iff] at h
 obtain ⟨h0,v,hv,h⟩:=h
 obtain ⟨h1,h2⟩:=Rz h
 subst h1
 exact .frzC kb i k sz lo n _ es (V7 h0) hv h2 hn
theorem Jgx (t k sz lo n m:Nat) (h:lkA s.env t=.osl k sz lo n) (e:n=m):AR nk s ⟨(t,.osl k sz lo m)::s.env,s.objs⟩:=by
 subst e
 have:=AR.dup (nk:=nk) (st:=s) t
 rwa [h] at this
theorem FM {α:Type} {enc:α->List D} {xs:List α}:((xs.map enc).drop 0).take xs.length=xs.map enc:=by
 rw [List.drop_zero];exact List.take_of_length_le (by simp)
theorem Ga {α:Type} {enc:α->List D} {xs:List α}:AV.d (.sl (((xs.map enc).drop 0).take xs.length))=AV.d (.sl (xs.map enc)):=by rw [FM]
theorem CJ {a b:AV} {l m:List AV} (h:a=b) (h':l=m):a::l=b::m:=by rw [h,h']
theorem JlH {l m:List AV} (h:l=m):AV.agg l=AV.agg m:=by rw [h]
def Nx (Γ:Cx) (c:Code) (i:Nat) (s:St):Option (List (List D)):=
 match (A0 c)[i]? with
 | some o=>opF Γ.ty (λ x=>unG (Aj s.env x)) o.op
 | none=>none
def Yo (Γ:Cx) (c:Code) (i:Nat) (es:List (List D)) (s:St):Option St:=
 match (A0 c)[i]? with
 | some o=>bif o.guard.isNone&&Bv Γ.nt o.dst&&(o.op.operands.toList.map (Aj s.env)).all PO then some ⟨putA o.dst false true (.d (.sl es)) s.env,s.objs⟩ else none
 | none=>none
theorem Jkt (j:Nat) (es:List (List D)) (hx:Nx Γ (nav p C) i s=some es) (hn:Yo Γ (nav p C) i es s=some s') (hj:i+1=j) (hk:AX Γ C p j K s'):AX Γ C p i K s:=by
 subst hj
 unfold AX at hk ⊢
 unfold Nx at hx
 unfold Yo at hn
 split at hn
 ·rename_i o hi
  rw [hi] at hx
  simp only at hx
  obtain ⟨hc,hn⟩:=AQ hn
  simp only [JmN] at hc
  obtain ⟨⟨h1,h2⟩,h3⟩:=hc
  cases hn
  rw [Cf hi]
  show AP _ _ _ _ _ _
  have hgN:o.guard=none:=by simpa using h1
  unfold AP
  rw [hgN]
  simp only [Bk,h2,JmC,cond_false]
  refine ⟨λ _=>.inr (.inl ?_),λ h=>by cases h⟩
  unfold Eg
  rw [hx]
  refine ⟨Nu h3,?_⟩
  rw [hgN]
  exact hk
 ·cases hn
def Jbb (Γ:Cx) (c:Code) (i:Nat) (s:St):Option (AV×List Ob):=
 match (A0 c)[i]? with
 | some o=>bif Xx Γ.ty (λ x=>unG (Aj s.env x)) s.objs o.op then (match opA Γ.ty (λ x=>unG (Aj s.env x)) s.objs o.op with
  | some ⟨v,obs,[],none,_⟩=>some (v,obs)
  | _=>none) else none
 | none=>none
theorem Jku {v:AV} {obs:List Ob} (h:Jbb Γ (nav p C) i s=some (v,obs)):FL (Oz Γ (nav p C) i s) v obs [] none:=by
 unfold Jbb at h
 unfold Oz
 split at h
 ·rename_i o hi
  try rw [hi]
  obtain ⟨hb,h⟩:=AQ h
  split at h
  ·rename_i he
   cases h
   exact ⟨_,he,Ru hb he⟩
  ·cases h
 ·cases h
theorem Ba {α:Type} {g:Bool} {x y:Option α} {z:α} (h:(if g=true then x else y)=some z):g=true->x=some z:=λ e=>by rw [if_pos e] at h;exact h
end Go.AI
end
section
namespace Go.AI
def A6 (n:Int):List D:=[.int .i64 n]
def eU8 (n:Int):List D:=[.int .u8 n]
def eB (b:Bool):List D:=[.bool b]
def eS (s:List UInt8):List D:=[.str s]
def eL {α:Type} (e:α->List D) (l:List α):List D:=[.sl (l.map e)]
variable {α κ:Type} {enc:α->List D} {objs:List (Option Ob)}
theorem FL.of {x:Option Eff} {v:AV} {obs:List Ob} {rm:List Nat} {upd:Option (Nat×Ob)} {ob:Prop} (h:x=some ⟨v,obs,rm,upd,ob⟩) (ho:ob):FL x v obs rm upd:=⟨ob,h,ho⟩
theorem Uh {xs:List α} {i:Int} {x:α} (h:idx xs i=some x):(xs.map enc)[i.toNat]? = some (enc x):=by
 rw [JmQ,(FJ h).2.2];rfl
theorem Jdt {xs:List α} {i:Int} {x:α} {esz eb:Nat} {ez:List D} (h:idx xs i=some x) (hl:Nat.beq (enc x).length esz=true):FL (P4 (.slice esz eb ez) (.d (.sl (xs.map enc))) i) (.dptr (enc x) 0) [] [] none:=by
 obtain ⟨h0,h1,_⟩:=FJ h
 refine .of (ob:=0<=i/\i<(xs.map enc).length/\(enc x).length=esz) ?_ ⟨h0,by simpa using h1,JmT hl⟩
 simp only [P4,A4,Uh (enc:=enc) h,JmA]
theorem Jdu {xs:List α} {i:Int} {x:α} {esz eb k:Nat} {ez:List D} (h:idx xs i=some x):FL (P4 (.slice esz eb ez) (.osl k esz 0 xs.length) i) (.eptr k esz (0+i.toNat) 0) [] [] none:=by
 obtain ⟨h0,h1,_⟩:=FJ h
 exact .of rfl ⟨h0,h1,rfl⟩
theorem Jgy {xs:List α} {i:Int} {x:α} {k sz off:Nat} {t:Ty} {v:AV} (hk:obA objs k=some (.arr sz (xs.map enc))) (h:idx xs i=some x) (hv:BX ((enc x).map .d) off t=some v) (hl:Nat.ble (off+t.size) (enc x).length=true) :
  FL (C0 t objs (.eptr k sz (0+i.toNat) off)) v [] [] none:=by
 obtain ⟨h0,h1,_⟩:=FJ h
 have e:=Uh (enc:=enc) h
 refine .of (ob:=sz=sz/\0+i.toNat<(xs.map enc).length/\off+t.size<=(enc x).length) ?_ ⟨rfl,?_,Jm1 hl⟩
 ·simp only [C0,hk,Jm0,e,JmA,hv,A4]
 ·have:=Ad e;omega
theorem Jgz {xs zs:List α} {i:Int} {x y:α} {k sz off:Nat} {t:Ty} {v:AV} {r:List D} {ks:List Nat} {obl:List (Nat×Nat)} (hk:obA objs k=some (.arr sz (xs.map enc))) (h:idx xs i=some x) (hz:put xs i y=some zs) (hx:xDs objs (Ar v)=some (r,ks,obl)) (hob:EW obl)
  (hc:(Bo v&&(Ar v).all Ee&&!ks.contains k)=true) (hy:Ef (enc x) off r=enc y) (hl:(Nat.beq r.length t.size&&Nat.ble (off+t.size) sz)=true) :
  FL (DT t objs (.eptr k sz (0+i.toNat) off) v) .top [] ks (some (k,.arr sz (zs.map enc))):=by
 obtain ⟨h0,h1,_⟩:=FJ h
 have e:=Uh (enc:=enc) h
 obtain ⟨ob,e1,q1⟩:=Xy hx hob
 simp only [JmN] at hl
 have hzz:zs=xs.set i.toNat y:=by
  unfold put at hz
  split at hz
  ·cases hz;rfl
  ·cases hz
 refine .of (ob:=sz=sz/\r.length=t.size/\0+i.toNat<(xs.map enc).length/\off+t.size<=sz/\ob) ?_ ⟨rfl,JmT hl.1,?_,Jm1 hl.2,q1⟩
 ·simp only [DT,hk,e1,hc,cond_true,Jm0,e,JmA,hy,hzz,List.map_set]
 ·have:=Ad e;omega
theorem Jbc {xs ys zs:List α} {eb:Nat} (h:app eb xs ys=some zs):(xs.length+(ys.map enc).length)*eb<=70368744177664/\xs.length+(ys.map enc).length=zs.length/\zs=xs++ys:=by
 obtain ⟨h1,h2⟩:=JaT h
 subst h2
 exact ⟨by simpa using h1,by simp,rfl⟩
theorem XC {xs ys zs:List α} {esz eb k:Nat} {E:List (List D)} {ob:Prop} (hk:obA objs k=some (.arr esz (xs.map enc))) (hE:E=ys.map enc) (hl:∀ y,(enc y).length=esz) (ho:ob) (h:app eb xs ys=some zs) :
  FL (BQ esz eb objs (.osl k esz 0 xs.length) E ob) (.osl objs.length esz 0 zs.length) [.arr esz (zs.map enc)] [k] none:=by
 subst hE
 obtain ⟨h1,h2,h3⟩:=Jbc (enc:=enc) h
 subst h3
 have hb:Nat.beq esz esz=true:=Nat.beq_refl esz
 refine .of (ob:=0+xs.length<=(xs.map enc).length/\(∀ e∈ys.map enc,e.length=esz)/\(xs.length+(ys.map enc).length)*eb<=70368744177664/\ob) ?_ ⟨by simp,?_,h1,ho⟩
 ·simp only [BQ,hk,hb,Bool.true_or,Bool.and_self,cond_true,List.drop_zero,h2]
  have e1:List.take xs.length (xs.map enc)=List.map enc xs:=List.take_of_length_le (by simp)
  simp only [e1,List.map_append]
 ·intro e he
  simp only [JmG] at he
  obtain ⟨y,_,rfl⟩:=he
  exact hl y
theorem JgA {x y z:List UInt8} (h:cat x y=some z):FL (U5 .add x y) (.d (.str z)) [] [] none:=by
 unfold cat at h
 split at h
 ·rename_i h0
  cases h
  exact .of rfl (by show ((x.length+y.length:Nat):Int)<=9223372036854775807;omega)
 ·cases h
theorem Jdv {s:List UInt8} {i b:Int} (h:Jj s i=some b):FL (A4 (.d (.int .u8 (s[i.toNat]?.getD 0).toNat)) (0<=i/\i<s.length)) (.d (.int .u8 b)) [] [] none:=by
 unfold Jj at h
 split at h
 ·rename_i h0
  cases h
  exact .of rfl h0
 ·cases h
theorem Jdw {s z:List UInt8} {l h:Int} (hz:sub s l h=some z):FL (A4 (.d (.str ((s.take h.toNat).drop l.toNat))) (0<=l/\l<=h/\h<=s.length)) (.d (.str z)) [] [] none:=by
 unfold sub at hz
 split at hz
 ·rename_i h0
  cases hz
  exact .of rfl h0
 ·cases hz
theorem JgB {xs zs:List α} {l h:Int} {esz:Nat} (hz:sub xs l h=some zs) (hl:∀ y,(enc y).length=esz):FL (A4 (.d (.sl (((xs.map enc).take h.toNat).drop l.toNat))) (0<=l/\l<=h/\h<=(xs.map enc).length/\∀ e∈xs.map enc,e.length=esz)) (.d (.sl (zs.map enc))) [] [] none:=by
 unfold sub at hz
 split at hz
 ·rename_i h0
  cases hz
  refine .of (ob:=0<=l/\l<=h/\h<=(xs.map enc).length/\∀ e∈xs.map enc,e.length=esz) ?_ ⟨h0.1,h0.2.1,by simpa using h0.2.2,?_⟩
  ·simp only [A4,List.map_drop,List.map_take]
  ·intro e he
   simp only [JmG] at he
   obtain ⟨y,_,rfl⟩:=he
   exact hl y
 ·cases hz
theorem Jkv {zs:List α} {n:Int} {z:α} {esz eb:Nat} {ez:List D} (h:mkl eb n z=some zs) (he:enc z=ez):FL (some ⟨.osl objs.length esz 0 n.toNat,[.arr esz (List.replicate n.toNat ez)],[],none,0<=n/\n<=n/\n.toNat*eb<=70368744177664⟩) (.osl objs.length esz 0 zs.length) [.arr esz (zs.map enc)] [] none:=by
 unfold mkl at h
 split at h
 ·rename_i h0
  cases h
  refine .of (ob:=0<=n/\n<=n/\n.toNat*eb<=70368744177664) ?_ ⟨h0.1,Int.le_refl _,h0.2⟩
  simp [he]
 ·cases h
theorem JgC {xs:List α} {esz eb:Nat} {ez:List D}:FL (WS (.slice esz eb ez) (.d (.sl (xs.map enc)))) (.d (.int .i64 xs.length)) [] [] none:=by
 refine .of (ob:=True) ?_ trivial
 simp only [WS,val,JmJ]
theorem JgD {xs zs:List α} {l h:Int} {esz k:Nat} (hz:sub xs l h=some zs):FL (A4 (.osl k esz (0+l.toNat) (h.toNat-l.toNat)) (0<=l/\l<=h/\h<=(xs.length:Int)/\esz=esz)) (.osl k esz (0+l.toNat) (h.toNat-l.toNat)) [] [] none:=by
 unfold sub at hz
 split at hz
 ·rename_i h0
  exact .of rfl ⟨h0.1,h0.2.1,h0.2.2,rfl⟩
 ·cases hz
theorem QA {xs zs:List α} {l h:Int} (hz:sub xs l h=some zs):((xs.map enc).drop (0+l.toNat)).take (h.toNat-l.toNat)=zs.map enc:=by
 unfold sub at hz
 split at hz
 ·cases hz
  rw [Jm0,List.map_drop,List.map_take,List.take_drop]
  by_cases hh:l.toNat<=h.toNat
  ·rw [Nat.add_sub_cancel' hh]
  ·rename_i h0;omega
 ·cases hz
theorem Ui {xs zs:List α} {l h:Int} (hz:sub xs l h=some zs):(0+l.toNat)+(h.toNat-l.toNat)<=(xs.map enc).length:=by
 unfold sub at hz
 split at hz
 ·rename_i h0;simp;omega
 ·cases hz
theorem Yp {xs zs:List α} {l h:Int} (hz:sub xs l h=some zs):h.toNat-l.toNat=zs.length:=by
 unfold sub at hz
 split at hz
 ·rename_i h0;cases hz;simp;omega
 ·cases hz
theorem DL {xs zs:List α} {i:Int} {y:α} (hz:put xs i y=some zs):xs.length=zs.length:=by
 unfold put at hz
 split at hz
 ·cases hz;simp
 ·cases hz
theorem Ll {b:Bool} {u:Unit} (h:BJ b=some u):b=true:=by
 unfold BJ at h
 split at h
 ·assumption
 ·cases h
theorem DB {b:Int} {u:Unit} (h:BJ (!(b==0))=some u):b≠0:=by
 have:=Ll h
 simpa using this
theorem Jbd {b:Int} {u:Unit} (h:BJ (decide (0<=b))=some u):0<=b:=by
 have:=Ll h
 simpa using this
theorem Jkw {v:AV} {ob:Prop} (h:ob):FL (A4 v ob) v [] [] none:=.of rfl h
theorem Jbe {t x y:Bool}:FL (F9 (.d (.bool t)) (.gv t (.d (.bool x))) (.d (.bool y))) (.d (.bool (bif t then x else y))) [] [] none:=.of rfl ⟨trivial,λ h=>h,trivial⟩
theorem Jdx {t x y:Bool}:FL (F9 (.d (.bool t)) (.d (.bool x)) (.gv (!t) (.d (.bool y)))) (.d (.bool (bif t then x else y))) [] [] none:=.of rfl ⟨trivial,trivial,λ h=>h⟩
theorem Jbf {c a b:AV} {t x y:Bool} {r q q':Prop} (hc:U7 c=some (t,r)) (ha:unP t a=some (x,q)) (hb:unP (!t) b=some (y,q')) (hr:r) (hq:q) (hq':q'):FL (F9 c a b) (.d (.bool (bif t then x else y))) [] [] none:=by
 refine .of (ob:=r/\q/\q') ?_ ⟨hr,hq,hq'⟩
 simp only [F9,hc,ha,hb,A4]
variable {encK:κ->List D} [DecidableEq κ]
end Go.AI
end
section
namespace Go.AI
variable {Γ:Cx} {C:Code} {p p0 p1:List Nat} {Q:Ex->St->Prop} {s s':St} {K:St->Prop} {i:Nat} {nk:Nat}
variable {α β:Type} {enc:β->List D} {encN:α->List AV} {objs:List (Option Ob)}
def Jbg (s:St) (k:Nat):Option (Nat×List (List D)):=
 match obA s.objs k with
 | some (.arr sz es)=>some (sz,es)
 | _=>none
theorem Jbh {k sz:Nat} {es:List (List D)} (h:Jbg s k=some (sz,es)):obA s.objs k=some (.arr sz es):=by
 unfold Jbg at h
 split at h
 ·rename_i hh;cases h;exact hh
 ·cases h
inductive Pl (f:AV->AV):List (Option Ob)->List (Option Ob)->Prop
 | z:Pl f [] []
 | o (ob:Option Ob) {l m:List (Option Ob)} (h:Pl f l m):Pl f (ob::l) (ob::m)
 | n (sz:Nat) {es es':List (List AV)} {l m:List (Option Ob)} (he:es.map (λ e=>e.map f)=es') (h:Pl f l m):Pl f (some (.narr sz (es.map λ e=>e.map f))::l) (some (.narr sz es')::m)
theorem Pl.eq {f:AV->AV} {l m:List (Option Ob)} (h:Pl f l m):l=m:=by
 induction h with
 | z=>rfl
 | o ob _ ih=>rw [ih]
 | n sz he _ ih=>rw [he,ih]
theorem V8 {α β:Type} {e:α->List β} {sz:Nat} (hz:∀ x,(e x).length=sz):∀ (xs:List α) (i j:Nat),j<sz->(xs.flatMap e)[i*sz+j]? = xs[i]?.bind λ x=>(e x)[j]?
 | [],i,j,_=>by simp
 | x::xs,0,j,hj=>by simp [JmU (show j<(e x).length by rw [hz];exact hj)]
 | x::xs,i+1,j,hj=>by
  have h1:(e x).length<=(i+1)*sz+j:=by rw [hz,JmZ];omega
  rw [List.flatMap_cons,Jm3 h1,hz,List.getElem?_cons_succ,← V8 hz xs i j hj]
  congr 1
  rw [JmZ];omega
theorem XD {α:Type} {e:α->List D} {sz:Nat} (hz:∀ x,(e x).length=sz) {N:Nat->Prop} {H0 F0 F:Nat->Option Obj} {ρ:Nat->Option Loc} {O:List (Option Ob)} {h:Array Obj} (hS:Sim N H0 F0 F ρ O h) {k:Nat} {xs:List α} (ho:obA O k=some (.box ((xs.flatMap e).map .d))):Sim N H0 F0 F ρ (O.set k (some (.arr sz (xs.map e)))) h:=by
 have hlen:(xs.flatMap e).length=xs.length*sz:=by
  clear ho
  induction xs with
  | nil=>simp
  | cons x xs ih=>rw [List.flatMap_cons,List.length_append,ih,hz,List.length_cons,JmZ];omega
 have hrep:∀ L,ρ k=some L->Bw F ρ h L (.arr sz (xs.map e)):=λ L hL=>by
  obtain ⟨⟨p1,p2,cs,t,fr,p3,p4,p5,p6⟩,_⟩:=hS.obj k L _ hL ho
  simp only [JmJ] at p2
  refine ⟨λ y he=>?_,by simp only [JmJ];omega,cs,t,fr,p3,p4,p5,λ i y hi j x hx=>?_⟩
  ·simp only [JmG] at he
   obtain ⟨x,_,rfl⟩:=he
   exact hz x
  ·simp only [JmQ,JmP] at hi
   obtain ⟨y,h1,rfl⟩:=hi
   have hj:j<sz:=by have:=Ad hx;rwa [hz] at this
   have hg:(xs.flatMap e)[i*sz+j]? = some x:=by rw [V8 hz xs i j hj,h1];exact hx
   have hil:=Ad hg
   have hv:cs[i*sz+j]? = some cs[i*sz+j]:=JmR (by omega)
   refine ⟨cs[i*sz+j],by rw [p1,Jm0];exact hv,?_⟩
   have:=p6 (i*sz+j) (.d x) cs[i*sz+j] (by rw [JmQ,hg];rfl) hv
   cases this with
   | d _ _ h=>exact h
 refine hS.retable (by simp) (λ j L ob hj hob=>?_) ?_
 ·by_cases e:j=k
  ·subst e
   rw [A2 ho] at hob
   cases hob
   exact ⟨_,ho,.inr (hrep L hj)⟩
  ·rw [AW e] at hob;exact ⟨ob,hob,.inl rfl⟩
 ·obtain ⟨σ,hσ⟩:=hS.inn
  refine ⟨σ,hσ.new,λ k' c M j L ob hM hj hob=>?_,hσ.sep,λ j L sz' es' hj hob i e m isz xs hi hm cs t fr v hb hv=>?_⟩
  ·by_cases e:j=k
   ·subst e;exact hσ.obj k' c M j L _ hM hj ho
   ·rw [AW e] at hob;exact hσ.obj k' c M j L ob hM hj hob
  ·by_cases e:j=k
   ·subst e
    rw [A2 ho] at hob
    cases hob
   ·rw [AW e] at hob;exact hσ.rep j L sz' es' hj hob i _ m isz xs hi hm cs t fr v hb hv
theorem Jdy {α:Type} (e:α->List D) (xs:List α) (k sz:Nat) (hz:∀ x,(e x).length=sz) (h:obA s.objs k=some (.box ((xs.flatMap e).map .d))):AR nk s ⟨s.env,s.objs.set k (some (.arr sz (xs.map e)))⟩:=
 AR.sem λ _ _ _ _ _ _ _ _ hI=>by
  obtain ⟨F,ρ,hS,hSl,hn,hd⟩:=hI
  exact ⟨F,ρ,XD hz hS h,hSl,hn,hd⟩
theorem Jkx (t k sz:Nat) (h:lkA s.env t=.ptr k 0):AR nk s ⟨(t,.eptr k sz 0 0)::s.env,s.objs⟩:=
 AR.sem λ _ _ _ _ _ a _ _ hI=>by
  obtain ⟨F,ρ,hS,hSl,hn,hd⟩:=hI
  refine ⟨F,ρ,hS,λ q=>?_,hn,hd⟩
  show Ah F ρ (lkA ((t,AV.eptr k sz 0 0)::s.env) q) _
  rw [Bg]
  by_cases e:t=q
  ·subst e
   rw [if_pos rfl]
   have:=hSl t
   rw [h] at this
   generalize a.tmps.getD t undef=u at this
   cases this with
   | ptr _ _ L hL=>have:=Ah.eptr (F:=F) k sz 0 0 L hL;simpa using this
  ·rw [if_neg e];exact hSl q
theorem Uj (m:Nat) {O:List (Option Ob)} (h:O=s.objs.set m none):AR nk s ⟨s.env,O⟩:=by
 subst h
 refine AR.sem λ _ _ _ _ _ _ _ _ hI=>?_
 obtain ⟨F,ρ,hS,hSl,hn,hd⟩:=hI
 refine ⟨F,ρ,hS.table (by simp) λ j L ob hj hob=>?_,hSl,hn,hd⟩
 by_cases e:j=m
 ·subst e
  rw [By] at hob
  split at hob
  ·cases hob
  ·exact hob
 ·rwa [AW e] at hob
end Go.AI
end
section
namespace Go.AI
variable {Γ:Cx} {C:Code} {p:List Nat} {Q:Ex->St->Prop} {s s':St} {K:St->Prop} {i:Nat} {nk:Nat}
variable {α β ζ:Type}
theorem BT {x:Option α} {d:α} (h:x.isSome=true):x=some (x.getD d):=by
 cases x with
 | none=>cases h
 | some x=>rfl
structure WP (Γ:Cx) (C:Code) (p:List Nat) (Q:Ex->St->Prop) (s:St):Prop where
 out:wpA Γ (nav p C) Q s
structure RF (Γ:Cx) (C:Code) (p:List Nat) (i:Nat) (Q:Ex->St->Prop) (s:St):Prop where
 out:AX Γ C p i (Q .normal) s
structure PQ (Q:Ex->St->Prop) (e:Ex) (s:St):Prop where
 out:Q e s
structure RA (ty:Nat->Ty) (rs:List ResultVar) (r:AV) (s:St):Prop where
 out:VX ty rs r s
theorem RF.of {Γ:Cx} {C:Code} {p:List Nat} {i:Nat} {Q:Ex->St->Prop} {s s':St} {j:Nat} (h:AX Γ C p j (Q .normal) s'->AX Γ C p i (Q .normal) s) (hk:RF Γ C p j Q s'):RF Γ C p i Q s:=⟨h hk.out⟩
theorem Ir (k:Nat):∀ (p:List Nat) (C:Code),nav (p++[k]) C=JaU (nav p C) k:=by
 intro p
 induction p with
 | nil=>intro C;rfl
 | cons a p ih=>intro C;exact ih (JaU C a)
def Yq:Code->Bool
 | .seq _ _=>true
 | _=>false
def Jbi:Code->Bool
 | .cond _ _ _=>true
 | _=>false
def JfL (id:Nat):Code->Bool
 | .block i _=>Nat.beq i id
 | _=>false
def RB:Code->Bool
 | .loop _=>true
 | _=>false
theorem Jdz (h:Yq (nav p C)=true):nav p C=.seq (nav (p++[0]) C) (nav (p++[1]) C):=by
 rw [Ir,Ir]
 cases hc:nav p C<;>rw [hc] at h<;>first|rfl|cases h
theorem Jbj (h:Jbi (nav p C)=true):nav p C=.cond (Ud (nav p C)) (nav (p++[0]) C) (nav (p++[1]) C):=by
 rw [Ir,Ir]
 cases hc:nav p C<;>rw [hc] at h<;>first|rfl|cases h
theorem JdA {id:Nat} (h:JfL id (nav p C)=true):nav p C=.block id (nav (p++[0]) C):=by
 rw [Ir]
 cases hc:nav p C with
 | block j c=>rw [hc] at h;have:=JmT h;subst this;rfl
 | _=>rw [hc] at h;cases h
theorem Jbk (h:RB (nav p C)=true):nav p C=.loop (nav (p++[0]) C):=by
 rw [Ir]
 cases hc:nav p C<;>rw [hc] at h<;>first|rfl|cases h
theorem sq (hw:WP Γ C (p++[0]) (SK Γ.nt.nk (wpA Γ (nav (p++[1]) C) Q) Q) s) (h:Yq (nav p C)=true:=by kernel_rfl):WP Γ C p Q s:=⟨Jgr (Jdz h) hw.out⟩
theorem rg (hs:AR Γ.nt.nk s s') (hk:RF Γ C p 0 (Ue C p s' Q) s') (h:JG (nav p C)=true:=by kernel_rfl):WP Γ C p Q s:=⟨Tv h hs hk.out⟩
theorem rz (hk:RF Γ C p 0 (Ue C p s Q) s) (h:JG (nav p C)=true:=by kernel_rfl):WP Γ C p Q s:=⟨Tv h Jdr hk.out⟩
theorem sr (hk:RF Γ C (p++[0]) 0 (Ue C (p++[0]) s (SK Γ.nt.nk (wpA Γ (nav (p++[1]) C) Q) Q)) s) (h:(Yq (nav p C)&&JG (nav (p++[0]) C))=true:=by kernel_rfl):WP Γ C p Q s:=by
 simp only [JmN] at h
 exact sq (rz hk h.2) h.1
theorem ae {s0:St} (hk:PQ Q .normal s) (h:Nat.ble (A0 (nav p C)).length i=true:=by kernel_rfl) (hd:Ke (Mt (nav p C)) (B2 (nav p C)) s0.env s.env=true:=by kernel_rfl):RF Γ C p i (Ue C p s0 Q) s:=⟨Mv i h ⟨hd,hk.out⟩⟩
theorem en {s0:St} {p':List Nat} (hk:WP Γ C p' Q s) (h:Nat.ble (A0 (nav p C)).length i=true:=by kernel_rfl) (hd:Ke (Mt (nav p C)) (B2 (nav p C)) s0.env s.env=true:=by kernel_rfl):RF Γ C p i (Ue C p s0 (SK Γ.nt.nk (wpA Γ (nav p' C) Q) Q)) s:=⟨Mv i h ⟨hd,⟨s,.refl s,hk.out⟩⟩⟩
theorem bk (id:Nat) (hw:WP Γ C (p++[0]) (I7 id Q) s) (h:JfL id (nav p C)=true:=by kernel_rfl):WP Γ C p Q s:=⟨JaW id (JdA h) hw.out⟩
theorem ex (k:Nat) (hq:PQ Q (.exit k) s) (h:nav p C=.exit k:=by kernel_rfl):WP Γ C p Q s:=⟨Jdi k h hq.out⟩
theorem re (hq:PQ Q .ret s) (h:nav p C=.ret:=by kernel_rfl):WP Γ C p Q s:=⟨Jgs h hq.out⟩
theorem sk (hq:PQ Q .normal s) (h:nav p C=.skip:=by kernel_rfl):WP Γ C p Q s:=⟨Jdj h hq.out⟩
theorem cn {c:Bool} {x y:Option ζ} {r:ζ} (H:(if c=true then x else y)=some r) (h1:x=some r->WP Γ C (p++[0]) Q s) (h2:y=some r->WP Γ C (p++[1]) Q s) (h:Jbi (nav p C)=true:=by kernel_rfl) (hc:Aj s.env (Ud (nav p C))=.d (.bool c):=by kernel_rfl):WP Γ C p Q s:=by
 refine ⟨Jdh c (Jbj h) hc (λ e=>?_) (λ e=>?_)⟩
 ·rw [if_pos e] at H;exact (h1 H).out
 ·rw [if_neg (by rw [e];simp)] at H;exact (h2 H).out
theorem sj {σ ζ:Type} (sJ:σ->St) (F:σ->Option ζ) (z:ζ) (hb:∀ x,F x=some z->WP Γ C (p++[1]) Q (sJ x)) (ha:(∀ x,F x=some z->WP Γ C (p++[1]) Q (sJ x))->WP Γ C (p++[0]) (SK Γ.nt.nk (wpA Γ (nav (p++[1]) C) Q) Q) s) (h:Yq (nav p C)=true:=by kernel_rfl):WP Γ C p Q s:=sq (ha hb) h
theorem lp {σ ρ:Type} {body:σ->Option (σ⊕ρ)} {n:Nat} {x:σ} {r:ρ} (st:σ->St) (E:ρ->Ex->St->Prop) (hr:whl body n x=some r) (hs:AR Γ.nt.nk s (st x))
  (hb:∀ x z,body x=some z->WP Γ C (p++[0]) (Au Γ.nt.nk st E z) (st x)) (hE:∀ e s,E r e s->PQ Q e s) (h:RB (nav p C)=true:=by kernel_rfl):WP Γ C p Q s:=⟨Jdk st E (Jbk h) hr hs (λ x z hx=>(hb x z hx).out) (λ e s he=>(hE e s he).out)⟩
theorem fo {P:Program} {fn:Func} {f:FuncId} {args:List AV} {r:AV} (hfol:P.follows .mixedOrders=true) (hΓ:FG P Γ) (hf:P.funcs[f]? = some fn) (h:WP Γ (Aw fn) [] (VY Γ.ty fn.results.toList r) s)
  (hb:fn.body=some (Aw fn):=by kernel_rfl) (hnm:(fn.name == "runtime.NumGoroutine")=false:=by kernel_rfl) (hnt:Γ.nt.n=fn.ntmps:=by kernel_rfl) (hlen:Nat.ble args.length fn.ntmps=true:=by kernel_rfl) (hs:(⟨(List.range args.length).zip args,[]⟩:St)=s:=by kernel_rfl) (hrd:Γ.rd=false:=by kernel_rfl):Aq P f args r:=
 Jkr hfol hΓ hrd hf hb hnm hnt hlen hs h.out
theorem CX {c a b:AV} {t x y z:Bool} {r q q':Prop} (hc:U7 c=some (t,r)) (ha:unP t a=some (x,q)) (hb:unP (!t) b=some (y,q')) (hr:r) (hq:q) (hq':q') (hz:(bif t then x else y)=z:=by kernel_rfl):FL (F9 c a b) (.d (.bool z)) [] [] none:=hz▸Jbf hc ha hb hr hq hq'
theorem bx {G:Prop} {x:Option α} {f:α->Option β} {r:β} (h:x.bind f=some r) (k:∀ a,x=some a->f a=some r->G):G:=by obtain ⟨a,h1,h2⟩:=bind_some h;exact k a h1 h2
theorem bs {x:Option α} {f:α->Option β} {r:β} (h:x.bind f=some r):∃ a,x=some a/\f a=some r:=bind_some h
theorem qs (hs:AR Γ.nt.nk s s') (h:WP Γ C p Q s'):PQ (SK Γ.nt.nk (wpA Γ (nav p C) Q) Q) .normal s:=⟨s',hs,h.out⟩
theorem qz (h:WP Γ C p Q s):PQ (SK Γ.nt.nk (wpA Γ (nav p C) Q) Q) .normal s:=⟨s,.refl s,h.out⟩
theorem qx {B:St->Prop} {k:Nat} (h:PQ Q (.exit k) s):PQ (SK nk B Q) (.exit k) s:=⟨h.out⟩
theorem qr {B:St->Prop} (h:PQ Q .ret s):PQ (SK nk B Q) .ret s:=⟨h.out⟩
theorem qN {id:Nat} (h:PQ Q .normal s):PQ (I7 id Q) .normal s:=⟨h.out⟩
theorem qH {id:Nat} (h:PQ Q .normal s):PQ (I7 id Q) (.exit id) s:=⟨JaX h.out⟩
theorem qR {id:Nat} (h:PQ Q .ret s):PQ (I7 id Q) .ret s:=⟨h.out⟩
theorem og {σ ρ:Type} {st:σ->St} {E:ρ->Ex->St->Prop} {y:σ} (h:AR nk s (st y)):PQ (Au nk st E (.inl y)) .normal s:=⟨JaY h⟩
theorem oe {σ ρ:Type} {st:σ->St} {E:ρ->Ex->St->Prop} {r:ρ} {k:Nat} (h:E r (.exit k) s):PQ (Au nk st E (.inr r)) (.exit k) s:=⟨Xw h⟩
theorem or {σ ρ:Type} {st:σ->St} {E:ρ->Ex->St->Prop} {r:ρ} (h:E r .ret s):PQ (Au nk st E (.inr r)) .ret s:=⟨Zw h⟩
theorem pr {ty:Nat->Ty} {rs:List ResultVar} {r:AV} (h:RA ty rs r s):PQ (VY ty rs r) .ret s:=⟨h.out⟩
def nxP (Γ:Cx) (C:Code) (p:List Nat) (i n:Nat) (s:St):St:=(Zx Γ (A0 (nav p C)) (((A0 (nav p C)).drop i).take n) s).getD s
theorem ck (n:Nat) (hk:RF Γ C p (i+n) Q (nxP Γ C p i n s)) (h:(Zx Γ (A0 (nav p C)) (((A0 (nav p C)).drop i).take n) s).isSome=true:=by kernel_rfl):RF Γ C p i Q s:=⟨Jkm n _ (BT h) rfl hk.out⟩
def FZ (_:St) (x:Option Eff) (v:AV) (obs:List Ob) (rm:List Nat) (upd:Option (Nat×Ob)):Prop:=FL x v obs rm upd
theorem sp {v:AV} {obs:List Ob} {rm:List Nat} {upd:Option (Nat×Ob)} {x:Option Eff} (ho:FZ s x v obs rm upd) (hk:RF Γ C p (i+1) Q ((L7 Γ (nav p C) i v obs rm upd s).getD s)) (hx:Oz Γ (nav p C) i s=x:=by kernel_rfl) (hn:(L7 Γ (nav p C) i v obs rm upd s).isSome=true:=by kernel_rfl):RF Γ C p i Q s:=⟨JlG _ hx ho (BT hn) rfl hk.out⟩
def opV (Γ:Cx) (c:Code) (i:Nat) (s:St):AV:=match Oz Γ c i s with
 | some e=>e.v
 | none=>.top
theorem so {ob:Prop} (ho:ob) (hk:RF Γ C p (i+1) Q ((L7 Γ (nav p C) i (opV Γ (nav p C) i s) [] [] none s).getD s)) (hx:Oz Γ (nav p C) i s=A4 (opV Γ (nav p C) i s) ob:=by kernel_rfl) (hn:(L7 Γ (nav p C) i (opV Γ (nav p C) i s) [] [] none s).isSome=true:=by kernel_rfl):RF Γ C p i Q s:=sp (Jkw ho) hk hx hn
theorem sG {g:Bool} {v:AV} {obs:List Ob} {x:Option Eff} {gs:List Bool} (ho:g=true->FZ s x v obs [] none) (hi:DZ g gs) (hk:RF Γ C p (i+1) Q ((Nv Γ (nav p C) i g v obs s).getD s)) (hg:gAt (nav p C) i s=some g:=by kernel_rfl) (hx:Oz Γ (nav p C) i s=x:=by kernel_rfl) (hgs:Ej (nav p C) i s=gs:=by kernel_rfl) (hn:(Nv Γ (nav p C) i g v obs s).isSome=true:=by kernel_rfl):RF Γ C p i Q s:=⟨JfJ _ hg hx ho hgs hi (BT hn) rfl hk.out⟩
def plV (Γ:Cx) (c:Code) (i:Nat) (s:St):AV×List Ob:=(Jbb Γ c i s).getD (.top,[])
theorem gp (g:Bool) {gs:List Bool} (hi:DZ g gs) (hk:RF Γ C p (i+1) Q ((Nv Γ (nav p C) i g (plV Γ (nav p C) i s).1 (plV Γ (nav p C) i s).2 s).getD s)) (hg:gAt (nav p C) i s=some g:=by kernel_rfl) (hp:(Jbb Γ (nav p C) i s).isSome=true:=by kernel_rfl) (hgs:Ej (nav p C) i s=gs:=by kernel_rfl) (hn:(Nv Γ (nav p C) i g (plV Γ (nav p C) i s).1 (plV Γ (nav p C) i s).2 s).isSome=true:=by kernel_rfl):RF Γ C p i Q s:=
 ⟨JfJ _ hg rfl (λ _=>Jku (BT (d:=(.top,[])) hp)) hgs hi (BT hn) rfl hk.out⟩
def gl (Γ:Cx) (c:Code) (g:Bool):Nat->Nat->St->Option (List Bool×St)
 | 0,_,s=>some ([],s)
 | n+1,i,s=>match gAt c i s,(Jbb Γ c i s).isSome,Nv Γ c i g (plV Γ c i s).1 (plV Γ c i s).2 s with
  | some g',true,some s1=>match gl Γ c g n (i+1) s1 with
   | some (l,s2)=>some (g'::(Ej c i s++l),s2)
   | none=>none
  | _,_,_=>none
theorem Tz {g:Bool}:∀ {l:List Bool},(∀ b∈l,b=g)->DZ g l:=by
 intro l
 induction l with
 | nil=>intro _;trivial
 | cons b l ih=>intro h;exact ⟨λ e=>by rw [h b (by simp)];exact e,ih λ x hx=>h x (by simp [hx])⟩
theorem Jky {g:Bool}:∀ (n i:Nat) (s:St) (l:List Bool) (s2:St),gl Γ (nav p C) g n i s=some (l,s2)->(∀ b∈l,b=g)->RF Γ C p (i+n) Q s2->RF Γ C p i Q s:=by
 intro n
 induction n with
 | zero=>intro i s l s2 h _ hk;cases h;exact hk
 | succ n ih=>
  intro i s l s2 h hl hk
  simp only [gl] at h
  split at h
  ·rename_i g' s1 h1 h2 h3
   split at h
   ·rename_i l' s2' h4
    cases h
    have e:g'=g:=hl g' (by simp)
    subst e
    have hlast:=ih (i+1) s1 l' s2 h4 (λ b hb=>hl b (by simp [hb])) (by rw [JmI,Nat.add_comm 1 n];exact hk)
    refine gp g' (Tz λ b hb=>hl b (by simp [hb])) ?_ h1 h2 rfl (by rw [h3];rfl)
    rw [h3]
    exact hlast
   ·cases h
  ·cases h
theorem gc (n:Nat) (g:Bool) (hk:RF Γ C p (i+n) Q ((gl Γ (nav p C) g n i s).getD ([],s)).2) (h1:(gl Γ (nav p C) g n i s).isSome=true:=by kernel_rfl) (h2:((gl Γ (nav p C) g n i s).getD ([],s)).1=List.replicate ((gl Γ (nav p C) g n i s).getD ([],s)).1.length g:=by kernel_rfl):RF Γ C p i Q s:=by
 refine Jky n i s _ _ (BT (d:=([],s)) h1) (λ b hb=>?_) hk
 have hb':b∈((gl Γ (nav p C) g n i s).getD ([],s)).1:=hb
 rw [h2] at hb'
 exact List.eq_of_mem_replicate hb'
def bo:AV->Bool
 | .d (.bool b)=>b
 | .gv _ (.d (.bool b))=>b
 | _=>false
def pkO (c:Code) (i:Nat) (s:St):AV×AV×AV:=
 match (A0 c)[i]? with
 | some o=>match o.op with
  | .pick x y z=>(Aj s.env x,Aj s.env y,Aj s.env z)
  | _=>(.top,.top,.top)
 | none=>(.top,.top,.top)
def pkT (c:Code) (i:Nat) (s:St):Bool:=bo (pkO c i s).1
def pkX (c:Code) (i:Nat) (s:St):Bool:=bo (pkO c i s).2.1
def pkY (c:Code) (i:Nat) (s:St):Bool:=bo (pkO c i s).2.2
def pkV (c:Code) (i:Nat) (s:St):AV:=.d (.bool (bif pkT c i s then pkX c i s else pkY c i s))
theorem pA (hk:RF Γ C p (i+1) Q ((Tw Γ (nav p C) i (pkV (nav p C) i s) s).getD s)) (h:Mw (nav p C) i s=F9 (.d (.bool (pkT (nav p C) i s))) (.gv (pkT (nav p C) i s) (.d (.bool (pkX (nav p C) i s)))) (.d (.bool (pkY (nav p C) i s))):=by kernel_rfl) (hn:(Tw Γ (nav p C) i (pkV (nav p C) i s) s).isSome=true:=by kernel_rfl):RF Γ C p i Q s:=⟨JfK _ h Jbe (BT hn) rfl hk.out⟩
theorem pO (hk:RF Γ C p (i+1) Q ((Tw Γ (nav p C) i (pkV (nav p C) i s) s).getD s)) (h:Mw (nav p C) i s=F9 (.d (.bool (pkT (nav p C) i s))) (.d (.bool (pkX (nav p C) i s))) (.gv (!(pkT (nav p C) i s)) (.d (.bool (pkY (nav p C) i s)))):=by kernel_rfl) (hn:(Tw Γ (nav p C) i (pkV (nav p C) i s) s).isSome=true:=by kernel_rfl):RF Γ C p i Q s:=⟨JfK _ h Jdx (BT hn) rfl hk.out⟩
theorem pG {g:Bool} {v:AV} {x:Option Eff} (ho:g=true->FL x v [] [] none) (hk:RF Γ C p (i+1) Q ((Uf Γ (nav p C) i g v s).getD s)) (hg:gAt (nav p C) i s=some g:=by kernel_rfl) (hx:Mw (nav p C) i s=x:=by kernel_rfl) (hn:(Uf Γ (nav p C) i g v s).isSome=true:=by kernel_rfl):RF Γ C p i Q s:=⟨Jgt _ hg hx ho (BT hn) rfl hk.out⟩
theorem sF (hk:RF Γ C p (i+1) Q ((Yo Γ (nav p C) i ((Nx Γ (nav p C) i s).getD []) s).getD s)) (hx:(Nx Γ (nav p C) i s).isSome=true:=by kernel_rfl) (hn:(Yo Γ (nav p C) i ((Nx Γ (nav p C) i s).getD []) s).isSome=true:=by kernel_rfl):RF Γ C p i Q s:=⟨Jkt _ _ (BT hx) (BT hn) rfl hk.out⟩
theorem ca (m:Bool) {f:FuncId} {ys:List AV} {r:AV} (hr:Γ.calls f ys r) (hk:RF Γ C p (i+1) Q ((PP Γ (nav p C) i m (Hz r) r s).getD s)) (hc:H6 (nav p C) i s=some (f,ys,[],[]):=by kernel_rfl) (hn:(PP Γ (nav p C) i m (Hz r) r s).isSome=true:=by kernel_rfl):RF Γ C p i Q s:=⟨Ja6 _ m hc leZ rfl hr (.inl rfl) rfl (BT hn) rfl hk.out⟩
theorem cb (m:Bool) {f:FuncId} {xs ys:List AV} {ks:List Nat} {obl:List (Nat×Nat)} {r:AV} {ls:List Nat} (hob:EW obl) (hxs:xs=ys) (hr:Γ.calls f ys r) (hf:ks=[]\/Ij r) (hls:Hz r=ls) (hk:RF Γ C p (i+1) Q ((PP Γ (nav p C) i m ls r s).getD s)) (hc:H6 (nav p C) i s=some (f,xs,ks,obl):=by kernel_rfl) (hn:(PP Γ (nav p C) i m ls r s).isSome=true:=by kernel_rfl):RF Γ C p i Q s:=⟨Ja6 _ m hc hob hxs hr hf hls (BT hn) rfl hk.out⟩
theorem cG (m:Bool) {g:Bool} {gs:List Bool} {f:FuncId} {xs ys:List AV} {ks:List Nat} {obl:List (Nat×Nat)} {r:AV} {ls:List Nat} (hob:EW obl) (hxs:xs=ys) (hr:g=true->Γ.calls f ys r) (hf:ks=[]\/Ij r) (hi:DZ g gs) (hls:Hz r=ls) (hk:RF Γ C p (i+1) Q ((Mx Γ (nav p C) i g m ls r s).getD s)) (hg:gAt (nav p C) i s=some g:=by kernel_rfl) (hc:H6 (nav p C) i s=some (f,xs,ks,obl):=by kernel_rfl) (hgs:Ej (nav p C) i s=gs:=by kernel_rfl) (hn:(Mx Γ (nav p C) i g m ls r s).isSome=true:=by kernel_rfl):RF Γ C p i Q s:=⟨Jko _ m hg hc hob hxs hr hf hgs hi hls (BT hn) rfl hk.out⟩
theorem cGg (m:Bool) {g:Bool} {gs:List Bool} {f:FuncId} {xs ys:List AV} {ks:List Nat} {obl:List (Nat×Nat)} {r:AV} {ls:List Nat} (hob:g=true->EW obl) (hxs:g=true->xs=ys) (hr:g=true->Γ.calls f ys r) (hf:ks=[]\/Ij r) (hi:DZ g gs) (hls:Hz r=ls) (hk:RF Γ C p (i+1) Q ((Mx Γ (nav p C) i g m ls r s).getD s)) (hg:gAt (nav p C) i s=some g:=by kernel_rfl) (hc:H6 (nav p C) i s=some (f,xs,ks,obl):=by kernel_rfl) (hgs:Ej (nav p C) i s=gs:=by kernel_rfl) (hn:(Mx Γ (nav p C) i g m ls r s).isSome=true:=by kernel_rfl):RF Γ C p i Q s:=⟨Ja7 _ m hg hc hob hxs hr hf hgs hi hls (BT hn) rfl hk.out⟩
theorem JlI {α β:Type} {f:α->β} {xs:List α} {l m:List Nat} (h:l=m):(xs.map f).length::l=xs.length::m:=by rw [h,JmJ]
theorem Ak (e:α->List D) {xs:List α} {n:Int} {x:α} (h:idx xs n=some x):FZ s (A4 (.dptr ((xs.map e)[n.toNat]?.getD []) 0) (0<=n/\n<(xs.map e).length/\((xs.map e)[n.toNat]?.getD []).length=(e x).length)) (.dptr (e x) 0) [] [] none:=
 Jdt (esz:=(e x).length) (eb:=0) (ez:=[]) h (Nat.beq_refl _)
theorem Bl (k esz:Nat) {xs:List α} {n:Int} {x:α} (h:idx xs n=some x):FZ s (A4 (.eptr k esz (0+n.toNat) 0) (0<=n/\n<(xs.length:Nat)/\esz=esz)) (.eptr k esz (0+n.toNat) 0) [] [] none:=Jdu (esz:=esz) (eb:=0) (ez:=[]) h
theorem JdB (k esz:Nat) {xs:List α} {m:Nat} {n:Int} {x:α} (e:m=xs.length) (h:idx xs n=some x):FZ s (A4 (.eptr k esz (0+n.toNat) 0) (0<=n/\n<(m:Nat)/\esz=esz)) (.eptr k esz (0+n.toNat) 0) [] [] none:=by
 subst e;exact Bl k esz h
def ldV (l:List D) (off:Nat) (t:Ty):AV:=(BX (l.map .d) off t).getD .top
theorem B3 (e:α->List D) (k off:Nat) (t:Ty) {xs:List α} {n:Int} {x:α} (h:idx xs n=some x) (hk:obA s.objs k=some (.arr (e x).length (xs.map e)):=by kernel_rfl) (hv:(BX ((e x).map .d) off t).isSome=true:=by kernel_rfl) (hl:Nat.ble (off+t.size) (e x).length=true:=by kernel_rfl) :
  FZ s (C0 t s.objs (.eptr k (e x).length (0+n.toNat) off)) (ldV (e x) off t) [] [] none:=Jgy hk h (BT hv) hl
def stV (c:Code) (i:Nat) (s:St):AV:=
 match (A0 c)[i]? with
 | some o=>match o.op with
  | .store _ _ v=>unG (Aj s.env v)
  | _=>.top
 | none=>.top
def stR (c:Code) (i:Nat) (s:St):List D:=((xDs s.objs (Ar (stV c i s))).getD ([],[],[])).1
theorem stA (e:α->List D) (k off:Nat) (t:Ty) {xs zs:List α} {n:Int} {x y:α} (h:idx xs n=some x) (hz:put xs n y=some zs) (hk:RF Γ C p (i+1) Q ((L7 Γ (nav p C) i .top [] [] (some (k,.arr (e x).length (zs.map e))) s).getD s))
  (h1:obA s.objs k=some (.arr (e x).length (xs.map e)):=by kernel_rfl) (h2:xDs s.objs (Ar (stV (nav p C) i s))=some (stR (nav p C) i s,[],[]):=by kernel_rfl) (h3:(Bo (stV (nav p C) i s)&&(Ar (stV (nav p C) i s)).all Ee)=true:=by kernel_rfl) (h4:Ef (e x) off (stR (nav p C) i s)=e y:=by kernel_rfl) (h5:(Nat.beq (stR (nav p C) i s).length t.size&&Nat.ble (off+t.size) (e x).length)=true:=by kernel_rfl)
  (hx:Oz Γ (nav p C) i s=DT t s.objs (.eptr k (e x).length (0+n.toNat) off) (stV (nav p C) i s):=by kernel_rfl) (hn:(L7 Γ (nav p C) i .top [] [] (some (k,.arr (e x).length (zs.map e))) s).isSome=true:=by kernel_rfl):RF Γ C p i Q s:=
 sp (Jgz h1 h hz h2 leZ (by rw [h3];rfl) h4 h5) hk hx hn
theorem XE (e:α->List D) (k esz:Nat) {xs ys zs:List α} {eb:Nat} (h:app eb xs ys=some zs) (hk:obA s.objs k=some (.arr esz (xs.map e)):=by kernel_rfl) (hl:∀ y,(e y).length=esz:=by intro _;rfl):FZ s (BQ esz eb s.objs (.osl k esz 0 xs.length) (ys.map e) True) (.osl s.objs.length esz 0 zs.length) [.arr esz (zs.map e)] [k] none:=XC hk rfl hl trivial h
theorem A3 (e:α->List D) (k esz:Nat) {xs ys zs:List α} {eb:Nat} (h:app eb xs ys=some zs) (hk:obA s.objs k=some (.arr esz (xs.map e)):=by kernel_rfl) (hl:∀ y,(e y).length=esz:=by intro _;rfl):FZ s (BQ esz eb s.objs (.osl k esz 0 xs.length) (((ys.map e).drop 0).take ys.length) (0+ys.length<=(ys.map e).length)) (.osl s.objs.length esz 0 zs.length) [.arr esz (zs.map e)] [k] none:=XC hk FM hl (by simp) h
theorem Jk {x y z:List UInt8} (h:cat x y=some z):FZ s (U5 .add x y) (.d (.str z)) [] [] none:=JgA h
theorem Gm {t:List UInt8} {n b:Int} (h:Jj t n=some b):FZ s (A4 (.d (.int .u8 (t[n.toNat]?.getD 0).toNat)) (0<=n/\n<t.length)) (.d (.int .u8 b)) [] [] none:=Jdv h
theorem Gn {t z:List UInt8} {l h:Int} (hz:sub t l h=some z):FZ s (A4 (.d (.str ((t.take h.toNat).drop l.toNat))) (0<=l/\l<=h/\h<=t.length)) (.d (.str z)) [] [] none:=Jdw hz
theorem Jbl (e:α->List D) (esz:Nat) {xs zs:List α} {l h:Int} (hz:sub xs l h=some zs) (hl:∀ y,(e y).length=esz:=by intro _;rfl):FZ s (A4 (.d (.sl (((xs.map e).take h.toNat).drop l.toNat))) (0<=l/\l<=h/\h<=(xs.map e).length/\∀ y∈xs.map e,y.length=esz)) (.d (.sl (zs.map e))) [] [] none:=JgB hz hl
theorem My (k esz:Nat) {xs zs:List α} {l h:Int} (hz:sub xs l h=some zs):FZ s (A4 (.osl k esz (0+l.toNat) (h.toNat-l.toNat)) (0<=l/\l<=h/\h<=(xs.length:Int)/\esz=esz)) (.osl k esz (0+l.toNat) (h.toNat-l.toNat)) [] [] none:=JgD hz
theorem Jkz (e:α->List D) (esz:Nat) {zs:List α} {n:Int} {z:α} {eb:Nat} (h:mkl eb n z=some zs):FZ s (some ⟨.osl s.objs.length esz 0 n.toNat,[.arr esz (List.replicate n.toNat (e z))],[],none,0<=n/\n<=n/\n.toNat*eb<=70368744177664⟩) (.osl s.objs.length esz 0 zs.length) [.arr esz (zs.map e)] [] none:=Jkv h rfl
theorem Av (e:α->List D) (xs:List α):FZ s (val (.d (.int .i64 (xs.map e).length))) (.d (.int .i64 xs.length)) [] [] none:=JgC (esz:=0) (eb:=0) (ez:=[])
theorem cl (ls:List Nat) {f:FuncId} {ys:List AV} {r:AV} (hr:Γ.calls f ys r) (hk:RF Γ C p (i+1) Q ((PP Γ (nav p C) i true ls r s).getD s)) (hls:Hz r=ls:=by simp only [Hz,V5,V4,Tx,JmJ,List.nil_append,List.append_nil,List.cons_append]) (hc:H6 (nav p C) i s=some (f,ys,[],[]):=by kernel_rfl) (hn:(PP Γ (nav p C) i true ls r s).isSome=true:=by kernel_rfl):RF Γ C p i Q s:=⟨Ja6 _ true hc leZ rfl hr (.inl rfl) hls (BT hn) rfl hk.out⟩
def Yr:AV->Bool
 | .d _=>true
 | .agg l=>l.all Mn
 | _=>false
theorem RC (l m:List (Option (Nat×Nat×Nat))):ksE (l++m)=ksE l++ksE m:=by
 induction l with
 | nil=>rfl
 | cons a l ih=>cases a<;>simp [ksE,ih]
theorem Jbm {a:AV} (h:Mn a=true):ksE (Kk a a)=[]:=by
 cases a with
 | d x=>cases x<;>rfl
 | _=>cases h
theorem JdC {objs:List (Option Ob)} {a:AV} (h:Mn a=true):LB objs a a:=by
 cases a with
 | d x=>exact XA
 | _=>cases h
theorem JkA {objs:List (Option Ob)}:∀ {l:List AV},l.all Mn=true->Zj objs l l/\ksE (Re l l)=[]:=by
 intro l
 induction l with
 | nil=>intro _;exact ⟨trivial,rfl⟩
 | cons a l ih=>
  intro h
  simp only [List.all_cons,JmN] at h
  obtain ⟨h1,h2⟩:=ih h.2
  exact ⟨⟨JdC h.1,h1⟩,by simp only [Re,RC,Jbm h.1,h2,List.append_nil]⟩
theorem Jbn {objs:List (Option Ob)} {a:AV} (h:Yr a=true):Rf objs a a/\ksE (LC a a)=[]:=by
 cases a with
 | d x=>exact ⟨XA,Jbm (a:=.d x) rfl⟩
 | agg l=>exact JkA h
 | _=>cases h
theorem JfM {objs:List (Option Ob)}:∀ {l:List AV},l.all Yr=true->Xj objs l l/\ksE (LD l l)=[]:=by
 intro l
 induction l with
 | nil=>intro _;exact ⟨trivial,rfl⟩
 | cons a l ih=>
  intro h
  simp only [List.all_cons,JmN] at h
  obtain ⟨h1,h2⟩:=ih h.2
  obtain ⟨h3,h4⟩:=Jbn (objs:=objs) h.1
  exact ⟨⟨h3,h1⟩,by simp only [LD,RC,h4,h2,List.append_nil]⟩
theorem rd {ty:Nat->Ty} {rs:List ResultVar} {r:AV} (hd:Yr r=true:=by kernel_rfl) (h:Rw ty s rs=some [r]:=by kernel_rfl):RA ty rs r s:=⟨Jkp [] h (Jbn hd).1 (Jbn (objs:=[]) hd).2 (by simp)⟩
theorem rdT {ty:Nat->Ty} {rs:List ResultVar} {l:List AV} (hd:l.all Yr=true:=by kernel_rfl) (h:Rw ty s rs=some l:=by kernel_rfl) (hl:Nat.beq l.length 1=false:=by kernel_rfl):RA ty rs (.tup l) s:=⟨Jkq h hl (JfM hd).1 [] (JfM (objs:=[]) hd).2 (by simp)⟩
structure OV (s:St) (a r:AV):Prop where
 out:LB s.objs a r
structure OC (s:St) (a r:List AV):Prop where
 out:Zj s.objs a r
structure OA (s:St) (a r:AV):Prop where
 out:Rf s.objs a r
structure OT (s:St) (a r:List AV):Prop where
 out:Xj s.objs a r
theorem c0:OC s [] []:=⟨trivial⟩
theorem c1 {a r:AV} {l m:List AV} (h:OV s a r) (h':OC s l m):OC s (a::l) (r::m):=⟨⟨h.out,h'.out⟩⟩
theorem a1 {l m:List AV} (h:OC s l m):OA s (.agg l) (.agg m):=⟨h.out⟩
theorem ad {x:D} {r:AV} (h:OV s (.d x) r):OA s (.d x) r:=⟨h.out⟩
theorem ao {k sz lo n:Nat} {r:AV} (h:OV s (.osl k sz lo n) r):OA s (.osl k sz lo n) r:=⟨h.out⟩
theorem t0:OT s [] []:=⟨trivial⟩
theorem t1 {a r:AV} {l m:List AV} (h:OA s a r) (h':OT s l m):OT s (a::l) (r::m):=⟨⟨h.out,h'.out⟩⟩
theorem vd {x:D}:OV s (.d x) (.d x):=⟨XA⟩
theorem vn:OV s (.d .nil) (.d (.sl [])):=⟨Zy⟩
theorem vz {sz:Nat}:OV s (.d .nil) (.own sz []):=⟨Zz⟩
theorem vo {enc:α->List D} {xs:List α} {k sz:Nat} (h:obA s.objs k=some (.arr sz (xs.map enc)):=by kernel_rfl):OV s (.osl k sz 0 xs.length) (.own sz (xs.map enc)):=⟨Jba h⟩
theorem rO {ty:Nat->Ty} {rs:List ResultVar} {v r:AV} (ks:List Nat) (ho:OA s v r) (h:Rw ty s rs=some [v]:=by kernel_rfl) (hks:ksE (LC v r)=ks:=by kernel_rfl) (hnd:ks.Nodup:=by decide):RA ty rs r s:=⟨Jkp ks h ho.out hks hnd⟩
theorem rT {ty:Nat->Ty} {rs:List ResultVar} {vs l:List AV} (ks:List Nat) (ho:OT s vs l) (h:Rw ty s rs=some vs:=by kernel_rfl) (hl:Nat.beq vs.length 1=false:=by kernel_rfl) (hks:ksE (LD vs l)=ks:=by kernel_rfl) (hnd:ks.Nodup:=by decide):RA ty rs (.tup l) s:=⟨Jkq h hl ho.out ks hks hnd⟩
structure RL (nk:Nat) (ty:Nat->Ty) (rs:List ResultVar) (r:AV) (O1:List (Option Ob)) (s:St):Prop where
 out:∃ s',AR nk s s'/\Jdg ty rs r O1 s'
def JlJ (vs:List AV):AV:=match vs with
 | [v]=>v
 | vs=>.tup vs
theorem rl {ty:Nat->Ty} {rs:List ResultVar} {r:AV} {O1:List (Option Ob)} (sh:AR nk s s') (h:(Rw ty s' rs).map JlJ=some r:=by kernel_rfl) (hO:s'.objs=O1:=by kernel_rfl):RL nk ty rs r O1 s:=by
 refine ⟨s',sh,hO,?_⟩
 cases hb:Rw ty s' rs with
 | none=>rw [hb] at h;cases h
 | some vs=>
  rw [hb] at h
  obtain ⟨p,e1,q1⟩:=Ug hb
  rw [e1]
  simp only [Option.map_some,JmX] at h
  match vs,h with
  | [],h=>exact ⟨q1,h.symm⟩
  | [v],h=>exact ⟨q1,h⟩
  | v::v'::l,h=>exact ⟨q1,h.symm⟩
theorem pL {ty:Nat->Ty} {rs:List ResultVar} {r:AV} {O1:List (Option Ob)} (h:RL nk ty rs r O1 s):PQ (VZ nk ty rs r O1) .ret s:=⟨h.out⟩
theorem fl {P:Program} {fn:Func} {f:FuncId} {args:List AV} {O0 O1:List (Option Ob)} {nb:Nat} {r:AV} (hfol:P.follows .mixedOrders=true) (hΓ:FG P Γ) (hf:P.funcs[f]? = some fn) (h:WP Γ (Aw fn) [] (VZ nb Γ.ty fn.results.toList r O1) s)
  (hb:fn.body=some (Aw fn):=by kernel_rfl) (hnm:(fn.name == "runtime.NumGoroutine")=false:=by kernel_rfl) (hnt:Γ.nt=⟨fn.ntmps,[],nb,Γ.nt.qf⟩:=by kernel_rfl) (hlen:Nat.ble args.length fn.ntmps=true:=by kernel_rfl) (hs:(⟨(List.range args.length).zip args,O0⟩:St)=s:=by kernel_rfl) (hrd:Γ.rd=false:=by kernel_rfl):BM P f args O0 nb r O1:=
 Jdq hfol hΓ hrd hf hb hnm hnt hlen hs h.out
theorem lt (ord:List Nat) {f:FuncId} {ys:List AV} {O0 O1:List (Option Ob)} {nb:Nat} {r:AV} (hr:Γ.lent f ys O0 nb r O1) (hk:RF Γ C p (i+1) Q ((Yn Γ (nav p C) i ord nb r O1 s).getD s)) (hc:Rx (nav p C) i s=some (f,((Rx (nav p C) i s).getD (0,[],[])).2.1,ord):=by kernel_rfl)
  (hxs:((Rx (nav p C) i s).getD (0,[],[])).2.1.map (J2 ord)=ys:=by kernel_rfl) (hO:EV s.objs ord=O0:=by kernel_rfl) (hn:(Yn Γ (nav p C) i ord nb r O1 s).isSome=true:=by kernel_rfl):RF Γ C p i Q s:=⟨lentS hc hxs hO hr (BT hn) hk.out⟩
theorem leM {enc:α->List D} {xs:List α}:0+xs.length<=(xs.map enc).length:=by simp
theorem TA {a b:Nat} {u:Unit} (h:BJ (decide (a=b))=some u):a=b:=of_decide_eq_true (Ll h)
theorem Ys (k sz off m:Nat) {j:Nat} {n:Int} {u:Unit} (h:BJ (decide (0<=n/\n<(m:Nat)))=some u):FZ s (A4 (bif Nat.beq sz sz then .eptr k sz (j+n.toNat) off else .eptr k sz j (off+n.toNat*sz)) (0<=n/\n<(m:Nat))) (.eptr k sz (j+n.toNat) off) [] [] none:=by
 have hb:Nat.beq sz sz=true:=Nat.beq_refl sz
 rw [hb]
 exact .of rfl ((of_decide_eq_true (Ll h)))
def D.flatB:D->Bool
 | .sl es=>es.isEmpty
 | _=>true
theorem ZA {enc:α->List D} {xs:List α} (h:∀ a,(enc a).all D.flatB=true):∀ e∈xs.map enc,∀ x∈e,D.flat x:=by
 intro e he x hx
 simp only [JmG] at he
 obtain ⟨a,_,rfl⟩:=he
 have:=Jmz.1 (h a) x hx
 cases x<;>first|trivial|exact List.isEmpty_iff.1 this
theorem JkB {l m:List (List D)} (h:l=m):AV.d (.sl l)=AV.d (.sl m):=by rw [h]
end Go.AI
end
section
namespace Go.AI
variable {P:Program} {F F':Nat->Option Obj} {ρ ρ':Nat->Option Loc} {N:Nat->Prop} {H0 F0:Nat->Option Obj} {O objs:List (Option Ob)} {w:World} {w0:W0} {Γ:Nat->Ty} {nt:Slt} {o:Oper} {st:St}
theorem Bf.one {x:D} {v:Value} (h:Bf F x v):v.oneCell'=true:=(Li (F:=F) (ρ:=noR) (.d x v h) rfl).1
end Go.AI
end
section
namespace Go.AI
variable {P:Program} {Γ:Cx} {C:Code} {p:List Nat} {Q:Ex->St->Prop} {s s':St} {K:St->Prop} {i:Nat}
variable {α β ζ:Type}
structure XOK (P:Program) (Γ:Cx):Prop where
 ty:I8 P Γ.ty
 ext:Γ.ext=PH P
def JgE (Γ:Cx) (c:Code) (o:Oper):Bool:=!Mt c&&o.guard.isNone&&Bv Γ.nt o.dst&&ndB o.op
theorem Jbo (hX:XOK P Γ) {o:Oper} (ho:(A0 (nav p C))[i]? = some o) (h0:JgE Γ (nav p C) o=true) (hx:Zg P Γ.nt o true s s') (hk:RF Γ C p (i+1) Q s'):RF Γ C p i Q s:=by
 refine ⟨?_⟩
 have hk:=hk.out
 unfold AX at hk ⊢
 simp only [JgE,JmN,Bool.not_eq_true'] at h0
 obtain ⟨⟨⟨h1,h2⟩,h3⟩,h4⟩:=h0
 rw [Cf ho]
 show AP _ _ _ _ _ _
 have hgN:o.guard=none:=by simpa using h2
 unfold AP
 rw [hgN]
 simp only [Bk,h3,JmC,cond_false]
 exact ⟨λ _=>.inr (.inr ⟨h1,.inl ⟨s',by rw [hX.ext];exact hx.ok h4,hk⟩⟩),λ h=>by cases h⟩
def JdD (c:Code) (i:Nat):Option (Operand×Nat):=
 match (A0 c)[i]? with
 | some o=>match o.op with
  | .call ⟨.builtin .clear,args,ts⟩=>match args.toList,ts.toList with
   | [d],[t]=>some (d,t)
   | _,_=>none
  | _=>none
 | none=>none
def clV (c:Code) (i:Nat) (s:St):AV:=match JdD c i with
 | some (d,_)=>Aj s.env d
 | none=>.top
def nxZ (Γ:Cx) (c:Code) (i k sz:Nat) (_:List D) (zs:List (List D)) (s:St):Option St:=
 match (A0 c)[i]?,JdD c i with
 | some o,some (_,t)=>bif JgE Γ c o&&(Γ.ty t).ok then (match (Γ.ty t).kind with
  | .slice z _ _=>bif Nat.beq z sz then some ⟨putA o.dst false true (.tup []) s.env,s.objs.set k (some (.arr sz zs))⟩ else none
  | _=>none) else none
 | _,_=>none
def clZ (Γ:Cx) (c:Code) (i:Nat):List D:=match JdD c i with
 | some (_,t)=>(match (Γ.ty t).kind with
  | .slice _ _ ez=>ez
  | _=>[])
 | none=>[]
end Go.AI
end
section
namespace Go.AI
variable {α:Type}
def inB (n:Nat) (i:Int):Option Unit:=BJ (decide (0<=i)&&decide (i<n))
def ixP (xs:List α) (e:Nat×Nat) (i:Int):Option α:=(inB e.2 i).bind λ _=>idx xs ((e.1+i.toNat:Nat):Int)
def spl {β:Type} (es:List β) (lo:Nat) (ys:List β):List β:=es.take lo++ys++es.drop (lo+ys.length)
def ZB (xs:List α) (lo n:Nat) (z:α):Option (List α):=if lo+n<=xs.length then some (spl xs lo (List.replicate n z)) else none
end Go.AI
end
section
namespace Go.AI
variable {P:Program} {nt:Slt} {o:Oper} {st:St}
variable {Γ:Cx} {C:Code} {p:List Nat} {Q:Ex->St->Prop} {s s':St} {i:Nat} {α:Type}
theorem Jbp {n:Nat} {i:Int} {y:Unit} (h:inB n i=some y):0<=i/\i<n:=by
 unfold inB BJ at h
 split at h
 ·rename_i hc
  simpa using hc
 ·cases h
theorem QB (k esz lo n:Nat) {i:Int} {y:Unit} (h:inB n i=some y):FZ s (A4 (.eptr k esz (lo+i.toNat) 0) (0<=i/\i<(n:Nat)/\esz=esz)) (.eptr k esz (lo+i.toNat) 0) [] [] none:=
 .of rfl ⟨(Jbp h).1,(Jbp h).2,rfl⟩
theorem Uk (e:α->List D) (k off:Nat) (t:Ty) {xs:List α} {j:Nat} {x:α} (h:idx xs (j:Int)=some x) (hk:obA s.objs k=some (.arr (e x).length (xs.map e)):=by kernel_rfl) (hv:(BX ((e x).map .d) off t).isSome=true:=by kernel_rfl) (hl:Nat.ble (off+t.size) (e x).length=true:=by kernel_rfl) :
  FZ s (C0 t s.objs (.eptr k (e x).length j off)) (ldV (e x) off t) [] [] none:=by
 have:=B3 e k off t h hk hv hl
 rwa [Jm0,JmW] at this
theorem Yt {β:Type} {es ys:List β} {lo:Nat} (h:lo+ys.length<=es.length):(spl es lo ys).length=es.length:=by
 unfold spl;simp;omega
theorem JdE {β:Type} {es ys:List β} {lo:Nat} (h:lo+ys.length<=es.length) (i:Nat):(spl es lo ys)[i]? = if i<lo then es[i]? else if i<lo+ys.length then ys[i-lo]? else es[i]? := by
 unfold spl
 have hl:(es.take lo).length=lo:=by simp;omega
 rw [List.append_assoc]
 split
 ·rw [JmU (by omega),Jm5 (by omega)]
 ·rw [Jm3 (by omega),hl]
  split
  ·rw [JmU (by omega)]
  ·rw [Jm3 (by omega),JmH]
   congr 1;omega
theorem Yu {β:Type} {es ys:List β} {lo:Nat} {x:β} (h:x∈spl es lo ys):x∈es\/x∈ys:=by
 unfold spl at h
 rcases List.mem_append.1 h with h|h
 ·rcases List.mem_append.1 h with h|h
  ·exact .inl (List.mem_of_mem_take h)
  ·exact .inr h
 ·exact .inl (List.mem_of_mem_drop h)
theorem JdF {β γ:Type} (f:β->γ) (es ys:List β) (lo:Nat):(spl es lo ys).map f=spl (es.map f) lo (ys.map f):=by
 unfold spl;simp [List.map_take,List.map_drop]
theorem RD {xs:List α} {e:Nat×Nat} {i:Int} {x:α} (h:ixP xs e i=some x):inB e.2 i=some ():=by
 unfold ixP at h
 cases hq:inB e.2 i with
 | none=>rw [hq] at h;cases h
 | some u=>rfl
theorem QC {xs:List α} {e:Nat×Nat} {i:Int} {x:α} (h:ixP xs e i=some x):idx xs ((e.1+i.toNat:Nat):Int)=some x:=by
 unfold ixP at h
 rw [RD h] at h
 exact h
theorem JdG (e:α->List D) (k esz:Nat) {xs ys zs:List α} {E:List (List D)} {ob:Prop} {eb:Nat} (hE:E=ys.map e) (ho:ob) (h:app eb xs ys=some zs) (hk:obA s.objs k=some (.arr esz (xs.map e)):=by kernel_rfl) (hl:∀ y,(e y).length=esz:=by intro _;rfl):FZ s (BQ esz eb s.objs (.osl k esz 0 xs.length) E ob) (.osl s.objs.length esz 0 zs.length) [.arr esz (zs.map e)] [k] none:=XC hk hE hl ho h
theorem JdH (e:α->List D) (k esz:Nat) {xs x1 ys zs:List α} {lo n:Nat} {E:List (List D)} {ob:Prop} {eb:Nat} (hc:((xs.map e).drop lo).take n=x1.map e) (hle:lo+n<=(xs.map e).length) (hn:n=x1.length) (hE:E=ys.map e) (ho:ob) (h:app eb x1 ys=some zs) (hk:obA s.objs k=some (.arr esz (xs.map e)):=by kernel_rfl) (hl:∀ y,(e y).length=esz:=by intro _;rfl) :
  FZ s (BQ esz eb s.objs (.osl k esz lo n) E ob) (.osl s.objs.length esz 0 zs.length) [.arr esz (zs.map e)] [k] none:=by
 subst hE
 subst hn
 obtain ⟨h1,h2,h3⟩:=Jbc (enc:=e) h
 subst h3
 have hb:Nat.beq esz esz=true:=Nat.beq_refl esz
 refine .of (ob:=lo+x1.length<=(xs.map e).length/\(∀ x∈ys.map e,x.length=esz)/\(x1.length+(ys.map e).length)*eb<=70368744177664/\ob) ?_ ⟨hle,?_,h1,ho⟩
 ·simp only [BQ,hk,hb,Bool.true_or,Bool.and_self,cond_true,h2,hc]
  simp only [List.map_append]
 ·intro x hx
  simp only [JmG] at hx
  obtain ⟨y,_,rfl⟩:=hx
  exact hl y
theorem XF {Γ:Nat->Ty} (hΓ:I8 P Γ) {d:Operand} {t:TypeId} {k sz eb lo n:Nat} {ez:List D} {es:List (List D)} (hop:o.op=.call ⟨.builtin .clear,#[d],#[t]⟩) (hok:(Γ t).ok=true) (hkind:(Γ t).kind=.slice sz eb ez)
  (hd:Aj st.env d=.osl k sz lo n) (ho:obA st.objs k=some (.arr sz es)) (hnl:lo+n<=es.length) :
  Zg P nt o true st ⟨putA o.dst false true (.tup []) st.env,st.objs.set k (some (.arr sz (spl es lo (List.replicate n ez))))⟩:=by
 intro N H0 F0 w0 a w _ hI hdst K Qw hK
 obtain ⟨F,ρ,hS,hSl,hn,hdf⟩:=hI
 obtain ⟨desc,hde,_,hk⟩:=(hΓ t hok).desc
 rw [hkind] at hk
 obtain ⟨elem,i,z,rfl,p1,p2,p3,p4,p5,p6,p7,_⟩:=hk
 have hdr:=AY hSl d
 rw [hd] at hdr
 generalize hxd:a.eval d=xd at hdr
 have hER:=Nh (F:=F) (len:=n) (JmD _) p5 p6 p7
 have hcs:(Builtin.zeroCells z.cells n).size=n*sz:=by
  have hzs:z.cells.size=sz:=by have:=congrArg List.length p5;simp at this;omega
  simp [Builtin.zeroCells,hzs]
 have hzc:(Array.range (n*sz)).map (z.cells[· % z.cells.size]!)=Builtin.zeroCells z.cells n:=by
  have hzs:z.cells.size=sz:=by have:=congrArg List.length p5;simp at this;omega
  simp [Builtin.zeroCells,hzs]
 rw [hzc] at hER
 have hrl:(List.replicate n ez).length=n:=by simp
 have hys:∀ e∈List.replicate n ez,e.length=sz:=hER.1
 have hfit:lo+(List.replicate n ez).length<=es.length:=by rw [hrl];exact hnl
 have htup:Ah F ρ (.tup []) (.tuple #[]):=.tup [] #[] rfl λ i a v h=>by simp at h
 have fin:∀ w',Sim N H0 F0 F ρ (st.objs.set k (some (.arr sz (spl es lo (List.replicate n ez))))) w'.heap->Mu w w'->(execOp a.eval o).run P w=.ok (.value (.tuple #[])) w'->o.wp P a w K Qw:=by
  intro w' hS' hmu hr
  unfold Oper.wp
  rw [hr,Oper.upon_value]
  exact hK _ _ ⟨F,ρ,hS',hSl.putA hn hdst htup,hn.put hdst,by rw [Bu];exact ⟨hdf.1,hdf.2.1.trans hmu,hdf.2.2⟩⟩
 have hexec:∀ w',(Builtin.clear_ #[t] o.type #[xd]).run P w=.ok (.tuple #[]) w'->(execOp a.eval o).run P w=.ok (.value (.tuple #[])) w':=by
  intro w' hr
  simp only [execOp,hop,resolve,invoke,builtin,Jmw,Jmx,Jmu,List.map_toArray,JmK,List.map_nil,hxd,hr]
 by_cases h0:n=0
 ·subst h0
  refine fin w ?_ (Mu.refl w) (hexec w ?_)
  ·refine hS.table (by simp) λ j L ob' hj hob'=>?_
   by_cases e:j=k
   ·subst e;rw [By,if_pos ⟨rfl,AT ho⟩] at hob';cases hob';simpa [spl] using ho
   ·rw [By,if_neg (λ hh=>e hh.1)] at hob';exact hob'
  ·have:∃ ad cap,xd=.slice ad 0 cap:=by cases hdr<;>exact ⟨_,_,rfl⟩
   obtain ⟨ad,cap,rfl⟩:=this
   cases ad<;>simp [Builtin.clear_,run_underlying hde]
 ·cases hdr with
  | osl0=>exact absurd rfl h0
  | osl _ _ _ _ cap L hL hc hss hz=>
   obtain ⟨⟨g1,g2,cur,t0,fr,g3,g4,g5,g6⟩,gN,gF⟩:=hS.obj k L _ hL ho
   have hin:L.base+lo*sz+n*sz<=cur.size:=by
    have:(lo+n)*sz<=es.length*sz:=Jmy _ hnl
    rw [JmZ] at this
    omega
   have hst:=BL P L.b (L.base+lo*sz) t0 fr (Builtin.zeroCells z.cells n).toList 0 cur w g3 (by simp [hcs];omega) (by rw [g4];exact g5) (hER.ones (by rw [hcs];simp))
   simp only [Nat.add_zero] at hst
   refine fin { w with heap:=w.heap.setIfInBounds L.b (.cells (Bp cur (L.base+lo*sz) (Builtin.zeroCells z.cells n).toList) t0 fr) } ?_ (Mu.set g3) (hexec _ ?_)
   ·have:=hS.rewrite (k':=k) (L':=L) (x:=.cells (Bp cur (L.base+lo*sz) (Builtin.zeroCells z.cells n).toList) t0 fr) (O':=st.objs.set k (some (.arr sz (spl es lo (List.replicate n ez))))) hL ho (by rw [Cd hL];exact RLe.refl _) rfl (λ j ob' hj hob'=>by
     rw [By,if_neg (λ hh=>hj hh.1)] at hob';exact ⟨hob',hj⟩) (by simp) (by simpa using AT ho) (λ ob' hob'=>by
     rw [By,if_pos ⟨rfl,AT ho⟩] at hob'
     cases hob'
     have hps:(Bp cur (L.base+lo*sz) (Builtin.zeroCells z.cells n).toList).size=L.size:=by rw [Bj,g4]
     refine ⟨λ e he=>?_,by rw [Yt hfit];exact g2,_,t0,fr,by rw [Ck,if_pos ⟨rfl,Ap g3⟩],hps,g5,λ i e hi j x hx=>?_⟩
     ·rcases Yu he with h|h
      ·exact g1 e h
      ·exact hys e h
     ·have hjs:j<sz:=by
       have:=Ad hx
       have he:e.length=sz:=by
        rcases Yu (JmO hi) with h|h
        ·exact g1 e h
        ·exact hys e h
       omega
      rw [D6 _ _ _ _ (by simp [hcs];omega)]
      simp only [Array.length_toList,hcs]
      rw [JdE hfit,hrl] at hi
      by_cases hlo:i<lo
      ·rw [if_pos hlo] at hi
       obtain ⟨u,hu,hdu⟩:=g6 i e hi j x hx
       have hb:(i+1)*sz<=lo*sz:=Jmy _ hlo
       rw [JmZ,Nat.one_mul] at hb
       exact ⟨u,by rw [if_neg (by omega)];exact hu,hdu⟩
      ·rw [if_neg hlo] at hi
       have hb0:lo*sz<=i*sz:=Jmy _ (by omega)
       by_cases hlt:i<lo+n
       ·rw [if_pos hlt] at hi
        obtain ⟨u,hu,hdu⟩:=hER.2.2 (i-lo) e hi j x hx
        have hb:(i+1)*sz<=(lo+n)*sz:=Jmy _ hlt
        rw [JmZ,Nat.one_mul,JmZ] at hb
        refine ⟨u,?_,hdu⟩
        have e1:L.base+i*sz+j-(L.base+lo*sz)=0+(i-lo)*sz+j:=by
         rw [Nat.sub_mul];omega
        rw [if_pos (by omega),e1]
        simpa using hu
       ·rw [if_neg hlt] at hi
        obtain ⟨u,hu,hdu⟩:=g6 i e hi j x hx
        have hb:(lo+n)*sz<=i*sz:=Jmy _ (by omega)
        rw [JmZ] at hb
        exact ⟨u,by rw [if_neg (by omega)];exact hu,hdu⟩) (λ ob' hob'=>by
     rw [By,if_pos ⟨rfl,AT ho⟩] at hob'
     cases hob';rfl)
    rw [Cd hL] at this
    exact this
   ·have e1:∃ m,n=m+1:=⟨n-1,by omega⟩
    obtain ⟨m,rfl⟩:=e1
    simp only [Builtin.clear_,List.getElem?_toArray,List.getElem?_cons_zero,Jmw,run_underlying hde,Jmu,BD w p1 p4,hst,Jmx]
theorem V9 {xs zs:List α} {lo n:Nat} {z:α} (h:ZB xs lo n z=some zs):xs.length=zs.length:=by
 unfold ZB at h
 split at h
 ·cases h;exact (Yt (by simpa)).symm
 ·cases h
theorem xzP (hX:XOK P Γ) (enc:α->List D) {xs zs:List α} {z:α} (k sz lo n:Nat) (h:ZB xs lo n z=some zs) (hk:RF Γ C p (i+1) Q ((nxZ Γ (nav p C) i k sz (enc z) (zs.map enc) s).getD s))
  (hd:clV (nav p C) i s=.osl k sz lo n:=by kernel_rfl) (ho:obA s.objs k=some (.arr sz (xs.map enc)):=by kernel_rfl) (hz:clZ Γ (nav p C) i=enc z:=by kernel_rfl) (hn:(nxZ Γ (nav p C) i k sz (enc z) (zs.map enc) s).isSome=true:=by kernel_rfl):RF Γ C p i Q s:=by
 have hn:=BT (d:=s) hn
 generalize (nxZ Γ (nav p C) i k sz (enc z) (zs.map enc) s).getD s=s' at hn hk
 unfold ZB at h
 split at h
 ·rename_i hb
  cases h
  unfold nxZ at hn
  split at hn
  ·rename_i o d t hoo hcl
   obtain ⟨h0,hn⟩:=AQ hn
   simp only [JmN] at h0
   obtain ⟨h1,h2⟩:=h0
   split at hn
   ·rename_i z' eb ez hkd
    obtain ⟨h3,hn⟩:=AQ hn
    have:=JmT h3
    subst this
    cases hn
    unfold clV at hd
    unfold clZ at hz
    rw [hcl] at hd hz
    simp only [hkd] at hd hz
    subst hz
    unfold JdD at hcl
    rw [hoo] at hcl
    simp only at hcl
    split at hcl
    ·rename_i args ts hop
     split at hcl
     ·rename_i d' t1 ha ht
      cases hcl
      have ha:args=#[d]:=by rw [← Array.toArray_toList (xs:=args),ha]
      have ht:ts=#[t]:=by rw [← Array.toArray_toList (xs:=ts),ht]
      subst ha;subst ht
      have hx:=XF (nt:=Γ.nt) hX.ty hop h2 hkd hd ho (by simpa using hb)
      rw [JdF,List.map_replicate] at hk
      exact Jbo hX hoo h1 hx hk
     ·cases hcl
    ·cases hcl
   ·cases hn
  ·cases hn
 ·cases h
end Go.AI
end
section
namespace Go.AI
variable {P:Program} {F F':Nat->Option Obj} {ρ ρ':Nat->Option Loc} {N:Nat->Prop} {H0 F0:Nat->Option Obj} {O objs:List (Option Ob)} {w:World} {w0:W0}
def JkC (objs:List (Option Ob)) (j:Nat):Option (List (Option Ob)):=
 match obA objs 0 with
 | some (.lp d ts vs _)=>some (objs.set 0 (some (.lp d ts vs j)))
 | _=>none
def exJ (js:List Code):Ex->Nat->Prop
 | .normal,0=>True
 | .ret,i+2=>js[i]? = some .ret
 | .exit k,i+2=>js[i]? = some (.exit k)
 | _,_=>False
def JlK (nb:Nat) (js:List Code) (j:Nat) (objs1:List (Option Ob)) (e:Ex) (s:St):Prop:=exJ js e j/\∃ s',AR nb s s'/\lpJ s'.objs 0=some (js,1)/\JkC s'.objs j=some objs1
end Go.AI
end
section
namespace Go.AI
variable {P:Program} {Γ:Cx} {C:Code} {p:List Nat} {Q:Ex->St->Prop} {s s':St} {K:St->Prop} {i nk:Nat}
variable {α β ζ:Type}
def JgF (Γ:Cx) (c:Code) (o:Oper):Bool:=!Mt c&&Bv Γ.nt o.dst&&ndB o.op
def gY (c:Code) (i:Nat) (s:St):Option Bool:=match (A0 c)[i]? with
 | some o=>Bk (A0 c) s.env o.guard
 | none=>none
theorem ZC (hX:XOK P Γ) {o:Oper} {g:Bool} (ho:(A0 (nav p C))[i]? = some o) (h0:JgF Γ (nav p C) o=true) (hg:gY (nav p C) i s=some g) (hgt:g=true) (hx:PH P Γ.nt o g s s') (hk:RF Γ C p (i+1) Q s'):RF Γ C p i Q s:=by
 refine ⟨?_⟩
 have hk:=hk.out
 unfold AX at hk ⊢
 simp only [JgF,JmN,Bool.not_eq_true'] at h0
 obtain ⟨⟨h1,h3⟩,h4⟩:=h0
 rw [Cf ho]
 show AP _ _ _ _ _ _
 unfold AP
 have hga:Bk (A0 (nav p C)) s.env o.guard=some g:=by
  unfold gY at hg
  rw [ho] at hg
  exact hg
 rw [hga]
 simp only [h3,JmC,cond_false]
 exact ⟨λ _=>.inr (.inr ⟨h1,.inl ⟨s',by rw [hX.ext];exact hx,hk⟩⟩),λ h=>by rw [hgt] at h;cases h⟩
theorem Jbq {nt:Slt} {o:Oper} {st:St} {v:AV} {O1:List (Option Ob)} {g:Bool} (h:PH P nt o true st ⟨putA o.dst false true v st.env,O1⟩):PH P nt o g st ⟨putA o.dst o.guard.isSome g v st.env,O1⟩:=by
 intro N H0 F0 w0 a w hg hI hdst rd n K Qw hqr hK
 subst hg
 refine h N H0 F0 w0 a w rfl hI hdst rd n K Qw hqr λ a' w' hI'=>hK a' w' ?_
 obtain ⟨F,ρ,hS,hSl,hrest⟩:=hI'
 refine ⟨F,ρ,hS,?_,hrest⟩
 cases hgs:o.guard.isSome with
 | false=>exact hSl
 | true=>
  cases hd:o.dst with
  | none=>rw [hd] at hSl;exact hSl
  | some d=>
   rw [hd] at hSl
   intro t
   have:=hSl t
   simp only [putA,cond_true,cond_false,Bg] at this ⊢
   split
   ·rename_i e;rw [if_pos e] at this;exact .gvT _ _ this
   ·rename_i e;rw [if_neg e] at this;exact this
def F3 (m:Nat):Code->Code
 | .region id ops _=>.region id (ops.toList.take m).toArray false
 | c=>c
def SM (Γ:Cx) (c:Code) (m:Nat) (Q:Ex->St->Prop):Ex->St->Prop:=λ _ s=>phX Γ (B2 c) (Q .normal) ((B2 c).size-(m+1)) (m+1) s
def JkD (Γ:Cx) (c:Code) (b x m:Nat) (s0:St) (Q:Ex->St->Prop):Ex->St->Prop:=λ e s=>Jge Γ.ty (B2 c) b x m s0.env s.env s0.objs s.objs/\∃ F,(B2 c)[m]? = some F/\AP Γ false (B2 c).toList F (SM Γ c m Q e) s
def JgG (m:Nat):Code->Code
 | .region id ops d=>.region id (ops.toList.take m).toArray d
 | c=>c
def JkE (Γ:Cx) (c:Code) (m:Nat) (s0:St) (Q:Ex->St->Prop):Ex->St->Prop:=λ e s=>Ke true ((B2 c).toList.take m).toArray s0.env s.env=true/\∃ F,(B2 c)[m]? = some F/\AP Γ false (B2 c).toList F (SM Γ c m Q e) s
theorem ry (m:Nat) (hs:AR Γ.nt.nk s s') (hk:RF Γ (JgG m (nav p C)) [] 0 (JkE Γ (nav p C) m s' Q) s') (h:(JG (nav p C)&&Mt (nav p C))=true:=by kernel_rfl) (hb:Jam (B2 (nav p C)) m=true:=by kernel_rfl):WP Γ C p Q s:=by
 refine ⟨?_⟩
 have hk:=hk.out
 generalize nav p C=c at *
 cases c with
 | region id ops d=>
  simp only [JG,Mt,Bool.true_and] at h
  subst h
  exact ⟨s',hs,.inr (.inl ⟨rfl,.inr ⟨ops.size-(m+1),m,hb,hk⟩⟩)⟩
 | _=>cases h
theorem XG {ops:List Oper} {m:Nat} {env:List (Nat×AV)} {g:Option (Nat×Bool)} {v:Bool} (h:Bk (ops.take m) env g=some v):Bk ops env g=some v:=by
 unfold Bk at h ⊢
 split at h
 ·exact h
 ·rename_i j want
  rcases JmE j m with hj|hj
  ·rw [Jm5 hj] at h;exact h
  ·rw [List.getElem?_eq_none (by rw [List.length_take];omega)] at h;cases h
theorem Mz {ops:List Oper} {m:Nat} {o:Oper} {Q:St->Prop} (h:AP Γ false (ops.take m) o Q s):AP Γ false ops o Q s:=by
 unfold AP at h ⊢
 split at h
 ·exact h.elim
 ·rename_i g hg
  rw [XG hg];exact h
theorem mx {c:Code} {b x m:Nat} {s0:St} (hk:RF Γ (F3 (m+1) c) [] m (SM Γ c m Q) s) (hi:Nat.ble (A0 (F3 m c)).length i=true:=by kernel_rfl) (h:JG c=true:=by kernel_rfl) (hm:Nat.blt m (B2 c).size=true:=by kernel_rfl)
  (h1:ldL Γ.ty (B2 c) b x m s0.env s.env s0.objs=ldL Γ.ty (B2 c) b x m s0.env s.env s.objs:=by kernel_rfl) (h2:(ldL Γ.ty (B2 c) b x m s0.env s.env s0.objs).all Option.isSome=true:=by kernel_rfl):RF (cxX Γ (B2 c) x) (F3 m c) [] i (JkD Γ c b x m s0 Q) s:=by
 refine ⟨Mv i hi ⟨⟨h1,h2⟩,?_⟩⟩
 have hk:=hk.out
 have hm:=Jm1 hm
 cases c with
 | region id ops d=>
  simp only [B2] at hm ⊢
  have hg:=JmR (show m<ops.size by omega)
  refine ⟨ops[m],hg,?_⟩
  have hk:GP Γ false (ops.toList.take (m+1)) ((ops.toList.take (m+1)).drop m) (SM Γ (.region id ops d) m Q .normal) s:=hk
  rw [show (ops.toList.take (m+1)).drop m=[ops[m]] by
   rw [List.drop_take,List.drop_eq_getElem_cons (by simp;omega)]
   simp] at hk
  exact Mz hk
 | _=>cases h
theorem my {c:Code} {m:Nat} {s0:St} (hk:RF Γ (F3 (m+1) c) [] m (SM Γ c m Q) s) (hi:Nat.ble (A0 (JgG m c)).length i=true:=by kernel_rfl) (h:JG c=true:=by kernel_rfl) (hm:Nat.blt m (B2 c).size=true:=by kernel_rfl)
  (hd:Ke true ((B2 c).toList.take m).toArray s0.env s.env=true:=by kernel_rfl):RF Γ (JgG m c) [] i (JkE Γ c m s0 Q) s:=by
 refine ⟨Mv i hi ⟨hd,?_⟩⟩
 have hk:=hk.out
 have hm:=Jm1 hm
 cases c with
 | region id ops d=>
  simp only [B2] at hm ⊢
  have hg:=JmR (show m<ops.size by omega)
  refine ⟨ops[m],hg,?_⟩
  have hk:GP Γ false (ops.toList.take (m+1)) ((ops.toList.take (m+1)).drop m) (SM Γ (.region id ops d) m Q .normal) s:=hk
  rw [show (ops.toList.take (m+1)).drop m=[ops[m]] by
   rw [List.drop_take,List.drop_eq_getElem_cons (by simp;omega)]
   simp] at hk
  exact Mz hk
 | _=>cases h
theorem nz {c:Code} {m:Nat} (hk:PQ Q .normal s) (hi:Nat.ble (A0 (F3 (m+1) c)).length i=true:=by kernel_rfl) (hm:Nat.beq (B2 c).size (m+1)=true:=by kernel_rfl):RF Γ (F3 (m+1) c) [] i (SM Γ c m Q) s:=by
 refine ⟨Mv i hi ?_⟩
 unfold SM
 have hm:=JmT hm
 rw [hm,Nat.sub_self]
 exact ⟨hm.symm,hk.out⟩
theorem nx {c:Code} {m:Nat} (x m2:Nat) (hk:RF (cxX Γ (B2 c) x) (F3 m2 c) [] (m+1) (JkD Γ c (m+1) x m2 s Q) s) (hi:Nat.ble (A0 (F3 (m+1) c)).length i=true:=by kernel_rfl) (h:JG c=true:=by kernel_rfl) (hb:QO (B2 c) (m+1) x m2=true:=by kernel_rfl):RF Γ (F3 (m+1) c) [] i (SM Γ c m Q) s:=by
 refine ⟨Mv i hi ?_⟩
 have hk:=hk.out
 cases c with
 | region id ops d=>
  have hbb:=(Tt hb).1
  simp only [B2] at hbb
  unfold SM
  simp only [B2]
  refine Jgq (f:=ops.size-(m2+1)+1) (by omega) (.inr ⟨x,m2,hbb.2.2,hb,?_⟩)
  exact hk
 | _=>cases h
def Fs (ev:Operand->AV):Op->Option FuncId×List AV
 | .call ⟨.value (.func f),args,_⟩=>(some f,args.toList.map ev)
 | .call ⟨.value x,args,_⟩=>match ev x with
  | .clo f l=>(some f,args.toList.map ev++l)
  | _=>(none,[])
 | _=>(none,[])
theorem SN {ev ev':Operand->AV} {op:Op} (h:∀ y∈op.operands.toList,ev y=ev' y):Fs ev op=Fs ev' op:=by
 cases op with
 | call c=>
  obtain ⟨callee,args,ts⟩:=c
  cases callee with
  | value x=>
   have ha:args.toList.map ev=args.toList.map ev':=List.map_congr_left λ y hy=>h y (by simp [Op.operands,Call.operands];exact .inr (by simpa using hy))
   have hx:=h x (by simp [Op.operands,Call.operands])
   cases x<;>simp only [Fs,ha,hx]
  | _=>rfl
 | _=>rfl
theorem ZD {nt:Slt} {o:Oper} {st:St} {f:FuncId} {xs:List AV} {nb:Nat} {r:AV} {O1:List (Option Ob)} (hgob:Ed true (o.op.operands.toList.map (Aj st.env))) (hc:Fs (λ y=>unG (Aj st.env y)) o.op=(some f,xs))
  (hcall:BM P f (xs.map (J2 (AG st.objs xs))) (EV st.objs (AG st.objs xs)) nb r O1) (hnb:nb<=(AG st.objs xs).length) (hnb1:nb<=O1.length) (hord:∀ k∈AG st.objs xs,k<st.objs.length) :
  Zg P nt o true st ⟨putA o.dst false true (M8 (Dz (AG st.objs xs) st.objs.length nb) r) st.env,CI st.objs (AG st.objs xs) nb O1⟩:=by
 intro N H0 F0 w0 a w _ hI hdst K Qw hK
 obtain ⟨F,ρ,hS,hSl,hn,hdf⟩:=hI
 have hk:∀ v w' F' ρ'',FLe F F'->RLe ρ ρ''->Sim N H0 F0 F' ρ'' (CI st.objs (AG st.objs xs) nb O1) w'.heap->Ah F' ρ'' (M8 (Dz (AG st.objs xs) st.objs.length nb) r) v->Mu w w'->K (a.put o.dst v) w':=
  λ v w' F' ρ'' hF hρ hS' hv hmu=>hK _ _ ⟨F',ρ'',hS',(hSl.mono hF hρ).putA hn hdst hv,hn.put hdst,by rw [Bu];exact ⟨hdf.1.mono hF,hdf.2.1.trans hmu,hdf.2.2.mono hρ⟩⟩
 have hev:∀ y∈o.op.operands.toList,Ah F ρ (unG (Aj st.env y)) (a.eval y):=λ y hy=>Bt rfl _ hgob _ (List.mem_map_of_mem hy) _ (AY hSl y)
 unfold Fs at hc
 split at hc
 ·rename_i f' args ts hop
  cases hc
  exact VF (ev:=λ y=>unG (Aj st.env y)) hop hS (λ y hy=>hev y (by rw [hop];simp [Op.operands,Call.operands];exact .inr (by simpa using hy))) hcall hnb hnb1 hord hk
 ·rename_i x args ts _ hop
  split at hc
  ·rename_i f' l hx
   have hx:unG (Aj st.env x)=.clo f' l:=hx
   cases hc
   have hxr:=hev x (by rw [hop];simp [Op.operands,Call.operands])
   rw [hx] at hxr
   generalize hxv:a.eval x=xv at hxr
   cases hxr with
   | clo _ _ vs hl hr=>
    have hcr0:=Nl (args:=args) (a:=a) (ev:=λ y=>unG (Aj st.env y)) (λ y hy=>hev y (by rw [hop];simp [Op.operands,Call.operands];exact .inr (by simpa using hy)))
    refine Q3 (vs:=args.map a.eval++vs) (λ fn c hf hb hnm=>?_) hS ⟨by simp [hl],λ i y v hy hv=>?_⟩ hcall hnb hnb1 hord hk
    ·simp only [execOp,hop,resolve,hxv,Deferred.ofValue,Jmw,Jmx,Jmu,invoke,callFunc,run_program,hf,hnm,hb,JmY,if_false,Option.isNone_some,Array.empty_append]
    ·rw [Array.toList_append] at hv
     have hl0:=hcr0.1
     by_cases hi:i<(args.toList.map (λ y=>unG (Aj st.env y))).length
     ·rw [JmU hi] at hy
      rw [JmU (by omega)] at hv
      exact hcr0.2 i y v hy hv
     ·rw [Jm3 (by omega)] at hy
      rw [Jm3 (by omega)] at hv
      rw [← hl0] at hv
      exact hr _ y v hy (by simpa using hv)
  ·cases hc
 ·cases hc
def SO (c:Code) (i:Nat) (s:St):Option ((Option FuncId×List AV)×List Nat):=
 match (A0 c)[i]? with
 | some o=>some (Fs (λ y=>unG (Aj s.env y)) o.op,AG s.objs (Fs (λ y=>unG (Aj s.env y)) o.op).2)
 | none=>none
def nxS (Γ:Cx) (ops:Array Oper) (x:Nat) (c:Code) (i:Nat) (g:Bool) (ord:List Nat) (nb:Nat) (r:AV) (O1:List (Option Ob)) (s:St):Option St:=
 match (A0 c)[i]? with
 | some o=>bif !Mt c&&Nat.beq i x&&Nat.blt x ops.size.pred&&Bv Γ.nt o.dst&&Nat.ble nb ord.length&&Nat.ble nb O1.length&&ord.all (λ k=>Nat.blt k s.objs.length) then
   some ⟨putA o.dst o.guard.isSome g (M8 (Dz ord s.objs.length nb) r) s.env,CI s.objs ord nb O1⟩ else none
 | none=>none
theorem xs {c:Code} {x m:Nat} (hX:XOK P Γ) {g:Bool} (hgt:g=true) {gs:List Bool} (hi:DZ g gs) (ord:List Nat) {f:FuncId} {ys:List AV} {O0 O1 raw0:List (Option Ob)} {nb:Nat} {r:AV} (hr:BM P f ys O0 nb r O1) (hp0:raw0=O0)
  (hk:RF (cxX Γ (B2 c) x) (F3 m c) [] (i+1) Q ((nxS Γ (B2 c) x (F3 m c) i g ord nb r O1 s).getD s)) (hreg:JG c=true:=by kernel_rfl) (hg:gY (F3 m c) i s=some g:=by kernel_rfl) (hgs:Ej (F3 m c) i s=gs:=by kernel_rfl)
  (hc:SO (F3 m c) i s=some ((some f,((SO (F3 m c) i s).getD ((none,[]),[])).1.2),ord):=by kernel_rfl) (hxs:((SO (F3 m c) i s).getD ((none,[]),[])).1.2.map (J2 ord)=ys:=by kernel_rfl) (hO:EV s.objs ord=raw0:=by kernel_rfl)
  (hn:(nxS Γ (B2 c) x (F3 m c) i g ord nb r O1 s).isSome=true:=by kernel_rfl):RF (cxX Γ (B2 c) x) (F3 m c) [] i Q s:=by
 generalize ((SO (F3 m c) i s).getD ((none,[]),[])).1.2=zs at hc hxs
 have hn:=BT (d:=s) hn
 generalize (nxS Γ (B2 c) x (F3 m c) i g ord nb r O1 s).getD s=s' at hn hk
 subst hp0
 unfold SO at hc
 unfold nxS at hn
 split at hn
 ·rename_i o ho
  rw [ho] at hc
  simp only [JmX,Prod.mk.injEq] at hc
  obtain ⟨hc,hord⟩:=hc
  rw [hc] at hord
  simp only at hord
  obtain ⟨h0,hn⟩:=AQ hn
  simp only [JmN] at h0
  obtain ⟨⟨⟨⟨⟨⟨h1,h2⟩,h3⟩,h4⟩,h5⟩,h6⟩,h7⟩:=h0
  cases hn
  subst hord
  subst hxs
  subst hO
  have hix:=JmT h2
  subst hix
  have hox:(B2 c)[i]? = some o:=by
   cases c with
   | region id ops d=>
    simp only [F3,A0,List.getElem?_take] at ho
    split at ho
    ·show ops[i]? = some o
     simpa using ho
    ·cases ho
   | _=>cases hreg
  have hgob:Ed true (o.op.operands.toList.map (Aj s.env)):=by
   subst hgs
   unfold Ej at hi
   rw [ho] at hi
   rw [← hgt]
   exact Kn hi
  refine ⟨?_⟩
  have hk:=hk.out
  unfold AX at hk ⊢
  simp only [nav] at hk ⊢
  rw [Cf ho]
  show AP _ _ _ _ _ _
  unfold AP
  have hga:Bk (A0 (F3 m c)) s.env o.guard=some g:=by
   unfold gY at hg
   rw [ho] at hg
   exact hg
  rw [hga]
  have h4:Bv (cxX Γ (B2 c) i).nt o.dst=true:=h4
  simp only [h4,JmC,cond_false]
  refine ⟨λ _=>.inr (.inr ⟨by simpa using h1,.inl ⟨_,⟨hox,_,_,rfl,λ env he=>?_⟩,hk⟩⟩),λ h=>by rw [hgt] at h;cases h⟩
  rw [hX.ext]
  have hgob':Ed true (o.op.operands.toList.map (Aj env)):=by
   rw [List.map_congr_left he];exact hgob
  have hc':Fs (λ y=>unG (Aj env y)) o.op=(some f,zs):=by
   rw [SN (ev':=λ y=>unG (Aj s.env y)) λ y hy=>by rw [he y hy]]
   exact hc
  have hnd:ndB o.op=true:=by
   cases hop:o.op with
   | defer d=>rw [hop] at hc;cases hc
   | _=>rfl
  exact Jbq (st:=⟨env,s.objs⟩) ((ZD (st:=⟨env,s.objs⟩) hgob' hc' hr (Jm1 h5) (Jm1 h6) λ k hk=>by
   exact Jm1 (Jmz.1 h7 k hk)).ok hnd)
 ·cases hn
theorem rq {js:List Code} {j:Nat} {O1:List (Option Ob)} {e:Ex} (sh:AR nk s s') (h:exJ js e j:=by first|exact trivial|exact rfl) (h1:lpJ s'.objs 0=some (js,1):=by kernel_rfl) (h2:JkC s'.objs j=some O1:=by kernel_rfl):PQ (JlK nk js j O1) e s:=⟨⟨h,s',sh,h1,h2⟩⟩
end Go.AI
end
section
namespace Go.AI
variable {P:Program} {F F':Nat->Option Obj} {ρ ρ':Nat->Option Loc} {N:Nat->Prop} {H0 F0:Nat->Option Obj} {O objs:List (Option Ob)} {w:World} {w0:W0} {nt:Slt} {o:Oper} {st:St}
def JgH (o:Oper) (xs:List AV) (nb:Nat) (R:AV->List (Option Ob)->Prop) (st:St) (st':St):Prop:=
 ∃ r O1,R r O1/\st'=⟨putA o.dst false true (M8 (Dz (AG st.objs xs) st.objs.length nb) r) st.env,CI st.objs (AG st.objs xs) nb O1⟩
theorem ZE {f:FuncId} {xs:List AV} {nb:Nat} {R:AV->List (Option Ob)->Prop} (hgob:Ed true (o.op.operands.toList.map (Aj st.env))) (hc:Fs (λ y=>unG (Aj st.env y)) o.op=(some f,xs))
  (hcall:Hu P f (xs.map (J2 (AG st.objs xs))) (EV st.objs (AG st.objs xs)) nb R) (hnb:nb<=(AG st.objs xs).length) (hnb1:∀ r O1,R r O1->nb<=O1.length) (hord:∀ k∈AG st.objs xs,k<st.objs.length) :
  Ov P nt o st (JgH o xs nb R st):=by
 intro N H0 F0 w0 a w hI hdst rr n K Qw _ hK
 obtain ⟨F,ρ,hS,hSl,hn,hdf⟩:=hI
 have hk:∀ r O1,R r O1->∀ v w' F' ρ'',FLe F F'->RLe ρ ρ''->Sim N H0 F0 F' ρ'' (CI st.objs (AG st.objs xs) nb O1) w'.heap->Ah F' ρ'' (M8 (Dz (AG st.objs xs) st.objs.length nb) r) v->Mu w w'->K (a.put o.dst v) w':=
  λ r O1 hR v w' F' ρ'' hF hρ hS' hv hmu=>hK _ _ _ ⟨r,O1,hR,rfl⟩ ⟨F',ρ'',hS',(hSl.mono hF hρ).putA hn hdst hv,hn.put hdst,by rw [Bu];exact ⟨hdf.1.mono hF,hdf.2.1.trans hmu,hdf.2.2.mono hρ⟩⟩
 have hev:∀ y∈o.op.operands.toList,Ah F ρ (unG (Aj st.env y)) (a.eval y):=λ y hy=>Bt rfl _ hgob _ (List.mem_map_of_mem hy) _ (AY hSl y)
 have hnd:∀ c,o.op≠.defer c:=λ c e=>by rw [e] at hc;cases hc
 unfold Fs at hc
 split at hc
 ·rename_i f' args ts hop
  cases hc
  refine DV hnd (PG (vs:=args.map a.eval) (λ fn c hf hb hnm=>?_) hS (Nl (ev:=λ y=>unG (Aj st.env y)) λ y hy=>hev y (by rw [hop];simp [Op.operands,Call.operands];exact .inr (by simpa using hy))) hcall hnb hnb1 hord hk)
  simp only [execOp,hop,resolve,Act.eval,Deferred.ofValue,Jmw,Jmx,Jmu,invoke,callFunc,run_program,hf,hnm,hb,JmY,if_false,Option.isNone_some,Array.empty_append,Array.append_empty]
 ·rename_i x args ts _ hop
  split at hc
  ·rename_i f' l hx
   have hx:unG (Aj st.env x)=.clo f' l:=hx
   cases hc
   have hxr:=hev x (by rw [hop];simp [Op.operands,Call.operands])
   rw [hx] at hxr
   generalize hxv:a.eval x=xv at hxr
   cases hxr with
   | clo _ _ vs hl hr=>
    have hcr0:=Nl (args:=args) (a:=a) (ev:=λ y=>unG (Aj st.env y)) (λ y hy=>hev y (by rw [hop];simp [Op.operands,Call.operands];exact .inr (by simpa using hy)))
    refine DV hnd (PG (vs:=args.map a.eval++vs) (λ fn c hf hb hnm=>?_) hS ⟨by simp [hl],λ i y v hy hv=>?_⟩ hcall hnb hnb1 hord hk)
    ·simp only [execOp,hop,resolve,hxv,Deferred.ofValue,Jmw,Jmx,Jmu,invoke,callFunc,run_program,hf,hnm,hb,JmY,if_false,Option.isNone_some,Array.empty_append]
    ·rw [Array.toList_append] at hv
     have hl0:=hcr0.1
     by_cases hi:i<(args.toList.map (λ y=>unG (Aj st.env y))).length
     ·rw [JmU hi] at hy
      rw [JmU (by omega)] at hv
      exact hcr0.2 i y v hy hv
     ·rw [Jm3 (by omega)] at hy
      rw [Jm3 (by omega)] at hv
      rw [← hl0] at hv
      exact hr _ y v hy (by simpa using hv)
  ·cases hc
 ·cases hc
end Go.AI
end
section
namespace Go.AI
variable {P:Program}
theorem ZF {nt:Slt} {o:Oper} {st:St} {x:Operand} {tys:Array TypeId} {f:FuncId} {caps:List AV} (hop:o.op=.defer ⟨.value x,#[],tys⟩) (hgob:Ed true (o.op.operands.toList.map (Aj st.env))) (hx:unG (Aj st.env x)=.clo f caps) (hd:o.dst=none) (hQ:(f,caps.length)∈nt.qf):PH P nt o true st st:=by
 intro N H0 F0 w0 a w _ hI hdst rd n K Qw hqr hK
 have hrd:rd=none:=hqr (List.ne_nil_of_mem hQ)
 subst hrd
 obtain ⟨F,ρ,hS,hSl,hn,hdf,hmu,hrk⟩:=hI
 have hxr:Ah F ρ (unG (Aj st.env x)) (a.eval x):=Bt rfl _ hgob _ (List.mem_map_of_mem (by rw [hop];simp [Op.operands,Call.operands])) _ (AY hSl x)
 rw [hx] at hxr
 generalize hxv:a.eval x=xv at hxr
 cases hxr with
 | clo _ _ vs hl hr=>
  have hex:(execOp a.eval o).run P w=.ok (.defer (Nb f vs)) w:=by
   simp only [execOp,hop,resolve,hxv,Deferred.ofValue,Jmw,Jmx,Jmu,Nb]
   simp
  obtain ⟨l,q1,q2,q3⟩:=hdf
  refine ⟨λ _ _=>trivial,?_⟩
  show Oper.uponIn _ _ _ _ _ _ _ ((execOp a.eval o).run P w)
  rw [hex,Oper.uponIn_defer,hd]
  exact hK _ _ ⟨F,ρ,hS,hSl,hn,⟨l,.quiet (by rw [← hl];exact hQ) q1,q2,q3⟩,hmu,hrk⟩
end Go.AI
end
section
namespace Go.AI
variable {P:Program} {Γ:Cx} {C:Code} {p:List Nat} {Q:Ex->St->Prop} {s s':St} {i:Nat}
def dfB (nt:Slt) (c:Code) (i:Nat) (s:St):Bool:=match (A0 c)[i]? with
 | some o=>!Mt c&&o.guard.isNone&&o.dst.isNone&&(match o.op with
  | .defer ⟨.value x,args,_⟩=>args.isEmpty&&(match Aj s.env x with
   | .clo f caps=>nt.qf.any λ q=>Nat.beq q.1 f&&Nat.beq q.2 caps.length
   | _=>false)
  | _=>false)
 | none=>false
theorem xd (hX:XOK P Γ) (hk:RF Γ C p (i+1) Q s) (h:dfB Γ.nt (nav p C) i s=true:=by kernel_rfl):RF Γ C p i Q s:=by
 unfold dfB at h
 split at h
 ·rename_i o ho
  simp only [JmN,Bool.not_eq_true'] at h
  obtain ⟨⟨⟨h1,h2⟩,h3⟩,h4⟩:=h
  split at h4
  ·rename_i x args tys hop
   simp only [JmN] at h4
   obtain ⟨ha,h4⟩:=h4
   have hae:args=#[]:=by simpa using ha
   subst hae
   split at h4
   ·rename_i f caps hx
    obtain ⟨q,hq,hq2⟩:=List.any_eq_true.mp h4
    simp only [JmN] at hq2
    have e1:=JmT hq2.1
    have e2:=JmT hq2.2
    have hQ:(f,caps.length)∈Γ.nt.qf:=by rw [← e1,← e2];exact hq
    have hgN:o.guard=none:=by simpa using h2
    have hdN:o.dst=none:=by simpa using h3
    refine ⟨?_⟩
    have hk:=hk.out
    unfold AX at hk ⊢
    rw [Cf ho]
    show AP _ _ _ _ _ _
    unfold AP
    rw [hgN]
    simp only [Bk,hdN,Bv,JmC,cond_false]
    refine ⟨λ _=>.inr (.inr ⟨h1,.inl ⟨s,?_,hk⟩⟩),λ h=>by cases h⟩
    rw [hX.ext]
    refine ZF hop ?_ (by rw [hx];rfl) hdN hQ
    rw [hop]
    simp [Op.operands,Call.operands,hx,Ed]
   ·cases h4
  ·cases h4
 ·cases h
end Go.AI
end
section
namespace Go.AI
variable {s:St} {nk:Nat} {α β:Type} {enc:β->List D}
theorem JdI (e:β->List D) (esz:Nat) {xs zs:List β} {l:Int} (hz:sub xs l ((xs.length:Nat):Int)=some zs) (hl:∀ y,(e y).length=esz:=by intro _;rfl):FZ s (A4 (.d (.sl (((xs.map e).take (((xs.map e).length:Nat):Int).toNat).drop l.toNat))) (0<=l/\l<=(((xs.map e).length:Nat):Int)/\(((xs.map e).length:Nat):Int)<=(xs.map e).length/\∀ y∈xs.map e,y.length=esz)) (.d (.sl (zs.map e))) [] [] none:=by
 have h0:(((xs.map e).length:Nat):Int)=((xs.length:Nat):Int):=by rw [JmJ]
 rw [h0]
 have:=Jbl (s:=s) e esz hz hl
 rw [h0] at this
 exact this
theorem Jbr {P:Program} {Γ:Nat->Ty} {nt:Slt} {o:Oper} {st:St} (hΓ:I8 P Γ) {s t:TypeId} {x:Operand} {eb:Nat} {es:List (List D)} {ob:Prop} (hop:o.op=.convert s t x) (hs:(Γ s).ok=true) (ht:(Γ t).ok=true) (hks:(Γ s).kind=.slice 1 eb [.int .u8 0]) (hkt:(Γ t).kind=.string)
  (hgob:Ed true (o.op.operands.toList.map (Aj st.env))) (hel:FV st.objs (unG (Aj st.env x))=some (es,ob)) (hob:ob) (hby:∀ e∈es,QK e):Zg P nt o true st ⟨putA o.dst false true (.d (.str (es.map Mm))) st.env,st.objs⟩:=by
 intro N H0 F0 w0 a w _ hI hdst K Qw hK
 obtain ⟨F,ρ,hS,hSl,hn,hdf⟩:=hI
 obtain ⟨d,hd,_,hk⟩:=(hΓ s hs).desc
 obtain ⟨d',hd',_,hk'⟩:=(hΓ t ht).desc
 rw [hks] at hk;rw [hkt] at hk'
 obtain ⟨elem,i,z,rfl,_,_,_,_,_,_,_,hu⟩:=hk
 cases hk'
 have hxr:Ah F ρ (unG (Aj st.env x)) (a.eval x):=Bt rfl _ hgob _ (List.mem_map_of_mem (by rw [hop];simp [Op.operands])) _ (AY hSl x)
 obtain ⟨v,hr,hv⟩:=JfI (P:=P) (objs:=st.objs) hS (λ _ _ h=>h) hd (hu rfl) hd' hel hob hby hxr
 have hr:(execOp a.eval o).run P w=.ok (.value v) w:=by
  simp only [execOp,hop,Jmw,hr,Jmu,Jmx]
 unfold Oper.wp
 rw [hr,Oper.upon_value]
 exact hK _ _ ⟨F,ρ,hS,hSl.putA hn hdst hv,hn.put hdst,by rw [Bu];exact hdf⟩
def nxV (Γ:Cx) (c:Code) (i:Nat) (g:Bool) (z:List UInt8) (s:St):Option St:=
 match (A0 c)[i]? with
 | some o=>bif JgF Γ c o then some ⟨putA o.dst o.guard.isSome g (.d (.str z)) s.env,s.objs⟩ else none
 | none=>none
def cvA (Γ:Cx) (c:Code) (i:Nat) (s:St):Option (AV×Nat):=
 match (A0 c)[i]? with
 | some o=>match o.op with
  | .convert a b x=>match (Γ.ty a).kind,(Γ.ty b).kind with
   | .slice 1 eb [.int .u8 0],.string=>bif (Γ.ty a).ok&&(Γ.ty b).ok then some (unG (Aj s.env x),eb) else none
   | _,_=>none
  | _=>none
 | none=>none
theorem xv {Γ:Cx} {P:Program} {C:Code} {p:List Nat} {Q:Ex->St->Prop} {i:Nat} (hX:XOK P Γ) {g:Bool} (hgt:g=true) {gs:List Bool} (hi:DZ g gs) (k:Nat) {bs:List Int} {z:List UInt8} (hz:Jkl bs=some z) (hk:RF Γ C p (i+1) Q ((nxV Γ (nav p C) i g z s).getD s)) (hg:gY (nav p C) i s=some g:=by kernel_rfl) (hgs:Ej (nav p C) i s=gs:=by kernel_rfl)
  (hc:(cvA Γ (nav p C) i s).map Prod.fst=some (.osl k 1 0 bs.length):=by kernel_rfl) (ho:Jbg s k=some (1,bs.map λ n=>[D.int .u8 n]):=by kernel_rfl) (hn:(nxV Γ (nav p C) i g z s).isSome=true:=by kernel_rfl):RF Γ C p i Q s:=by
 have hn:=BT (d:=s) hn
 generalize (nxV Γ (nav p C) i g z s).getD s=s' at hn hk
 obtain ⟨⟨u,eb⟩,hc,hu⟩:=JmP.1 hc
 cases hu
 unfold cvA at hc
 unfold nxV at hn
 split at hn
 ·rename_i o hoo
  rw [hoo] at hc
  simp only at hc
  obtain ⟨h0,hn⟩:=AQ hn
  cases hn
  split at hc
  ·rename_i a b x hop
   split at hc
   ·rename_i eb' hka hkb
    obtain ⟨h1,hc⟩:=AQ hc
    simp only [JmN] at h1
    simp only [JmX,Prod.mk.injEq] at hc
    obtain ⟨hcx,rfl⟩:=hc
    have hgob:Ed true (o.op.operands.toList.map (Aj s.env)):=by
     subst hgs
     unfold Ej at hi
     rw [hoo] at hi
     rw [← hgt]
     exact Kn hi
    unfold Jkl at hz
    split at hz
    ·rename_i hall
     cases hz
     simp only [Jmz,JmN,decide_eq_true_eq] at hall
     have hby:∀ e∈bs.map λ n=>[D.int .u8 n],QK e:=λ e he=>by
      simp only [JmG] at he
      obtain ⟨n,hn,rfl⟩:=he
      obtain ⟨q1,q2⟩:=hall n hn
      refine ⟨UInt8.ofNat n.toNat,?_⟩
      have:(UInt8.ofNat n.toNat).toNat=n.toNat:=by simp;omega
      rw [this]
      congr 2
      omega
     have hmap:(bs.map λ n=>[D.int .u8 n]).map Mm=bs.map λ n=>UInt8.ofNat n.toNat:=by
      rw [List.map_map];rfl
     have hel:FV s.objs (unG (Aj s.env x))=some (bs.map λ n=>[D.int .u8 n],0+bs.length<=(bs.map λ n=>[D.int .u8 n]).length):=by
      rw [hcx]
      simp only [FV,Jbh ho,Nat.beq_refl,cond_true]
      rw [FM]
     have:=Jbr (P:=P) (Γ:=Γ.ty) (nt:=Γ.nt) (o:=o) (st:=s) hX.ty hop h1.1 h1.2 hka hkb hgob hel (by simp) hby
     rw [hmap] at this
     exact ZC hX hoo h0 hg hgt (Jbq (this.ok (by rw [hop];rfl))) hk
    ·cases hz
   ·cases hc
  ·cases hc
 ·cases hn
end Go.AI
end
section
namespace Go.AI
variable {Γ:Cx} {C:Code} {p:List Nat} {Q:Ex->St->Prop} {s s':St} {K:St->Prop} {i:Nat} {nk:Nat}
variable {α β ζ:Type}
def xX {σ:Type} (nk k:Nat) (st:σ->St):σ->Ex->St->Prop:=λ y e s=>e=Ex.exit k/\AR nk s (st y)
def xR {σ:Type} (ty:Nat->Ty) (fn:Func) (r:σ->AV):σ->Ex->St->Prop:=λ y e s=>e=Ex.ret/\RA ty fn.results.toList (r y) s
def xL {σ:Type} (nk:Nat) (ty:Nat->Ty) (fn:Func) (r:σ->AV) (O:σ->List (Option Ob)):σ->Ex->St->Prop:=λ y e s=>e=Ex.ret/\RL nk ty fn.results.toList (r y) (O y) s
def xS {σ τ:Type} (a:σ->Ex->St->Prop) (b:τ->Ex->St->Prop):σ⊕τ->Ex->St->Prop
 | .inl y=>a y
 | .inr y=>b y
variable {σ ρ τ:Type} {st:σ->St} {E:ρ->Ex->St->Prop}
theorem xo {r:ρ} {k nk':Nat} {st':τ->St} {y:τ} (hE:E r=xX nk' k st' y) (h:AR nk' s (st' y)):PQ (Au nk st E (.inr r)) (.exit k) s:=oe (by rw [hE];exact ⟨rfl,h⟩)
theorem ro {r:ρ} {ty:Nat->Ty} {fn:Func} {f:τ->AV} {y:τ} (hE:E r=xR ty fn f y) (h:RA ty fn.results.toList (f y) s):PQ (Au nk st E (.inr r)) .ret s:=or (by rw [hE];exact ⟨rfl,h⟩)
theorem lo {r:ρ} {nk':Nat} {ty:Nat->Ty} {fn:Func} {f:τ->AV} {O:τ->List (Option Ob)} {y:τ} (hE:E r=xL nk' ty fn f O y) (h:RL nk' ty fn.results.toList (f y) (O y) s):PQ (Au nk st E (.inr r)) .ret s:=or (by rw [hE];exact ⟨rfl,h⟩)
theorem lX {body:σ->Option (σ⊕ρ)} {n:Nat} {x:σ} {r:ρ} {k nk':Nat} {st':τ->St} {y:τ} (hb:∀ x z,body x=some z->WP Γ C (p++[0]) (Au nk' st E z) (st x)) (hr:whl body n x=some r) (hs:AR nk' s (st x)) (hE:E r=xX nk' k st' y)
  (hk:∀ s,AR nk' s (st' y)->PQ Q (.exit k) s) (hn:Γ.nt.nk=nk':=by rfl) (h:RB (nav p C)=true:=by kernel_rfl):WP Γ C p Q s:=by
 subst hn
 exact lp st E hr hs hb (λ e s he=>by rw [hE] at he;obtain ⟨rfl,he⟩:=he;exact hk s he) h
theorem lR {body:σ->Option (σ⊕ρ)} {n:Nat} {x:σ} {r:ρ} {nk':Nat} {ty:Nat->Ty} {fn:Func} {f:τ->AV} {y:τ} (hb:∀ x z,body x=some z->WP Γ C (p++[0]) (Au nk' st E z) (st x)) (hr:whl body n x=some r) (hs:AR nk' s (st x)) (hE:E r=xR ty fn f y)
  (hk:∀ s,RA ty fn.results.toList (f y) s->PQ Q .ret s) (hn:Γ.nt.nk=nk':=by rfl) (h:RB (nav p C)=true:=by kernel_rfl):WP Γ C p Q s:=by
 subst hn
 exact lp st E hr hs hb (λ e s he=>by rw [hE] at he;obtain ⟨rfl,he⟩:=he;exact hk s he) h
theorem lL {body:σ->Option (σ⊕ρ)} {n:Nat} {x:σ} {r:ρ} {nk' nk2:Nat} {ty:Nat->Ty} {fn:Func} {f:τ->AV} {O:τ->List (Option Ob)} {y:τ} (hb:∀ x z,body x=some z->WP Γ C (p++[0]) (Au nk' st E z) (st x)) (hr:whl body n x=some r) (hs:AR nk' s (st x)) (hE:E r=xL nk2 ty fn f O y)
  (hk:∀ s,RL nk2 ty fn.results.toList (f y) (O y) s->PQ Q .ret s) (hn:Γ.nt.nk=nk':=by rfl) (h:RB (nav p C)=true:=by kernel_rfl):WP Γ C p Q s:=by
 subst hn
 exact lp st E hr hs hb (λ e s he=>by rw [hE] at he;obtain ⟨rfl,he⟩:=he;exact hk s he) h
def g0 (c:Code) (i:Nat) (s:St):Bool:=(gAt c i s).getD false
theorem sE {g:Bool} {v:AV} {obs:List Ob} {x:Option Eff} (ho:g=true->FZ s x v obs [] none) (hk:RF Γ C p (i+1) Q ((Nv Γ (nav p C) i g v obs s).getD s)) (hg:gAt (nav p C) i s=some g:=by kernel_rfl) (hx:Oz Γ (nav p C) i s=x:=by kernel_rfl) (hgs:Ej (nav p C) i s=List.replicate (Ej (nav p C) i s).length g:=by kernel_rfl) (hn:(Nv Γ (nav p C) i g v obs s).isSome=true:=by kernel_rfl):RF Γ C p i Q s:=
 sG (gs:=Ej (nav p C) i s) ho (Tz λ b hb=>by rw [hgs] at hb;exact List.eq_of_mem_replicate hb) hk hg hx rfl hn
theorem oi {a z:ζ} (h:some a=some z):a=z:=Option.some.inj h
theorem tr {s1 s2 s3:St} (h:AR nk s1 s2) (h':AR nk s2 s3):AR nk s1 s3:=AR.trans h h'
theorem sg (ts:List Nat) (h:gcA nk ts s=s':=by kernel_rfl):AR nk s s':=Jks ts h
theorem sn (t k sz:Nat) {n m:Nat} (e:n=m) (h:lkA s.env t=.osl k sz 0 n:=by kernel_rfl):AR nk s ⟨(t,.osl k sz 0 m)::s.env,s.objs⟩:=Jgx t k sz 0 n m h e
theorem fz {enc:α->List D} {xs:List α} (t k sz:Nat) (h:Ry s (lkA s.env t)=some (k,sz,0,xs.length,xs.map enc):=by kernel_rfl):AR nk s ⟨(t,.d (.sl (xs.map enc)))::s.env,s.objs.set k none⟩:=Jgw t _ h FM (by simp)
theorem fzc {enc:α->List D} {xs:List α} (kb i k sz:Nat) (h:(V6 s kb,((PR s kb)[i]?).bind (Ry s))=(true,some (k,sz,0,xs.length,xs.map enc)):=by kernel_rfl):AR nk s ⟨s.env,(s.objs.set k none).set kb (some (.box ((PR s kb).set i (.d (.sl (xs.map enc))))))⟩:=Jds kb i _ h FM (by simp)
attribute [irreducible] xL
end Go.AI
end
section
namespace Go.AI
variable {α ε σ ρ ζ ξ:Type}
open Classical in
noncomputable def dem (S:α->Prop) (k:α->Option ζ):Option ζ:=if h:∃ z,(∃ a,S a)/\∀ a,S a->k a=some z then some h.choose else none
theorem Jbs {S:α->Prop} {k:α->Option ζ} {z:ζ} (h:dem S k=some z):∀ a,S a->k a=some z:=by
 unfold dem at h
 split at h
 ·rename_i hx
  cases h
  exact hx.choose_spec.2
 ·cases h
theorem Jbt {S:α->Prop} {k:α->Option ζ} {z:ζ} (h0:∃ a,S a) (h:∀ a,S a->k a=some z):dem S k=some z:=by
 have hx:∃ z,(∃ a,S a)/\∀ a,S a->k a=some z:=⟨z,h0,h⟩
 unfold dem
 rw [dif_pos hx]
 obtain ⟨a,ha⟩:=h0
 have h1:=hx.choose_spec.2 a ha
 rw [h a ha] at h1
 exact h1.symm
def nlS (xs:List α) (b:Bool):Prop:=xs≠[]->b=false
theorem JgI (xs:List α):∃ b,nlS xs b:=⟨false,λ _=>rfl⟩
end Go.AI
end
