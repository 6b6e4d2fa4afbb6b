/- Part 3 of 4 of the proof: lemmas about the model and the program's functions, with no condition beyond those that each states. -/
import Derived.Test.YtfoknlpndaekdaaLB
import Derived.RangeFuncNested
import Derived.Scope
import Derived.Laws.StructEq
import GoSem.Core.View
import GoSem.Op.String
import Derived.KernelRfl
import Derived.RecoverIn
import Derived.TacticsInMore
section
namespace Go.AI
variable {P:Program} {F F':Nat->Option Obj} {ρ ρ':Nat->Option Loc} {N:Nat->Prop} {H0 F0:Nat->Option Obj} {O objs objs':List (Option Ob)} {w:World} {w0:W0}
theorem IH {Γ:Cx} {all:List Oper} {o:Oper} {s s':St} (h:As Γ true all o (λ x=>x=s') s) :
  s.objs.length<=s'.objs.length/\∀ k,k<s.objs.length->¬(isW o.op=true/\k∈A1 s o)->obA s'.objs k=obA s.objs k:=by
 cases hW:isW o.op with
 | false=>
  obtain ⟨obs,ho⟩:=(CX h).2.1 hW
  rw [ho]
  exact ⟨by simp,λ k hk _=>by rw [Al,if_pos hk]⟩
 | true=>
  unfold As at h
  cases hg:AP all s.env o.guard with
  | none=>rw [hg] at h;exact h.elim
  | some g=>
   rw [hg] at h
   simp only at h
   have h:=h
   cases hdst:AZ Γ.nt o.dst with
   | false=>rw [hdst] at h;exact h.elim
   | true=>
    rw [hdst] at h
    simp only [Wy,cond_false] at h
    cases hgv:g with
    | false=>
     obtain ⟨v,obs,hm,hQ⟩:=h.2 hgv
     subst hQ
     exact ⟨by simp,λ k hk _=>by rw [Al,if_pos hk]⟩
    | true=>
     rcases h.1 hgv with h|h|h
     case inr.inr=>exact absurd h.1 (by simp)
     case inr.inl=>
      unfold CQ at h
      split at h
      ·rename_i es hes
       cases hop:o.op with
       | buildSlice=>rw [hop] at hW;cases hW
       | _=>rw [hop] at hes;cases hes
      ·exact h.elim
     unfold stepG at h
     split at h
     ·rename_i f args ts hop;rw [hop] at hW;cases hW
     ·rename_i c x y hop;rw [hop] at hW;cases hW
     ·split at h
      ·rename_i e he
       obtain ⟨h1,h2,h3⟩:=h
       cases hc:((e.upd.isSome&&o.guard.isSome)||(!e.rm.isEmpty&&(o.guard.isSome||(true&&!isW o.op)))) with
       | true=>rw [hc] at h3;exact h3.elim
       | false=>
        rw [hc,cond_false] at h3
        have hf:M6 s.objs (λ x=>unG (Ae s.env x)) o.op e:=by
         rcases NQ hW with hst|⟨args,ts,hop⟩
         ·exact (NP hst he).1
         ·rw [hop] at he ⊢
          exact Hy he
        have hll:(A4 (rmA s.objs e.rm) e.upd).length=s.objs.length:=by rw [Fm,AS]
        subst h3
        refine ⟨by simp only [Cc,List.length_append,hll];omega,λ k hk hn=>?_⟩
        simp only [Cc]
        rw [Al,if_pos (by rw [hll];exact hk),Gp]
        have hnr:k ∉ e.rm:=λ hr=>hn ⟨rfl,by rw [HW hW];exact (hf.rm k hr).1⟩
        cases hu:e.upd with
        | none=>simp only;rw [BY,if_neg hnr]
        | some p=>
         obtain ⟨j,ob1⟩:=p
         simp only
         rw [if_neg (λ h=>?_),BY,if_neg hnr]
         exact hn ⟨rfl,by rw [h.1,HW hW];exact (hf.upd j ob1 hu).1⟩
      ·exact h.elim
structure Ky (ops:Array Oper) (S:Nat->St):Prop where
 back:∀ (j:Nat) oj,ops[j]? = some oj->∀ e∈oj.after.toList,Region.binds .any e=true->e.on<j
 dst:∀ (i j:Nat) oi oj d,ops[i]? = some oi->ops[j]? = some oj->i≠j->oi.dst=some d->oj.dst≠some d
 deps:∀ (i j:Nat) oi oj d,ops[i]? = some oi->ops[j]? = some oj->i<j->oi.dst=some d->d∈Bn ops.toList oj->Region.waitsFor .any ops j i=true
 anti:∀ (i j:Nat) oi oj d,ops[i]? = some oi->ops[j]? = some oj->j<i->oi.dst=some d->d∈Bn ops.toList oj->Region.waitsFor .any ops i j=true
 conf:∀ (i j:Nat) oi oj,ops[i]? = some oi->ops[j]? = some oj->i≠j->isW oj.op=true->(BO oi.op=true\/isW oi.op=true)->DD ops j i\/DD ops i j\/∀ k,k∈A1 (S i) oi->k ∉ A1 (S j) oj
section law
variable {Γ:Cx} {ops:Array Oper} {S:Nat->St}
theorem Gq (ok:Ky ops S) {j i:Nat} (h:DD ops j i):i<j:=by
 induction h with
 | one h1=>
  obtain ⟨o,ho,e,he,hb,hon⟩:=Region.waitsFor_spec h1
  rw [← hon];exact ok.back _ o ho e (by simpa using he) hb
 | step h1 _ ih=>
  obtain ⟨o,ho,e,he,hb,hon⟩:=Region.waitsFor_spec h1
  have:=ok.back _ o ho e (by simpa using he) hb
  omega
def Wr (ops:Array Oper) (S:Nat->St) (i k:Nat):Prop:=∃ o,ops[i]? = some o/\isW o.op=true/\k∈A1 (S i) o/\k<(S i).objs.length
theorem LV (hst:∀ (i:Nat) o,ops[i]? = some o->As Γ true ops.toList o (λ x=>x=S (i+1)) (S i)):∀ d i,i+d<=ops.size->(S i).objs.length<=(S (i+d)).objs.length:=by
 intro d
 induction d with
 | zero=>intro i _;exact Wz _
 | succ d ih=>
  intro i hi
  have h1:=ih i (by omega)
  have ho:=WM (show i+d<ops.size by omega)
  have:=(IH (hst (i+d) _ ho)).1
  rw [← WE];omega
theorem II (hst:∀ (i:Nat) o,ops[i]? = some o->As Γ true ops.toList o (λ x=>x=S (i+1)) (S i)) {i j:Nat} (hij:i<=j) (hj:j<=ops.size):(S i).objs.length<=(S j).objs.length:=by
 have:=LV hst (j-i) i (by omega)
 rwa [show i+(j-i)=j by omega] at this
theorem PP (hst:∀ (i:Nat) o,ops[i]? = some o->As Γ true ops.toList o (λ x=>x=S (i+1)) (S i)) (k:Nat):∀ d i,i+d<=ops.size->k<(S i).objs.length->(∀ m,i<=m->m<i+d->¬Wr ops S m k)->obA (S (i+d)).objs k=obA (S i).objs k:=by
 intro d
 induction d with
 | zero=>intro i _ _ _;rfl
 | succ d ih=>
  intro i hi hk hno
  have ho:=WM (show i+d<ops.size by omega)
  have hkd:k<(S (i+d)).objs.length:=Nat.lt_of_lt_of_le hk (LV hst d i (by omega))
  rw [← WE,(IH (hst (i+d) _ ho)).2 k hkd λ h=>hno (i+d) (by omega) (by omega) ⟨_,ho,h.1,h.2,hkd⟩]
  exact ih i (by omega) hk λ m h1 h2=>hno m h1 (by omega)
theorem Kz (hst:∀ (i:Nat) o,ops[i]? = some o->As Γ true ops.toList o (λ x=>x=S (i+1)) (S i)) {k i j:Nat} (hij:i<=j) (hj:j<=ops.size) (hk:k<(S i).objs.length) (hno:∀ m,i<=m->m<j->¬Wr ops S m k):obA (S j).objs k=obA (S i).objs k:=by
 have:=PP hst k (j-i) i (by omega) hk (λ m h1 h2=>hno m h1 (by omega))
 rwa [show i+(j-i)=j by omega] at this
def DN (S:Nat->St) (k:Nat):Nat->Nat
 | 0=>0
 | n+1=>bif decide (k<(S n).objs.length) then DN S k n else n+1
theorem M7 (k:Nat):∀ n,(∀ i j,i<=j->j<=n->(S i).objs.length<=(S j).objs.length)->k<(S n).objs.length->DN S k n<=n/\k<(S (DN S k n)).objs.length/\∀ m,m<DN S k n->(S m).objs.length<=k:=by
 intro n
 induction n with
 | zero=>intro _ hk;exact ⟨Wz _,hk,λ m hm=>by simp [DN] at hm⟩
 | succ n ih=>
  intro hm hk
  simp only [DN]
  by_cases h:k<(S n).objs.length
  ·rw [decide_eq_true h,cond_true]
   obtain ⟨h1,h2,h3⟩:=ih (λ i j hij hj=>hm i j hij (by omega)) h
   exact ⟨by omega,h2,h3⟩
  ·rw [decide_eq_false h,cond_false]
   refine ⟨Wz _,hk,λ m hmn=>?_⟩
   have:=hm m n (by omega) (by omega)
   omega
structure DJ (N:Nat->Prop) (H0 F0:Nat->Option Obj) (w0:W0) (nt:Slt) (ops:Array Oper) (S:Nat->St) (listed:Array Bool) (a:Act) (w:World):Prop where
 size:listed.size=ops.size
 closed:∀ (j:Nat) oj,ops[j]? = some oj->listed.getD j false=true->∀ e∈oj.after.toList,Region.binds .any e=true->listed.getD e.on false=true
 tsz:TS nt w0.kp a.tmps
 defers:Mu w0.w w
 ex:∃ (F:Nat->Option Obj) (ρ:Nat->Option Loc) (T:List (Option Ob)) (ver:Nat->Nat),(RK w0 nt ρ/\Dfr w0 nt F a.defers)/\Sim N H0 F0 F ρ T w.heap/\T.length=(S ops.size).objs.length /\
  (∀ t,(∀ (i:Nat) o,ops[i]? = some o->o.dst=some t->listed.getD i false=true->Ad F ρ (lkA (S (i+1)).env t) (a.tmps.getD t undef))/\((∀ (i:Nat) o,ops[i]? = some o->o.dst=some t->listed.getD i false=false)->Ad F ρ (lkA (S 0).env t) (a.tmps.getD t undef))) /\
  (∀ k L,ρ k=some L->k<(S 0).objs.length\/∃ i,listed.getD i false=true/\i<ops.size/\(S i).objs.length<=k/\k<(S (i+1)).objs.length) /\
  (∀ k ob,k<T.length->obA (S (ver k)).objs k=some ob->obA T k=some ob) /\
  (∀ i k,listed.getD i false=true->Wr ops S i k->i<ver k) /\
  (∀ i k,listed.getD i false=false->Wr ops S i k->ver k<=i) /\
  (∀ k,k<T.length->k<(S (ver k)).objs.length/\ver k<=ops.size) /\
  (∀ i k ob,i<ops.size->ρ k=none->(S i).objs.length<=k->obA (S (i+1)).objs k=some ob->obA T k=some ob)
theorem EK (hst:∀ (i:Nat) o,ops[i]? = some o->As Γ true ops.toList o (λ x=>x=S (i+1)) (S i)):∀ j,j<=ops.size->∀ t,(∃ i o,i<j/\ops[i]? = some o/\o.dst=some t/\lkA (S j).env t=lkA (S (i+1)).env t)\/((∀ i o,i<j->ops[i]? = some o->o.dst≠some t)/\lkA (S j).env t=lkA (S 0).env t):=by
 intro j
 induction j with
 | zero=>intro _ t;exact .inr ⟨λ i o hi=>by omega,rfl⟩
 | succ j ih=>
  intro hj t
  have hoj:=WM (show j<ops.size by omega)
  obtain ⟨hsh,_⟩:=CX (hst j _ hoj)
  by_cases hd:(ops[j]).dst=some t
  ·exact .inl ⟨j,_,by omega,hoj,hd,rfl⟩
  ·have hlk:lkA (S (j+1)).env t=lkA (S j).env t:=by
    rcases hsh with ⟨_,h⟩|⟨d,x,hdd,h⟩
    ·rw [h]
    ·rw [h,AK,if_neg]
     intro e;subst e;exact hd hdd
   rcases ih (by omega) t with ⟨i,o,h1,h2,h3,h4⟩|⟨h1,h2⟩
   ·exact .inl ⟨i,o,by omega,h2,h3,by rw [hlk,h4]⟩
   ·refine .inr ⟨λ i o hi ho=>?_,by rw [hlk,h2]⟩
    by_cases e:i=j
    ·subst e;rw [hoj] at ho;cases ho;exact hd
    ·exact h1 i o (by omega) ho
theorem KA {ev ev':Operand->AV} {op:Op} (h:∀ x∈op.operands.toList,ev x=ev' x):Cg ev op=Cg ev' op:=by
 unfold Cg
 simp only [List.flatMap]
 congr 1
 exact List.map_congr_left λ x hx=>by rw [h x hx]
theorem KB {ev ev':Operand->AV} {op:Op} (h:∀ x∈op.operands.toList,ev x=ev' x):Et ev op=Et ev' op:=by
 cases op with
 | call c=>
  obtain ⟨callee,args,ts⟩:=c
  cases callee with
  | value f=>
   simp only [Et]
   have:∀ x∈args.toList,ev x=ev' x:=λ x hx=>h x (by simp [Op.operands,Call.operands];exact .inr (by simpa using hx))
   rw [Bool.eq_iff_iff,List.any_eq_true,List.any_eq_true]
   constructor
   ·rintro ⟨x,hx,hp⟩;exact ⟨x,hx,by rw [← this x hx];exact hp⟩
   ·rintro ⟨x,hx,hp⟩;exact ⟨x,hx,by rw [this x hx];exact hp⟩
  | _=>rfl
 | _=>rfl
theorem M8 {s:St} {o:Oper} {ts:List Tmp} (h:∀ t∈Kf o.op,t∈ts):A1 ⟨B7 s.env ts,s.objs⟩ o=A1 s o:=by
 have he:∀ x∈o.op.operands.toList,unG (Ae (B7 s.env ts) x)=unG (Ae s.env x):=λ x hx=>by rw [Is λ t ht=>h t (by subst ht;exact EI hx)]
 unfold A1
 rw [KA he,KB he]
theorem OM (hΓ:CG P Γ) (ok:Ky ops S) (hst:∀ (i:Nat) o,ops[i]? = some o->As Γ true ops.toList o (λ x=>x=S (i+1)) (S i))
  {Qw:Exit->Act->World->Prop} (hQ:∀ a w,Inv N H0 F0 w0 Γ.nt (S ops.size) a w->Qw .normal a w) :
  ∀ (fuel:Nat) (listed:Array Bool) (a:Act) (w:World),DJ N H0 F0 w0 Γ.nt ops S listed a w->unl listed ops.size=fuel->wpAny P .any ops Qw fuel listed a w:=by
 have hall:∀ listed a w,DJ N H0 F0 w0 Γ.nt ops S listed a w->Region.ready .any ops listed=[]->∀ k,k<ops.size->listed.getD k false=true:=by
  intro listed a w hD hr k
  induction k using Nat.strongRecOn with
  | _ k ih=>
   intro hk
   cases hl:listed.getD k false with
   | true=>rfl
   | false=>
    have:k∈Region.ready .any ops listed:=by
     rw [mem_ready]
     refine ⟨getD_in (by rw [hD.size];exact hk) hl,_,WM hk,λ e he hb=>?_⟩
     have hlt:=ok.back k _ (WM hk) e (by simpa using he) hb
     exact ih e.on hlt (by omega)
    rw [hr] at this
    cases this
 have hfin:∀ listed a w,DJ N H0 F0 w0 Γ.nt ops S listed a w->(∀ k,k<ops.size->listed.getD k false=true)->Qw .normal a w:=by
  intro listed a w hD hl
  obtain ⟨F,ρ,T,ver,hrk,hS,hTl,hsl,hdom,hv0,hv1,hv2,hv3,hv4⟩:=hD.ex
  refine hQ a w ⟨F,ρ,?_,λ t=>?_,hD.tsz,hrk.2,hD.defers,hrk.1⟩
  ·refine hS.table (Nat.le_of_eq hTl) λ k L ob hk ho=>?_
   have hkl:=Aq ho
   obtain ⟨q1,q2⟩:=hv3 k (by omega)
   rw [Kz hst q2 (Wz _) q1 λ m h1 h2 hw=>?_] at ho
   ·exact hv0 k ob (by omega) ho
   ·have:=hv1 m k (hl m h2) hw;omega
  ·rcases EK hst ops.size (Wz _) t with ⟨i,o,h1,h2,h3,h4⟩|⟨h1,h2⟩
   ·rw [h4];exact (hsl t).1 i o h2 h3 (hl i h1)
   ·rw [h2]
    refine (hsl t).2 λ i o ho hd=>?_
    exact absurd hd (h1 i o (Af ho) ho)
 intro fuel
 induction fuel with
 | zero=>
  intro listed a w hD hu
  have hl:=Ix ops.size hu
  refine ⟨?_,hfin listed a w hD hl⟩
  rw [List.eq_nil_iff_forall_not_mem]
  intro k hk
  obtain ⟨h1,o,ho,_⟩:=mem_ready.1 hk
  have:=hl k (Af ho)
  rw [getD_both h1] at this
  cases this
 | succ fuel ih=>
  intro listed a w hD hu
  refine ⟨λ hr=>hfin listed a w hD (hall listed a w hD hr),λ i hi=>?_⟩
  obtain ⟨hun,o,ho,hedges⟩:=mem_ready.1 hi
  have hui:=getD_both hun
  have hio:=Af ho
  have hidx:i<listed.size:=by rw [hD.size];exact hio
  obtain ⟨F,ρ,T,ver,hrk,hS,hTl,hsl,hdom,hv0,hv1,hv2,hv3,hv4⟩:=hD.ex
  have hdirect:∀ k,Region.waitsFor .any ops i k=true->listed.getD k false=true:=λ k hk=>by
   obtain ⟨o',ho',e,he,hb,hon⟩:=Region.waitsFor_spec hk
   rw [ho] at ho';cases ho'
   rw [← hon];exact hedges e he hb
  have hbehind:∀ m,DD ops m i->listed.getD m false=false:=λ m hm=>by
   cases hl:listed.getD m false with
   | false=>rfl
   | true=>
    have:=Bc hD.closed hm λ k hk=>by
     obtain ⟨o',ho',e,he,hb,hon⟩:=Region.waitsFor_spec hk
     rw [← hon]
     exact hD.closed m o' ho' hl e (by simpa using he) hb
    rw [hui] at this;cases this
  have hrs:RS F ρ (S i).env a.tmps (Bn ops.toList o):=by
   intro t ht
   rcases EK hst i (by omega) t with ⟨k,ok',h1,h2,h3,h4⟩|⟨h1,h2⟩
   ·rw [h4]
    exact (hsl t).1 k ok' h2 h3 (hdirect k (ok.deps k i ok' o t h2 ho h1 h3 ht))
   ·rw [h2]
    refine (hsl t).2 λ k ok' hk hd=>?_
    rcases Nat.lt_trichotomy k i with hlt|heq|hgt
    ·exact absurd hd (h1 k ok' hlt hk)
    ·rw [heq];exact hui
    ·exact hbehind k (.one (ok.anti k i ok' o t hk ho hgt hd ht))
  have hstep:=hst i o ho
  have hdst:=LM hstep
  obtain ⟨s',⟨s'',rfl,hobj',henv'⟩,hstep'⟩:=Iw (Iu rfl (ts:=Bn ops.toList o) (λ t h=>h) hstep)
  have hlk':∀ d,o.dst=some d->lkA s'.env d=lkA (S (i+1)).env d:=λ d hd=>by
   rcases henv' with ⟨h,_⟩|⟨d',x,h1,h2,h3⟩
   ·rw [h] at hd;cases hd
   ·rw [h1] at hd;cases hd
    rw [h2,h3,AK,AK,if_pos rfl,if_pos rfl]
  have hSl:A3 F ρ (B7 (S i).env (Bn ops.toList o)) a.tmps:=A3.ofRS hrs
  have hrefs:A1 ⟨B7 (S i).env (Bn ops.toList o),(S i).objs⟩ o=A1 (S i) o:=M8 λ t ht=>List.mem_append_left _ ht
  have hleni:(S i).objs.length<=(S (i+1)).objs.length:=(IH hstep).1
  have hlenN:(S (i+1)).objs.length<=T.length:=by rw [hTl];exact II hst (by omega) (Wz _)
  have key:(BO o.op=true\/isW o.op=true)->Ext (S i).objs T (A1 (S i) o):=by
   intro hmw k hk ob hob
   have hkl:=Aq hob
   obtain ⟨q1,q2⟩:=hv3 k (by omega)
   refine hv0 k ob (by omega) ?_
   rcases Nat.le_total (ver k) i with hle|hle
   ·rw [← Kz hst hle (by omega) q1 λ m h1 h2 hw=>?_]
    ·exact hob
    ·obtain ⟨om,hom,hW,hmk,_⟩:=hw
     rcases ok.conf i m o om ho hom (by omega) hW hmw with h|h|h
     ·have:=Gq ok h;omega
     ·have:=hv1 m k (Bc hD.closed h hdirect) ⟨om,hom,hW,hmk,by assumption⟩
      omega
     ·exact h k hk hmk
   ·rw [Kz hst hle q2 hkl λ m h1 h2 hw=>?_]
    ·exact hob
    ·obtain ⟨om,hom,hW,hmk,hmL⟩:=hw
     by_cases hmi:m=i
     ·subst hmi
      have:=hv2 m k hui ⟨om,hom,hW,hmk,hmL⟩
      omega
     ·rcases ok.conf i m o om ho hom (λ e=>hmi e.symm) hW hmw with h|h|h
      ·have:=hv2 m k (hbehind m h) ⟨om,hom,hW,hmk,hmL⟩
       omega
      ·have:=Gq ok h;omega
      ·exact h k hk hmk
  have hfresh:∀ k,(S i).objs.length<=k->k<(S (i+1)).objs.length->ρ k=none:=λ k h1 h2=>by
   cases hρ:ρ k with
   | none=>rfl
   | some L=>
    rcases hdom k L hρ with h|⟨i',g1,g2,g3,g4⟩
    ·have:=II hst (Nat.zero_le i) (by omega);omega
    ·rcases Nat.lt_trichotomy i' i with hlt|heq'|hgt
     ·have:=II hst (show i'+1<=i by omega) (by omega);omega
     ·rw [heq',hui] at g1;cases g1
     ·have:=II hst (show i+1<=i' by omega) (by omega);omega
  have hne:∀ k,k≠i->(listed.setIfInBounds i true).getD k false=listed.getD k false:=λ k hk=>by
   rw [WN,WN,WB (Ne.symm hk)]
  have heq:(listed.setIfInBounds i true).getD i false=true:=by simp [hidx]
  have next:∀ (v:Value) (w':World) (F':Nat->Option Obj) (ρ':Nat->Option Loc) (T':List (Option Ob)) (ver':Nat->Nat),FLe F F'->RLe ρ ρ'->(∀ k,¬((S i).objs.length<=k/\k<(S (i+1)).objs.length)->ρ' k=ρ k)->Sim N H0 F0 F' ρ' T' w'.heap->T'.length=T.length->(∀ d,o.dst=some d->Ad F' ρ' (lkA s'.env d) v)->Mu w w' ->
    (∀ k ob,k<T.length->obA (S (ver' k)).objs k=some ob->obA T' k=some ob)->(∀ m k,(listed.setIfInBounds i true).getD m false=true->Wr ops S m k->m<ver' k)->(∀ m k,(listed.setIfInBounds i true).getD m false=false->Wr ops S m k->ver' k<=m)->(∀ k,k<T.length->k<(S (ver' k)).objs.length/\ver' k<=ops.size)->(∀ k,ρ k=none->obA T' k=obA T k) ->
    wpAny P .any ops Qw fuel (listed.setIfInBounds i true) (a.put o.dst v) w':=by
   intro v w' F' ρ' T' ver' hF hρ hkeep hS' hTl' hv hmu u0 u1 u2 u3 u4
   refine ih _ _ _ { size:=by simpa using hD.size,closed:=λ j oj hj hl e he hb=>?_,tsz:=hD.tsz.put hdst,defers:=hD.defers.trans hmu,ex:=⟨F',ρ',T',ver',⟨hrk.1.mono hρ,by rw [AC];exact hrk.2.mono hF⟩,hS',by rw [hTl',hTl],λ t=>?_,λ k L hk=>?_,by rw [hTl'];exact u0,u1,u2,by rw [hTl'];exact u3,λ m k ob hm hk h1 h2=>?_⟩ } (by have:=Kt hidx hui ops.size hio;omega)
   ·by_cases hji:j=i
    ·subst hji
     rw [ho] at hj;cases hj
     have:=hedges e (by simpa using he) hb
     by_cases hee:e.on=j
     ·rw [hee];exact heq
     ·rw [hne _ hee];exact this
    ·rw [hne j hji] at hl
     have:=hD.closed j oj hj hl e he hb
     by_cases hee:e.on=i
     ·rw [hee];exact heq
     ·rw [hne _ hee];exact this
   ·by_cases hdt:o.dst=some t
    ·have hval:(a.put o.dst v).tmps.getD t undef=v:=by
      rw [hdt]
      have:t<a.tmps.size:=by rw [hdt] at hdst;exact hD.tsz.lt hdst
      simp [Act.put,this]
     rw [hval]
     refine ⟨λ k ok' hk hd _=>?_,λ hno=>?_⟩
     ·by_cases hki:k=i
      ·subst hki
       rw [← hlk' t hdt];exact hv t hdt
      ·exact absurd hd (ok.dst i k o ok' t ho hk (Ne.symm hki) hdt)
     ·have:=hno i o ho hdt
      rw [heq] at this;cases this
    ·have hval:(a.put o.dst v).tmps.getD t undef=a.tmps.getD t undef:=by
      cases hdd:o.dst with
      | none=>rfl
      | some d=>
       have hdne:d≠t:=λ e=>hdt (by rw [hdd,e])
       rw [WN,WN]
       simp only [Act.put]
       rw [WB hdne]
     rw [hval]
     refine ⟨λ k ok' hk hd hl=>?_,λ hno=>?_⟩
     ·have hki:k≠i:=λ e=>by subst e;rw [ho] at hk;cases hk;exact hdt hd
      rw [hne k hki] at hl
      exact ((hsl t).1 k ok' hk hd hl).mono hF hρ
     ·refine ((hsl t).2 λ k ok' hk hd=>?_).mono hF hρ
      have hki:k≠i:=λ e=>by subst e;rw [ho] at hk;cases hk;exact hdt hd
      have:=hno k ok' hk hd
      rwa [hne k hki] at this
   ·by_cases hr:(S i).objs.length<=k/\k<(S (i+1)).objs.length
    ·exact .inr ⟨i,heq,hio,hr.1,hr.2⟩
    ·rw [hkeep k hr] at hk
     rcases hdom k L hk with h|⟨i',g1,g2⟩
     ·exact .inl h
     ·refine .inr ⟨i',?_,g2⟩
      by_cases hii:i'=i
      ·rw [hii];exact heq
      ·rw [hne i' hii];exact g1
   ·have hk0:ρ k=none:=by
     cases hr:ρ k with
     | none=>rfl
     | some L=>rw [hρ k L hr] at hk;cases hk
    rw [u4 k hk0]
    exact hv4 m k ob hm hk0 h1 h2
  unfold wpOp
  rw [ho]
  simp only
  have wrap:∀ {A B C:Prop} {c:Bool},(if c=true then A else B)->(if c=true then A\/C else B):=λ {A B C c} h=>by
   cases c with
   | true=>rw [if_pos rfl] at h ⊢;exact .inl h
   | false=>rw [if_neg (by simp)] at h ⊢;exact h
  refine wrap ?_
  cases hW:isW o.op with
  | true=>
   have hkey:=key (.inr hW)
   refine RW hΓ hW hstep' hS hSl (by rw [hrefs];exact hkey) (λ k h1 h2=>hfresh k h1 (by rw [← hobj'] at h2;exact h2)) (by rw [← hobj'];exact hlenN) (λ k ob h1 h2=>by
    rw [← hobj'] at h2
    exact hv4 i k ob hio (hfresh k h1 (Aq h2)) h1 h2) λ v w' F' ρ' T2 hF hρ hkeep hS' hT2l t2 t3 t4 hv hmu=>?_
   rw [hrefs,← hobj'] at t2
   rw [hrefs] at t3
   rw [← hobj'] at t4 hkeep
   have hwr:∀ k,Wr ops S i k↔k∈A1 (S i) o/\k<(S i).objs.length:=λ k=>⟨λ ⟨o',h1,_,h3,h4⟩=>by rw [ho] at h1;cases h1;exact ⟨h3,h4⟩,λ h=>⟨o,ho,hW,h.1,h.2⟩⟩
   have dec:∀ k,Decidable (Wr ops S i k):=λ k=>decidable_of_iff _ (hwr k).symm
   let T':=mkT T.length λ k=>bif (ρ k).isSome then obA T2 k else obA T k
   have hT'n:∀ k,ρ k=none->obA T' k=obA T k:=λ k hk=>by
    simp only [T',FH,hk,Option.isSome_none,cond_false]
    split
    ·rfl
    ·rename_i hl
     cases hx:obA T k with
     | none=>rfl
     | some ob=>exact absurd (Aq hx) hl
   have hT's:∀ k L,ρ k=some L->obA T' k=obA T2 k:=λ k L hk=>by
    simp only [T',FH,hk,Option.isSome_some,cond_true]
    split
    ·rfl
    ·rename_i hl
     cases hx:obA T2 k with
     | none=>rfl
     | some ob=>exact absurd (Aq hx) (by omega)
   refine next v w' F' ρ' T' (λ k=>if Wr ops S i k then i+1 else ver k) hF hρ hkeep (hS'.table (by simp only [T',Cy];omega) λ k L ob hk hob=>?_) (by simp only [T',Cy]) hv hmu (λ k ob hk hob=>?_) (λ m k hm hw=>?_) (λ m k hm hw=>?_) (λ k hk=>?_) hT'n
   ·cases hr:ρ k with
    | some L'=>rw [hT's k L' hr] at hob;exact hob
    | none=>
     rw [hT'n k hr] at hob
     rw [t3 k λ hh=>?_]
     ·exact hob
     ·by_cases hc:(S i).objs.length<=k/\k<(S (i+1)).objs.length
      ·have:=hh.2;simp only at this;omega
      ·rw [hkeep k hc,hr] at hk;cases hk
   ·by_cases hw:Wr ops S i k
    ·simp only [if_pos hw] at hob
     obtain ⟨c1,c2⟩:=(hwr k).1 hw
     cases hr:ρ k with
     | some L'=>rw [hT's k L' hr];exact t2 k ob c2 c1 hob
     | none=>rw [hT'n k hr];exact hkey k c1 ob (t4 k ob hr c2 hob)
    ·simp only [if_neg hw] at hob
     have:=hv0 k ob hk hob
     cases hr:ρ k with
     | some L'=>rw [hT's k L' hr,t3 k λ hh=>hw ((hwr k).2 hh)];exact this
     | none=>rw [hT'n k hr];exact this
   ·by_cases hmi:m=i
    ·subst hmi
     simp only [if_pos hw];omega
    ·rw [hne m hmi] at hm
     by_cases hwi:Wr ops S i k
     ·simp only [if_pos hwi]
      obtain ⟨om,hom,hWm,hmk,_⟩:=hw
      obtain ⟨c1,c2⟩:=(hwr k).1 hwi
      rcases ok.conf i m o om ho hom (λ e=>hmi e.symm) hWm (.inr hW) with h|h|h
      ·rw [hbehind m h] at hm;cases hm
      ·have:=Gq ok h;omega
      ·exact absurd hmk (h k c1)
     ·simp only [if_neg hwi];exact hv1 m k hm hw
   ·have hmi:m≠i:=λ e=>by rw [e,heq] at hm;cases hm
    rw [hne m hmi] at hm
    by_cases hwi:Wr ops S i k
    ·simp only [if_pos hwi]
     obtain ⟨om,hom,hWm,hmk,_⟩:=hw
     obtain ⟨c1,c2⟩:=(hwr k).1 hwi
     rcases ok.conf i m o om ho hom (λ e=>hmi e.symm) hWm (.inr hW) with h|h|h
     ·have:=Gq ok h;omega
     ·have:=Bc hD.closed h hdirect
      rw [hm] at this;cases this
     ·exact absurd hmk (h k c1)
    ·simp only [if_neg hwi];exact hv2 m k hm hw
   ·by_cases hwi:Wr ops S i k
    ·simp only [if_pos hwi]
     have:=(hwr k).1 hwi
     exact ⟨by omega,by omega⟩
    ·simp only [if_neg hwi];exact hv3 k hk
  | false=>
   obtain ⟨new,hn1,hcut⟩:=OL hW hstep'
   rw [hrefs] at hcut
   have hcl:(EJ (A1 (S i) o) (S i).objs).length=(S i).objs.length:=Dc _ _
   have hlen2:(EJ (A1 (S i) o) (S i).objs++new).length=(S (i+1)).objs.length:=by rw [hobj',hn1,List.length_append,List.length_append,hcl]
   refine LI hΓ hW hcut hS hSl (λ hm=>?_) λ v w' F' ρ' hF hρ hkeep hS' hv hmu=>?_
   ·simp only [hcl,hlen2]
    refine ⟨λ k ob hk=>?_,hfresh,hlenN⟩
    rw [Al,hcl] at hk
    by_cases hkl:k<(S i).objs.length
    ·rw [if_pos hkl,Kw] at hk
     split at hk
     ·rename_i hmem;exact key (.inl hm) k hmem ob hk
     ·cases hk
    ·rw [if_neg hkl] at hk
     have hob:obA (S (i+1)).objs k=some ob:=by rw [hobj',hn1,Al,if_neg hkl];exact hk
     exact hv4 i k ob hio (hfresh k (by omega) (Aq hob)) (by omega) hob
   ·simp only [hcl,hlen2] at hkeep
    have hno:∀ k,¬Wr ops S i k:=λ k ⟨o',h1,h2,_⟩=>by rw [ho] at h1;cases h1;rw [hW] at h2;cases h2
    refine next v w' F' ρ' T ver hF hρ hkeep hS' rfl hv hmu hv0 (λ m k hm hw=>?_) (λ m k hm hw=>?_) hv3 (λ _ _=>rfl)
    ·have hmi:m≠i:=λ e=>hno k (by rw [← e];exact hw)
     rw [hne m hmi] at hm;exact hv1 m k hm hw
    ·have hmi:m≠i:=λ e=>hno k (by rw [← e];exact hw)
     rw [hne m hmi] at hm;exact hv2 m k hm hw
end law
theorem PR {Γ:Cx} {ops:Array Oper} {S:Nat->St} (hst:∀ (i:Nat) o,ops[i]? = some o->As Γ true ops.toList o (λ x=>x=S (i+1)) (S i)) (hd:∀ (i j:Nat) oi oj d,ops[i]? = some oi->ops[j]? = some oj->i≠j->oi.dst=some d->oj.dst≠some d) {i:Nat} (hi:i<=ops.size) (x:Operand) :
  H7 ops.toList (S 0).env (S ops.size).env i x=Ae (S i).env x:=by
 cases x with
 | tmp t=>
  simp only [H7,Ae]
  cases hany:(ops.toList.take i).any (λ o=>match o.dst with|some d=>Nat.beq d t|none=>false) with
  | true=>
   rw [cond_true]
   rw [List.any_eq_true] at hany
   obtain ⟨o,ho,hot⟩:=hany
   obtain ⟨j,hj⟩:=List.getElem?_of_mem ho
   have hji:j<i:=by have:=Ac hj;simp at this;omega
   rw [WY hji] at hj
   have hoj:ops[j]? = some o:=by simpa using hj
   have hdt:o.dst=some t:=by
    cases hdo:o.dst with
    | none=>rw [hdo] at hot;cases hot
    | some d=>rw [hdo] at hot;rw [WO hot]
   have one:∀ n,j<n->n<=ops.size->lkA (S n).env t=lkA (S (j+1)).env t:=λ n h1 h2=>by
    rcases EK hst n h2 t with ⟨k,ok',q1,q2,q3,q4⟩|⟨q1,_⟩
    ·by_cases hkj:k=j
     ·rw [q4,hkj]
     ·exact absurd q3 (hd j k o ok' t hoj q2 (Ne.symm hkj) hdt)
    ·exact absurd hdt (q1 j o h1 hoj)
   rw [one i hji hi,one ops.size (by omega) (Wz _)]
  | false=>
   rw [cond_false]
   rcases EK hst i hi t with ⟨k,ok',q1,q2,q3,q4⟩|⟨_,q2⟩
   ·exfalso
    rw [List.any_eq_false] at hany
    refine hany ok' ?_ ?_
    ·apply WJ (i:=k)
     rw [WY q1]
     simpa using q2
    ·simp [q3]
   ·rw [q2]
 | _=>rfl
theorem LW {Γ:Cx} (hΓ:CG P Γ) {ops:Array Oper} {Q:St->Prop} {st:St} {a:Act} (hB:Hk ops=false) (h:D2 Γ true ops.toList ops.toList (λ s=>H8 true ops st.env s.env=true/\Q s) st) (hI:Inv N H0 F0 w0 Γ.nt st a w)
  {Qw:Exit->Act->World->Prop} (hQ:∀ st' a' w',Q st'->Inv N H0 F0 w0 Γ.nt st' a' w'->Qw .normal a' w'):wpAny P .any ops Qw ops.size (Array.replicate ops.size false) a { w with drawn:=w.drawn+1 }:=by
 obtain ⟨S,h0,hst,hC,hQS⟩:=DC _ _ _ h
 have hst:∀ (i:Nat) o,ops[i]? = some o->As Γ true ops.toList o (λ x=>x=S (i+1)) (S i):=λ i o hi=>hst i o (by simpa using hi)
 simp only [Array.length_toList] at hC hQS
 replace hC:K9 ops st.env (S ops.size).env=true:=by have:=(La hC).1;rwa [hB,Bool.false_or] at this
 rw [← h0] at hC hI
 have hz:∀ (j:Nat) oj,ops[j]? = some oj->(oj,j)∈ops.toList.zipIdx:=λ j oj hj=>by
  rw [List.mem_zipIdx_iff_getElem?]
  simpa using hj
 have h1:∀ (j:Nat) oj,ops[j]? = some oj->(∀ e∈oj.after.toList,Region.binds .any e=true->e.on<j)/\∀ (i:Nat) oi,ops[i]? = some oi->JM ops (S 0).env (S ops.size).env (Region.before ops) i j oi oj=true:=by
  intro j oj hj
  unfold K9 at hC
  have:=Wv.1 hC _ (hz j oj hj)
  simp only [WI] at this
  refine ⟨λ e he hb=>?_,λ i oi hi=>Wv.1 this.2 _ (hz i oi hi)⟩
  have:=Array.all_eq_true'.1 this.1 e (by simpa using he)
  simpa [hb] using this
 have hdst:∀ (i j:Nat) oi oj d,ops[i]? = some oi->ops[j]? = some oj->i≠j->oi.dst=some d->oj.dst≠some d:=λ i j oi oj d hi hj hne hd=>by
  have:=(h1 j oj hj).2 i oi hi
  simp only [JM,hd,WX,beq_iff_eq,hne,false_or,WI,bne_iff_ne] at this
  exact this.1.1
 have hrefs:∀ (i:Nat) o,ops[i]? = some o->MD ops.toList (S 0).env (S ops.size).env i o=false->Kg ops.toList (S 0).env (S ops.size).env i o=A1 (S i) o:=λ i o hi hd=>by
  unfold Kg A1
  unfold MD at hd
  simp only [PR hst hdst (Nat.le_of_lt (Af hi))] at hd ⊢
  rw [hd];rfl
 have ok:Ky ops S:=by
  refine { back:=λ j oj hj=>(h1 j oj hj).1,dst:=hdst,deps:=λ i j oi oj d hi hj hlt hd hr=>?_,anti:=λ i j oi oj d hi hj hlt hd hr=>?_,conf:=λ i j oi oj hi hj hne hW hm=>?_ }
  ·have:=(h1 j oj hj).2 i oi hi
   simp only [JM,hd,WX,beq_iff_eq,show i≠j by omega,false_or,WI] at this
   have:=this.1.2
   simpa [hr,hlt] using this
  ·have:=(h1 j oj hj).2 i oi hi
   simp only [JM,hd,WX,beq_iff_eq,show i≠j by omega,false_or,WI] at this
   have:=this.1.2
   simpa [hr,show ¬ i<j by omega] using this
  ·have:=(h1 j oj hj).2 i oi hi
   have hmm:(BO oi.op||isW oi.op)=true:=by simpa using hm
   simp only [JM,WX,beq_iff_eq,hne,false_or,WI,hW,hmm,Wy,WS] at this
   rcases this.2 with (h|h)|h
   ·exact .inl (BB ops j i h)
   ·exact .inr (.inl (BB ops i j h))
   ·refine .inr (.inr λ k hk hk'=>?_)
    simp only [Bool.not_eq_true'] at h
    obtain ⟨hdi,h⟩:=h
    rw [hrefs i oi hi hdi,hrefs j oj hj (JY hW)] at h
    have:=Wv.1 h k hk
    rw [List.contains_iff_mem.2 hk'] at this
    cases this
 obtain ⟨F,ρ,hS,hSl,hn,hd⟩:=hI
 have hz:∀ k,(Array.replicate ops.size false).getD k false=false:=λ k=>getD_replicate_false _ _
 have hmono:∀ i j,i<=j->j<=ops.size->(S i).objs.length<=(S j).objs.length:=λ i j h h'=>II hst h h'
 have hb:=λ k (hk:k<(S ops.size).objs.length)=>M7 (S:=S) k ops.size hmono hk
 have h0n:=hmono 0 ops.size (Nat.zero_le _) (Wz _)
 refine OM (S:=S) hΓ ok hst (λ a' w' hI'=>hQ _ _ _ hQS hI') ops.size _ a _ ?_ ?_
 ·refine { size:=by simp,closed:=(λ j oj _ hl=>by rw [hz] at hl;cases hl),tsz:=hn,defers:=hd.2.1.draw,ex:=⟨F,ρ,mkT (S ops.size).objs.length (λ k=>obA (S (DN S k ops.size)).objs k),λ k=>DN S k ops.size,⟨hd.2.2,hd.1⟩,hS.table (by rw [Cy];exact h0n) λ k L ob hk ho=>?_,Cy _ _,λ t=>⟨(λ i o _ _ hl=>by rw [hz] at hl;cases hl),λ _=>hSl t⟩,λ k L hk=>.inl (hS.dom k L hk),λ k ob hk ho=>?_,λ i k hl=>by (rw [hz] at hl;cases hl),λ i k _ hw=>?_,λ k hk=>?_,λ i k ob hi _ hk ho=>?_⟩ }
  ·have hk0:=hS.dom k L hk
   obtain ⟨q1,q2,q3⟩:=hb k (by omega)
   have:DN S k ops.size=0:=by
    cases hbk:DN S k ops.size with
    | zero=>rfl
    | succ m=>have:=q3 0 (by omega);omega
   rw [FH,if_pos (by omega),this] at ho
   exact ho
  ·rw [Cy] at hk
   rw [FH,if_pos hk];exact ho
  ·obtain ⟨o,ho,_,_,hkl⟩:=hw
   have hil:=Af ho
   have:=hmono i ops.size (by omega) (Wz _)
   obtain ⟨q1,q2,q3⟩:=hb k (by omega)
   rcases WA i (DN S k ops.size) with h|h
   ·have:=q3 i h;omega
   ·exact h
  ·rw [Cy] at hk
   obtain ⟨q1,q2,q3⟩:=hb k hk
   exact ⟨q2,q1⟩
  ·have hkl:=Aq ho
   have:=hmono (i+1) ops.size (by omega) (Wz _)
   obtain ⟨q1,q2,q3⟩:=hb k (by omega)
   have hbi:DN S k ops.size=i+1:=by
    rcases Nat.lt_trichotomy (DN S k ops.size) (i+1) with h|h|h
    ·have:=hmono (DN S k ops.size) i (by omega) (by omega);omega
    ·exact h
    ·have:=q3 (i+1) h;omega
   rw [FH,if_pos (by omega),hbi];exact ho
 ·have:∀ n,unl (Array.replicate ops.size false) n=n:=by
   intro n
   induction n with
   | zero=>rfl
   | succ n ih=>simp only [unl,ih,hz];rfl
  exact this _
end Go.AI
end
section
namespace Go.AI
variable {P:Program} {F F':Nat->Option Obj} {ρ ρ':Nat->Option Loc} {N:Nat->Prop} {H0 F0:Nat->Option Obj} {O objs:List (Option Ob)} {w:World} {w0:W0}
def exM:Ex->Exit
 | .normal=>.normal
 | .exit i=>.exit i
 | .ret=>.ret
def Hz (N:Nat->Prop) (H0 F0:Nat->Option Obj) (w0:W0) (nt:Slt) (Q:Ex->St->Prop):Exit->Act->World->Prop:=λ e a w=>∃ e' st',e=exM e'/\Q e' st'/\Inv N H0 F0 w0 nt st' a w
theorem PS {xs:List AV} {vs:Array Value} {nb:Nat} {r:AV} {O1:List (Option Ob)} {X:Array Value->(Ending->World->Prop)->Prop} (hX:∀ vs R R',X vs R->(∀ e w',R e w'->R' e w')->X vs R') (hS:Sim N H0 F0 F ρ O w.heap) (hxs:CR F ρ xs vs.toList)
  (hcall:∀ (N:Nat->Prop) (F:Nat->Option Obj) (ρ':Nat->Option Loc),ρ'=gcR (Ah O xs) ρ->Sim N (λ b=>w.heap[b]?) F F ρ' (BP O (Ah O xs)) w.heap->CR F ρ' (xs.map (C7 (Ah O xs))) vs.toList ->
   X vs λ e w'=>∃ v F' ρ'',e=.returned v/\Sim N (λ b=>w.heap[b]?) F F' ρ'' O1 w'.heap/\(∀ j,j<nb->∀ L,ρ' j=some L->ρ'' j=some L)/\Ad F' ρ'' r v/\Mu w w')
  (hnb:nb<=(Ah O xs).length) (hnb1:nb<=O1.length) (hord:∀ k∈Ah O xs,k<O.length) {R:Ending->World->Prop}
  (hk:∀ v w' F' ρ'',FLe F F'->RLe ρ ρ''->Sim N H0 F0 F' ρ'' (Bg O (Ah O xs) nb O1) w'.heap->Ad F' ρ'' (E8 (BQ (Ah O xs) O.length nb) r) v->Mu w w'->R (.returned v) w'):X vs R:=by
 generalize hordd:Ah O xs=ord at *
 have hnd:ord.Nodup:=by rw [← hordd];exact Dq _ _
 obtain ⟨σ,hσ⟩:=hS.inn
 have hL:=hS.lend hσ hnd
 have hcr:CR F (gcR ord ρ) (xs.map (C7 ord)) vs.toList:=by
  refine ⟨by simpa using hxs.1,λ i x v hx hv=>?_⟩
  simp only [WL,WK] at hx
  obtain ⟨z,hz,rfl⟩:=hx
  exact EF (hxs.2 i z v hz hv)
 refine hX _ _ _ (hcall _ F (gcR ord ρ) rfl hL hcr) λ e w' he=>?_
 obtain ⟨v,F1,ρ1,rfl,hS1,hkeep,hr1,hmu⟩:=he
 obtain ⟨g1,g2,g3⟩:=hS.back hσ hnd hord hS1 hmu.size hnb hnb1 hkeep
 exact hk v w' F1 _ hS1.f0 g1 g3 (EE g2 hr1) hmu
theorem ON {xs:List AV} {vs:Array Value} {nb:Nat} {R:AV->List (Option Ob)->Prop} {X:Array Value->(Ending->World->Prop)->Prop} (hX:∀ vs R R',X vs R->(∀ e w',R e w'->R' e w')->X vs R') (hS:Sim N H0 F0 F ρ O w.heap) (hxs:CR F ρ xs vs.toList)
  (hcall:∀ (N:Nat->Prop) (F:Nat->Option Obj) (ρ':Nat->Option Loc),ρ'=gcR (Ah O xs) ρ->Sim N (λ b=>w.heap[b]?) F F ρ' (BP O (Ah O xs)) w.heap->CR F ρ' (xs.map (C7 (Ah O xs))) vs.toList ->
   X vs λ e w'=>∃ v F' ρ'' r O1,R r O1/\e=.returned v/\Sim N (λ b=>w.heap[b]?) F F' ρ'' O1 w'.heap/\(∀ j,j<nb->∀ L,ρ' j=some L->ρ'' j=some L)/\Ad F' ρ'' r v/\Mu w w')
  (hnb:nb<=(Ah O xs).length) (hnb1:∀ r O1,R r O1->nb<=O1.length) (hord:∀ k∈Ah O xs,k<O.length) {R':Ending->World->Prop}
  (hk:∀ r O1,R r O1->∀ v w' F' ρ'',FLe F F'->RLe ρ ρ''->Sim N H0 F0 F' ρ'' (Bg O (Ah O xs) nb O1) w'.heap->Ad F' ρ'' (E8 (BQ (Ah O xs) O.length nb) r) v->Mu w w'->R' (.returned v) w'):X vs R':=by
 generalize hordd:Ah O xs=ord at *
 have hnd:ord.Nodup:=by rw [← hordd];exact Dq _ _
 obtain ⟨σ,hσ⟩:=hS.inn
 have hL:=hS.lend hσ hnd
 have hcr:CR F (gcR ord ρ) (xs.map (C7 ord)) vs.toList:=by
  refine ⟨by simpa using hxs.1,λ i x v hx hv=>?_⟩
  simp only [WL,WK] at hx
  obtain ⟨z,hz,rfl⟩:=hx
  exact EF (hxs.2 i z v hz hv)
 refine hX _ _ _ (hcall _ F (gcR ord ρ) rfl hL hcr) λ e w' he=>?_
 obtain ⟨v,F1,ρ1,r,O1,hR,rfl,hS1,hkeep,hr1,hmu⟩:=he
 obtain ⟨g1,g2,g3⟩:=hS.back hσ hnd hord hS1 hmu.size hnb (hnb1 r O1 hR) hkeep
 exact hk r O1 hR v w' F1 _ hS1.f0 g1 g3 (EE g2 hr1) hmu
theorem Sim.wipe {h:Array Obj} (hS:Sim N H0 F0 F ρ O h) {k:Nat} {L:Loc} {ob:Ob} (x:Obj) (hk:ρ k=some L) (hob:obA O k=some ob):Sim N H0 F0 F ρ (O.set k none) (h.setIfInBounds L.b x):=by
 obtain ⟨_,hN,hFn⟩:=hS.obj k L ob hk hob
 have hne:∀ b,b≠L.b->(h.setIfInBounds L.b x)[b]? = h[b]? := λ b hb=>by rw [Br,if_neg (λ hh=>hb hh.1.symm)]
 have hget:∀ j ob',obA (O.set k none) j=some ob'->j≠k/\obA O j=some ob':=λ j ob' h=>by
  rw [AU] at h
  split at h
  ·cases h
  ·rename_i hn
   refine ⟨λ e=>?_,h⟩
   subst e
   exact hn ⟨rfl,Aq hob⟩
 obtain ⟨σ,hσ⟩:=hS.inn
 exact {
  size:=λ b hb=>hS.size b (by simpa using hb),old:=λ b hb=>by rw [hne b (λ e=>hb (by rw [e];exact hN))];exact hS.old b hb,f0:=hS.f0,fnew:=hS.fnew,
     frz:=λ b o hb=>by rw [hne b (λ e=>by rw [e,hFn] at hb;cases hb)];exact hS.frz b o hb,
     loc:=λ j L' hj=>by simpa using hS.loc j L' hj,dom:=λ j L' hj=>by simpa using hS.dom j L' hj,
     obj:=λ j L' ob' hj ho=>by
      obtain ⟨h1,h2⟩:=hget j ob' ho
      obtain ⟨g1,g2,g3⟩:=hS.obj j L' ob' hj h2
      exact ⟨g1.mono (FLe.refl _) (RLe.refl _) (hne _ (hS.sep j k L' L ob' ob hj hk h2 hob h1)),g2,g3⟩,
     sep:=λ j j' L1 L2 o1 o2 h1 h2 g1 g2 hn=>hS.sep j j' L1 L2 o1 o2 h1 h2 (hget j o1 g1).2 (hget j' o2 g2).2 hn,
     inn:=⟨σ,λ j c M hM=>by obtain ⟨g1,g2,g3⟩:=hσ.new j c M hM;exact ⟨g1,by simpa using g2,g3⟩,
      λ j c M j' L' ob' hM hj' ho=>hσ.obj j c M j' L' ob' hM hj' (hget j' ob' ho).2,hσ.sep,
      λ j L' sz es hj ho i e m isz xs hi hm cs t fr v hb hv=>by
       obtain ⟨h1,h2⟩:=hget j _ ho
       rw [hne _ (hS.sep j k L' L _ ob hj hk h2 hob h1)] at hb
       exact (hσ.rep j L' sz es hj h2 i e m isz xs hi hm cs t fr v hb hv).mono (FLe.refl _) λ M hM=>hne _ (λ e=>hσ.obj j _ M k L ob hM hk hob e.symm)⟩ }
def FP (F:Nat->Option Obj) (d:Nat):Nat->Option Obj:=λ b=>if b=d then none else F b
theorem LX {d:Nat} (h:F d=some (.deferred (some []))):FCe F (FP F d):=λ b o hb hno=>by
 unfold FP
 rw [if_neg (λ e=>by subst e;rw [h] at hb;cases hb;exact hno _ rfl)];exact hb
theorem Sim.shut {h:Array Obj} (hS:Sim N H0 F0 F ρ O h) {d:Nat} (hd:F d=some (.deferred (some []))) (hN:N d) (h0:F0 d=none):Sim N H0 F0 (FP F d) ρ O (h.setIfInBounds d (.deferred none)):=by
 have hne:∀ b,b≠d->(h.setIfInBounds d (.deferred none))[b]? = h[b]? := λ b hb=>by rw [Br,if_neg (λ hh=>hb hh.1.symm)]
 have hFd:∀ b o,FP F d b=some o->b≠d/\F b=some o:=λ b o h=>by
  unfold FP at h
  split at h
  ·cases h
  ·rename_i hn;exact ⟨hn,h⟩
 have hno:∀ b,F b=none->b≠d/\FP F d b=none:=λ b h=>by
  have:b≠d:=λ e=>by subst e;rw [hd] at h;cases h
  exact ⟨this,by unfold FP;rw [if_neg this];exact h⟩
 have hce:=LX hd
 obtain ⟨σ,hσ⟩:=hS.inn
 exact {
  size:=λ b hb=>hS.size b (by simpa using hb),old:=λ b hb=>by rw [hne b (λ e=>hb (by rw [e];exact hN))];exact hS.old b hb,
     f0:=λ b o hb=>by
      have:b≠d:=λ e=>by subst e;rw [h0] at hb;cases hb
      unfold FP;rw [if_neg this];exact hS.f0 b o hb,
     fnew:=λ b o hb hn=>hS.fnew b o (hFd b o hb).2 hn,
     frz:=λ b o hb=>by rw [hne b (hFd b o hb).1];exact hS.frz b o (hFd b o hb).2,
     loc:=λ j L' hj=>by simpa using hS.loc j L' hj,dom:=hS.dom,
     obj:=λ j L' ob' hj ho=>by
      obtain ⟨g1,g2,g3⟩:=hS.obj j L' ob' hj ho
      exact ⟨g1.monoC hce (RLe.refl _) (hne _ (hno _ g3).1),g2,(hno _ g3).2⟩,
     sep:=hS.sep,
     inn:=⟨σ,λ j c M hM=>by obtain ⟨g1,g2,g3⟩:=hσ.new j c M hM;exact ⟨g1,by simpa using g2,(hno _ g3).2⟩,hσ.obj,hσ.sep,
      λ j L' sz es hj ho i e m isz xs hi hm cs t fr v hb hv=>by
       rw [hne _ (hno _ (hS.obj j L' _ hj ho).2.2).1] at hb
       exact (hσ.rep j L' sz es hj ho i e m isz xs hi hm cs t fr v hb hv).monoC hce λ M hM=>hne _ (hno _ (hσ.new _ _ M hM).2.2).1⟩ }
theorem HA {fn:Func} {tmps:Array Value} {R:Ending->World->Prop} {nt:Slt} (hq:∀ f k,(f,k)∈nt.qf->∀ vs:Array Value,vs.size=k->QD P (Ia f vs)) (hN:∀ b,w0.w.heap.size<=b->N b) (h0:∀ b,w0.w.heap.size<=b->F0 b=none) {l:List Nat} {ds:List Deferred} (hD:Jp nt l ds):∀ (F:Nat->Option Obj) (w:World),l.Nodup->(∀ b∈l,w0.w.heap.size<=b/\F b=some (.deferred (some []))) ->
  Sim N H0 F0 F ρ O w.heap->(∀ F' w',FCe F F'->Sim N H0 F0 F' ρ O w'.heap->Mu w w'->∃ v,(results fn tmps).run P w'=.ok v w'/\R (.returned v) w')->LeavesInM Fence.wide 0 P fn tmps R ds .returning w:=by
 induction hD with
 | nil=>intro F w _ _ hS hend;exact hend F w (λ _ _ h _=>h) hS (Mu.refl w)
 | quiet hd h ih=>
  intro F w hnd hl hS hend
  obtain ⟨fv,cap,f,args,q1,q2,q3⟩:=hq _ _ hd _ rfl
  refine ⟨by simp,.inr ⟨λ h=>(by cases h),fv,cap,f,args,q1,q2 w,λ g _=>trivial,(q3 w).1,λ c cs hm hr=>?_⟩⟩
  obtain ⟨e,u',w',fr,⟨v,rfl,hs,hh,hmu⟩,hrest⟩:=(q3 w).2 c cs hm hr
  refine ⟨.returned v,u',w',fr,?_,hrest⟩
  show LeavesInM Fence.wide 0 P fn tmps R _ (settle u') w'
  rw [hs]
  exact ih F w' hnd hl (by rw [hh];exact hS) λ F' w'' hF hS' hmu'=>hend F' w'' hF hS' (hmu.trans hmu')
 | @mark l ds d _ ih=>
  intro F w hnd hl hS hend
  obtain ⟨h1,h2⟩:=hl d List.mem_cons_self
  rw [List.nodup_cons] at hnd
  refine ⟨by simp,.inl ⟨d,w.putObj d (.deferred none),rfl,run_takeDeferred (hS.frz d _ h2),?_⟩⟩
  refine ih (FP F d) _ hnd.2 (λ b hb=>?_) (hS.shut h2 (hN d h1) (h0 d h1)) λ F' w' hF hS' hmu=>?_
  ·obtain ⟨q1,q2⟩:=hl b (List.mem_cons_of_mem _ hb)
   refine ⟨q1,?_⟩
   unfold FP
   rw [if_neg (λ e=>hnd.1 (by rw [← e];exact hb))];exact q2
  ·refine hend F' w' (λ b o hb hno=>hF b o (LX h2 b o hb hno) hno) hS' (Mu.trans (w':=w.putObj d (.deferred none)) ⟨rfl,rfl,by simp,rfl,Wz _⟩ hmu)
theorem PT:∀ (ts:List Nat) (env:List (Nat×AV)) (t:Nat) (v:Value),Ad F ρ (lkA env t) v->Ad F ρ (lkA (ts.zip (ts.map (lkA env))) t) v:=by
 intro ts
 induction ts with
 | nil=>intro env t v _;exact .top _
 | cons x ts ih=>
  intro env t v h
  rw [WG,List.zip_cons_cons,AK]
  split
  ·rename_i e;subst e;exact h
  ·exact ih env t v h
theorem Sim.enter {nt:Slt} {st:St} {a:Act} {fn:FuncId} {ps:Array Tmp} {asg body:Code} {js:List Code} (ts:List Nat) (hS:Sim N H0 F0 F ρ st.objs w.heap) (hSl:A3 F ρ st.env a.tmps) (hn:a.tmps.size=nt.n) :
  ∃ F1 ρ1,FLe F F1/\RLe ρ ρ1/\F1 w.heap.size=some (.deferred (some []))/\ρ1 st.objs.length=some ⟨w.heap.size+1,0,0⟩ /\
   Sim N H0 F0 F1 ρ1 (st.objs++[some (.lp ⟨nt.n,ps.toList,asg,body,js⟩ ts (ts.map (lkA st.env)) 0)]) ((w.alloc (.deferred (some []))).alloc (.loop { state:=.ready,pending:=none,fn,tmps:=a.tmps,params:=ps,assign:=asg,body,defers:=w.heap.size })).heap:=by
 obtain ⟨x,hx⟩:∃ x:Obj,x=.loop { state:=.ready,pending:=none,fn,tmps:=a.tmps,params:=ps,assign:=asg,body,defers:=w.heap.size }:=⟨_,rfl⟩
 rw [← hx]
 have hh:((w.alloc (.deferred (some []))).alloc x).heap=(w.heap.push (.deferred (some []))).push x:=rfl
 rw [hh]
 have hold:∀ b,b<w.heap.size->((w.heap.push (.deferred (some []))).push x)[b]? = w.heap[b]? := λ b hb=>by
  rw [Array.getElem?_push_lt (by simp;omega),Array.getElem_push_lt hb,WM hb]
 have hD:((w.heap.push (.deferred (some []))).push x)[w.heap.size]? = some (.deferred (some [])):=by
  rw [Array.getElem?_push_lt (by simp)];simp
 have hl:((w.heap.push (.deferred (some []))).push x)[w.heap.size+1]? = some x:=by
  rw [Array.getElem?_push];simp
 have hlt:∀ b o,F b=some o->b<w.heap.size:=λ b o h=>Af (hS.frz b o h)
 let F1:Nat->Option Obj:=λ b=>if b=w.heap.size then some (.deferred (some [])) else F b
 have e1:∀ b,b≠w.heap.size->F1 b=F b:=λ b h=>if_neg h
 have e2:F1 w.heap.size=some (.deferred (some [])):=if_pos rfl
 have hF:FLe F F1:=λ b o h=>by rw [e1 b (by have:=hlt b o h;omega)];exact h
 have hfresh:ρ st.objs.length=none:=by
  cases hr:ρ st.objs.length with
  | none=>rfl
  | some L=>have:=hS.dom _ L hr;omega
 have hρ:RLe ρ (upR ρ st.objs.length ⟨w.heap.size+1,0,0⟩):=λ k L h=>by
  rw [AF (λ e=>by subst e;rw [hfresh] at h;cases h)];exact h
 have hnone:∀ b,w.heap.size<=b->F b=none:=λ b hb=>by
  cases hf:F b with
  | none=>rfl
  | some o=>have:=hlt b o hf;omega
 have hobj:∀ j ob,obA (st.objs++[some (.lp ⟨nt.n,ps.toList,asg,body,js⟩ ts (ts.map (lkA st.env)) 0)]) j=some ob->j≠st.objs.length->obA st.objs j=some ob:=λ j ob h hj=>by
  rw [Al] at h
  split at h
  ·exact h
  ·have:=Aq h;simp at this;omega
 obtain ⟨σ,hσ⟩:=hS.inn
 refine ⟨F1,_,hF,hρ,e2,An ..,{ size:=λ b hb=>hS.size b (by simp at hb;omega),old:=λ b hb=>?_,f0:=λ b o h=>hF b o (hS.f0 b o h),fnew:=λ b o h hb=>?_,frz:=λ b o h=>?_,loc:=λ j L hj=>?_,dom:=λ j L hj=>?_,obj:=λ j L ob hj ho=>?_,sep:=λ j j' L L' o1 o2 hj hj' h1 h2 hne=>?_,inn:=⟨σ,λ j c M hM=>?_,λ j c M j' L ob hM hj' ho=>?_,hσ.sep,λ j L sz es hj ho i e m isz xs hi hm cs t fr v hb hv=>?_⟩ }⟩
 ·rw [hold b (hS.lt_size hb)];exact hS.old b hb
 ·rw [e1 b (by have:=hS.lt_size hb;omega)] at h;exact hS.fnew b o h hb
 ·by_cases e:b=w.heap.size
  ·subst e;rw [e2] at h;cases h;exact hD
  ·rw [e1 b e] at h;rw [hold b (hlt b o h)];exact hS.frz b o h
 ·by_cases e:j=st.objs.length
  ·subst e;rw [An] at hj;cases hj;simp
  ·rw [AF e] at hj;have:=hS.loc j L hj;simp;omega
 ·by_cases e:j=st.objs.length
  ·subst e;simp
  ·rw [AF e] at hj;have:=hS.dom j L hj;simp;omega
 ·by_cases e:j=st.objs.length
  ·subst e
   rw [An] at hj;cases hj
   rw [Al,if_neg (by omega)] at ho
   simp only [Nat.sub_self,obA,List.getElem?_cons_zero,WR] at ho
   subst ho
   refine ⟨⟨_,by rw [hl,hx],rfl,rfl,rfl,hn,.inl ⟨rfl,rfl,rfl⟩,λ t=>PT ts st.env t _ ((hSl t).mono hF hρ)⟩,hS.size _ (by simp),?_⟩
   rw [e1 _ (by simp)];exact hnone _ (by simp)
  ·rw [AF e] at hj
   have hj':=hS.loc j L hj
   obtain ⟨g1,g2,g3⟩:=hS.obj j L ob hj (hobj j ob ho e)
   exact ⟨g1.mono hF hρ (hold _ hj'),g2,by rw [e1 _ (by omega)];exact g3⟩
 ·by_cases e:j=st.objs.length
  ·subst e
   rw [An] at hj;cases hj
   rw [AF (Ne.symm hne)] at hj'
   have:=hS.loc j' L' hj';simp;omega
  ·rw [AF e] at hj
   by_cases e':j'=st.objs.length
   ·subst e'
    rw [An] at hj';cases hj'
    have:=hS.loc j L hj;simp;omega
   ·rw [AF e'] at hj'
    exact hS.sep j j' L L' o1 o2 hj hj' (hobj j o1 h1 e) (hobj j' o2 h2 e') hne
 ·obtain ⟨g1,g2,g3⟩:=hσ.new j c M hM
  exact ⟨g1,by simp;omega,by rw [e1 _ (by omega)];exact g3⟩
 ·by_cases e:j'=st.objs.length
  ·subst e
   rw [An] at hj';cases hj'
   have:=(hσ.new j c M hM).2.1
   simp;omega
  ·rw [AF e] at hj'
   exact hσ.obj j c M j' L ob hM hj' (hobj j' ob ho e)
 ·by_cases e':j=st.objs.length
  ·subst e'
   rw [Al,if_neg (by omega)] at ho
   simp [obA] at ho
  ·rw [AF e'] at hj
   rw [hold _ (hS.loc j L hj)] at hb
   exact (hσ.rep j L sz es hj (hobj j _ ho e') i e m isz xs hi hm cs t fr v hb hv).mono hF λ M hM=>hold _ (hσ.new _ _ M hM).2.1
theorem PU {k j:Nat} {js:List Code} (h:lpJ O k=some (js,j)):∃ d ts vs,obA O k=some (.lp d ts vs j)/\d.js=js:=by
 unfold lpJ at h
 split at h
 ·rename_i d ts vs j' ho
  cases h
  exact ⟨d,ts,vs,ho,rfl⟩
 ·cases h
def KC (P:Program) (Γ:Cx) (g:Operand) (ps:Array Tmp) (asg body:Code) (Q:Ex->St->Prop) (st:St):Prop:=
 match Ae st.env g with
 | .clo f caps=>∃ (js:List Code) (ts:List Nat) (nb:Nat) (R:AV->List (Option Ob)->Prop),
   Γ.rd=false/\BG P f ((.yld st.objs.length::caps).map (C7 (Ah (rgO Γ ps asg body js ts st) (.yld st.objs.length::caps)))) (BP (rgO Γ ps asg body js ts st) (Ah (rgO Γ ps asg body js ts st) (.yld st.objs.length::caps))) nb R /\
   nb<=(Ah (rgO Γ ps asg body js ts st) (.yld st.objs.length::caps)).length/\(∀ k∈Ah (rgO Γ ps asg body js ts st) (.yld st.objs.length::caps),k<(rgO Γ ps asg body js ts st).length) /\
   ∀ r objs1,R r objs1->nb<=objs1.length/\∃ j,lpJ (Bg (rgO Γ ps asg body js ts st) (Ah (rgO Γ ps asg body js ts st) (.yld st.objs.length::caps)) nb objs1) st.objs.length=some (js,j) /\
    MG Q js j ⟨st.env,(Bg (rgO Γ ps asg body js ts st) (Ah (rgO Γ ps asg body js ts st) (.yld st.objs.length::caps)) nb objs1).set st.objs.length none⟩
 | _=>False
theorem IJ {Γ:Cx} {rd:Option Nat} (hrd:Γ.rd=rd.isSome) {g:Operand} {ps:Array Tmp} {asg body:Code} {Q:Ex->St->Prop} {st:St} {a:Act} (h:KC P Γ g ps asg body Q st) (hI:Inv N H0 F0 w0 Γ.nt st a w) :
  (Code.rangeFunc g ps asg body).wpIn (GF rd) 0 P (Hz N H0 F0 w0 Γ.nt Q) a w:=by
 obtain ⟨F,ρ,hS,hSl,hn,hdf⟩:=hI
 unfold KC at h
 split at h
 rotate_left
 ·exact h.elim
 rename_i f caps hgv
 obtain ⟨js,ts,nb,R,h1,hl,hnb,hord,hR⟩:=h
 have hr0:rd=none:=by
  rw [h1] at hrd
  cases rd with
  | none=>rfl
  | some l=>cases hrd
 subst hr0
 have hg:=Ap hSl g
 rw [hgv] at hg
 generalize hav:a.eval g=gv at hg
 cases hg with
 | clo _ _ vs hlen hrep=>
  obtain ⟨⟨fn,c,hf,hb,hnm⟩,hcall⟩:=hl
  refine wpIn_rangeFunc λ fnid _=>?_
  obtain ⟨F1,ρ1,hF1,hρ1,hFD,hρl,hS1⟩:=hS.enter (nt:=Γ.nt) (fn:=fnid) (ps:=ps) (asg:=asg) (body:=body) (js:=js) ts hSl hn.1
  obtain ⟨W1,hW1⟩:∃ W1,W1=(w.alloc (.deferred (some []))).alloc (.loop { state:=.ready,pending:=none,fn:=fnid,tmps:=a.tmps,params:=ps,assign:=asg,body,defers:=w.heap.size }):=⟨_,rfl⟩
  have hmu1:Mu w W1:=by rw [hW1];exact ⟨rfl,rfl,by simp;omega,rfl,Wz _⟩
  refine ⟨w.heap.size+1,[H9 w.heap.size],W1,{ target:=.fn (.func f) vs,args:=#[.func (.yield (w.heap.size+1)) #[] #[]] },W1,f,#[.func (.yield (w.heap.size+1)) #[] #[]]++vs,W1,?_,?_,λ _ _=>trivial,?_,(by intro h;cases h),?_⟩
  ·rw [hW1];exact run_enterLoop_outer _ _ _ _ _
  ·simp only [resolve,hav]
   simp [go_sem]
  ·simp only [invoke,callFunc,Ws,run_program,Wq,hf,hnm,hb,WS,if_false,Option.isNone_some,Wt]
  rw [← hW1] at hS1
  refine Iq.2 (ON (X:=λ vs R=>Calls P f vs W1 R) (λ _ _ _ h hr=>h.mono hr) (xs:=.yld st.objs.length::caps) hS1 ⟨by simp;omega,λ i x v hx hv=>?_⟩ (λ N F ρ' _ hS' hcr=>hcall N F ρ' W1 _ hS' hcr) hnb (λ r O1 hr=>(hR r O1 hr).1) hord λ r objs1 hr v w' F2 ρ2 hF2 hρ2 hS2 _ hmu=>?_)
  ·cases i with
   | zero=>
    simp at hx hv;subst hx;subst hv
    exact .yld _ _ hρl
   | succ i=>
    have hx:caps[i]? = some x:=by simpa using hx
    have hv:vs[i]? = some v:=by simpa [Array.getElem?_append] using hv
    exact (hrep i x v hx hv).mono hF1 hρ1
  ·obtain ⟨hnb1,j,hj,hQ⟩:=hR r objs1 hr
   obtain ⟨d,ts',vs',hob,hdj⟩:=PU hj
   have hρn:=hρ2 _ _ hρl
   obtain ⟨⟨rc,hrc,_,_,_,_,hst,_⟩,hNl,hFl⟩:=hS2.obj _ _ _ hρn hob
   simp only at hrc
   have hS3:=hS2.wipe (.loop { rc with state:=.exhausted }) hρn hob
   have hInv:Inv N H0 F0 w0 Γ.nt ⟨st.env,(Bg (rgO Γ ps asg body js ts st) (Ah (rgO Γ ps asg body js ts st) (.yld st.objs.length::caps)) nb objs1).set st.objs.length none⟩ { a with defers:=[H9 w.heap.size]++a.defers } (w'.putObj (w.heap.size+1) (.loop { rc with state:=.exhausted })):=by
    refine ⟨F2,ρ2,hS3,hSl.mono (hF1.trans hF2) (hρ1.trans hρ2),hn,?_,hdf.2.1.trans (hmu1.trans (hmu.trans ⟨rfl,rfl,by simp,rfl,Wz _⟩)),hdf.2.2.mono (hρ1.trans hρ2)⟩
    obtain ⟨l,q1,q2,q3⟩:=hdf.1.mono (hF1.trans hF2)
    obtain ⟨l',q1',_,q3'⟩:=hdf.1
    refine ⟨w.heap.size::l,.mark _ q1,List.nodup_cons.2 ⟨λ hm=>?_,q2⟩,λ b hb=>?_⟩
    ·have hll:l=l':=q1.uniq q1'
     rw [hll] at hm
     have:=Af (hS.frz _ _ (q3' _ hm).2)
     omega
    ·rcases List.mem_cons.1 hb with rfl|hb
     ·exact ⟨hdf.2.1.size,hF2 _ _ hFD⟩
     ·exact q3 b hb
   have hend:rc.state≠.busy->(Instr.endLoop (w.heap.size+1)).run P w'=.ok rc.pending (w'.putObj (w.heap.size+1) (.loop { rc with state:=.exhausted })):=λ hb=>run_endLoop hrc hb
   match j,hst,hQ with
   | 0,hst,hQ=>
    rcases hst with ⟨_,h2,h3⟩|⟨h2,_⟩|⟨c,h2,_⟩
    ·exact ⟨none,_,by rw [hend (by rw [h2];simp),h3],.normal,_,rfl,hQ,hInv⟩
    ·omega
    ·omega
   | 1,_,hQ=>exact hQ.elim
   | i+2,hst,hQ=>
    rcases hst with ⟨h2,_⟩|⟨h2,_⟩|⟨c,_,h2,h3,h4⟩
    ·omega
    ·omega
    ·simp only [Nat.add_sub_cancel,hdj] at h2
     refine ⟨some c,w'.putObj (w.heap.size+1) (.loop { rc with state:=.exhausted }),by rw [hend (by rw [h3];simp),h4],?_⟩
     simp only [MG,h2] at hQ
     split at hQ
     ·rename_i he;cases he;exact wpIn_ret (⟨.ret,_,rfl,hQ,hInv⟩:Hz N H0 F0 w0 Γ.nt Q .ret _ _)
     ·rename_i k he;cases he;exact wpIn_exit (⟨.exit k,_,rfl,hQ,hInv⟩:Hz N H0 F0 w0 Γ.nt Q (.exit k) _ _)
     ·exact hQ.elim
theorem KD {Γ:Cx} (hΓ:CG P Γ) {rd:Option Nat} (hrd:Γ.rd=rd.isSome) {g:Operand} {ps:Array Tmp} {asg body:Code} {Q:Ex->St->Prop} {st:St} {a:Act} (h:Ic Γ g ps asg body Q st) (hI:Inv N H0 F0 w0 Γ.nt st a w) :
  (Code.rangeFunc g ps asg body).wpIn (GF rd) 0 P (Hz N H0 F0 w0 Γ.nt Q) a w:=by
 refine IJ hrd ?_ hI
 unfold Ic at h
 unfold KC
 split at h
 ·rename_i f caps hgv
  simp only [hgv]
  obtain ⟨js,ts,nb,R,h1,hl,h2⟩:=h
  exact ⟨js,ts,nb,R,h1,hΓ.lentS _ _ _ _ _ hl,h2⟩
 ·exact h.elim
theorem LY {Γ:Cx} (hΓ:CG P Γ) {rd:Option Nat} (hrd:Γ.rd=rd.isSome) {g:Operand} {ps:Array Tmp} {asg body:Code} {Q:Ex->St->Prop} {st:St} {a:Act} (h:Ki Γ g ps asg body Q st) (hI:Inv N H0 F0 w0 Γ.nt st a w) :
  (Code.rangeFunc g ps asg body).wpIn (GF rd) 0 P (Hz N H0 F0 w0 Γ.nt Q) a w:=by
 refine IJ hrd ?_ hI
 unfold Ki at h
 unfold KC
 split at h
 ·rename_i f caps hgv
  simp only [hgv]
  obtain ⟨js,ts,nb,r,objs1,j,h1,hl,hnb,hnb1,hord,hj,hQ⟩:=h
  exact ⟨js,ts,nb,_,h1,(hΓ.lent _ _ _ _ _ _ hl).S,hnb,hord,λ r' O' hr=>by obtain ⟨rfl,rfl⟩:=hr;exact ⟨hnb1,j,hj,hQ⟩⟩
 ·exact h.elim
end Go.AI
end
section
namespace Go.AI
variable {P:Program} {F F':Nat->Option Obj} {ρ ρ':Nat->Option Loc} {N:Nat->Prop} {H0 F0:Nat->Option Obj} {O objs:List (Option Ob)} {w:World} {w0:W0}
theorem CZ {op:Op} (h:D3 op=true):DL op=true/\isW op=false:=by
 cases op with
 | call c=>
  obtain ⟨callee,args,ts⟩:=c
  cases callee with
  | value f=>cases h
  | invoke r m=>cases h
  | builtin b=>cases b<;>first|exact ⟨rfl,rfl⟩|cases h
 | _=>first|exact ⟨rfl,rfl⟩|cases h
theorem F8 {op:Op} (h:D3 op=true) (hm:BO op=true):∃ t a,op=.load t a:=by
 cases op with
 | call c=>
  obtain ⟨callee,args,ts⟩:=c
  cases callee with
  | value f=>cases h
  | invoke r m=>cases h
  | builtin b=>cases b<;>first|(cases h;done)|(cases hm;done)
 | load t a=>exact ⟨t,a,rfl⟩
 | _=>first|(cases h;done)|(cases hm;done)
theorem M9 {Γ:Nat->Ty} {ev:Operand->AV} {op:Op} (h:Cr op=true):opA Γ ev objs op=none:=by
 cases op with
 | call c=>
  obtain ⟨callee,args,ts⟩:=c
  cases callee with
  | value f=>rfl
  | invoke r m=>cases h
  | builtin b=>cases h
 | _=>cases h
theorem Fn {op:Op} (h:Cr op=true) (hq:D3 op=true):False:=by
 cases op with
 | call c=>
  obtain ⟨callee,args,ts⟩:=c
  cases callee with
  | value f=>cases hq
  | invoke r m=>cases h
  | builtin b=>cases h
 | _=>cases h
structure PV (P:Program) (Γ:Cx) (ops:Array Oper) (m x i:Nat) (o:Oper) (s s':St) (g:Bool) (v:AV):Prop where
 gd:AP (ops.toList.take m) s.env o.guard=some g
 dst:AZ Γ.nt o.dst=true
 env:s'.env=putA o.dst o.guard.isSome g v s.env
 quiet:D3 o.op=true->(∃ obs:List Ob,s'.objs=s.objs++obs.map some)/\(g=true->∃ e,opA Γ.ty (λ y=>unG (Ae s.env y)) s.objs o.op=some e/\CF true (o.op.operands.toList.map (Ae s.env))/\e.ob/\v=e.v)
 call:Cr o.op=true->(g=false->∃ obs:List Ob,s'.objs=s.objs++obs.map some)/\(g=true->∀ env,(∀ y∈o.op.operands.toList,Ae env y=Ae s.env y)->Γ.ext Γ.nt o true ⟨env,s.objs⟩ ⟨putA o.dst o.guard.isSome true v env,s'.objs⟩)
theorem Na {Γ:Cx} {ops:Array Oper} {m x i:Nat} {o:Oper} {s s':St} (hk:D3 o.op=true\/Cr o.op=true) (hx:∀ o',ops[x]? = some o'->Cr o'.op=true) (h:As (cxX Γ ops x) false (ops.toList.take m) o (λ z=>z=s') s):∃ g v,PV P Γ ops m x i o s s' g v:=by
 unfold As at h
 split at h
 ·exact h.elim
 rename_i g hg
 cases hdst:AZ Γ.nt o.dst with
 | false=>rw [show (cxX Γ ops x).nt=Γ.nt from rfl,hdst] at h;exact h.elim
 | true=>
  rw [show (cxX Γ ops x).nt=Γ.nt from rfl,hdst,Wy,cond_false] at h
  cases g with
  | false=>
   obtain ⟨v,obs,_,hv⟩:=h.2 rfl
   cases hv
   exact ⟨false,v,hg,hdst,rfl,λ _=>⟨⟨obs,rfl⟩,λ h=>by cases h⟩,λ _=>⟨λ _=>⟨obs,rfl⟩,λ h=>by cases h⟩⟩
  | true=>
   have hext:∀ st',UO Γ ops x Γ.nt o true s st'->Cr o.op=true/\∃ v,st'=⟨putA o.dst o.guard.isSome true v s.env,st'.objs⟩/\∀ env,(∀ y∈o.op.operands.toList,Ae env y=Ae s.env y)->Γ.ext Γ.nt o true ⟨env,s.objs⟩ ⟨putA o.dst o.guard.isSome true v env,st'.objs⟩:=by
    rintro st' ⟨h1,v,O1,rfl,h2⟩
    exact ⟨hx o h1,v,rfl,h2⟩
   have others:∀ op,o.op=op->(match opA Γ.ty (λ x=>unG (Ae s.env x)) s.objs op with
     | some e=>CF true (op.operands.toList.map (Ae s.env))/\(true=true->e.ob)/\(bif (e.upd.isSome&&o.guard.isSome)||(!e.rm.isEmpty&&(o.guard.isSome||(false&&!isW op))) then False else Cc o.dst o.guard.isSome true e s=s')
     | none=>False)->∃ g v,PV P Γ ops m x i o s s' g v:=by
    intro op hop h
    subst hop
    split at h
    ·rename_i e he
     obtain ⟨h1,h2,h3⟩:=h
     have hq:D3 o.op=true:=by
      rcases hk with h|h
      ·exact h
      ·rw [M9 h] at he;cases he
     obtain ⟨q2,q3,q1⟩:=Ks (CZ hq).1 he
     have hs:Cc o.dst o.guard.isSome true e s=s':=by
      rw [q1,q3] at h3
      simpa using h3
     subst hs
     refine ⟨true,e.v,hg,hdst,rfl,λ _=>⟨⟨[],?_⟩,λ _=>⟨e,he,h1,h2 rfl,rfl⟩⟩,λ hc=>(Fn hc hq).elim⟩
     simp [Cc,q1,q2,q3,rmA,A4]
    ·exact h.elim
   rcases h.1 rfl with h|h|h
   ·unfold stepG at h
    split at h
    ·obtain ⟨_,h⟩:=h
     unfold EW at h
     split at h
     ·obtain ⟨_,m,r,hc,_⟩:=h
      exact (hc rfl).elim
     ·exact h.elim
    ·rename_i c y z hop
     rcases hk with h|h
     ·rw [hop] at h;cases h
     ·rw [hop] at h;cases h
    ·exact others _ rfl h
   ·exfalso
    unfold CQ opF at h
    split at h
    ·rename_i es he
     split at he
     ·rename_i t len parts hop
      rcases hk with h|h
      ·rw [hop] at h;cases h
      ·rw [hop] at h;cases h
     ·cases he
    ·exact h
   ·obtain ⟨_,⟨st',h1,rfl⟩|⟨_,h|h⟩⟩:=h
    ·obtain ⟨h1,v,h2,h3⟩:=hext _ h1
     refine ⟨true,v,hg,hdst,by rw [h2],λ hq=>(Fn h1 hq).elim,λ _=>⟨λ h=>(by cases h),λ _=>h3⟩⟩
    ·exfalso
     unfold opK at h
     split at h
     ·rename_i esz es he
      split at he
      ·rename_i t len parts hop
       rcases hk with h|h
       ·rw [hop] at h;cases h
       ·rw [hop] at h;cases h
      ·cases he
     ·exact h
    ·exfalso
     split at h
     ·obtain ⟨_,nb,r,o1,hl,_⟩:=h
      exact hl
     ·exact h
theorem PW {t:Ty} {p v:AV} (h:ldX t objs p=some v):∃ k off cells,p=.ptr k off/\obA objs k=some (.box cells)/\BF cells off t=some v/\off+t.size<=cells.length:=by
 unfold ldX at h
 split at h
 ·rename_i k off
  split at h
  ·rename_i cells hc
   cases hb:Nat.ble (off+t.size) cells.length with
   | false=>rw [hb] at h;cases h
   | true=>
    rw [hb,cond_true] at h
    exact ⟨k,off,cells,rfl,hc,h,WV hb⟩
  ·cases h
 ·cases h
theorem Gr {Γ:Nat->Ty} {t:TypeId} {a:Operand} {ev:Operand->AV} {k off:Nat} {cells:List AV} {v:AV} (hok:(Γ t).ok=true) (hp:ev a=.ptr k off) (hc:obA objs k=some (.box cells)) (hv:BF cells off (Γ t)=some v):opA Γ ev objs (.load t a)=some ⟨v,[],[],none,off+(Γ t).size<=cells.length⟩:=by
 simp only [opA,hok,cond_true,hp,Ci,hc,hv,AO]
theorem PX {Γ:Nat->Ty} {t:TypeId} {a:Operand} {ev:Operand->AV} {e:Eff} (O:List (Option Ob)) (h:opA Γ ev objs (.load t a)=some e):opA Γ ev (objs++O) (.load t a)=some e:=by
 simp only [opA] at h ⊢
 cases hok:(Γ t).ok with
 | false=>rw [hok] at h;cases h
 | true=>
  rw [hok,cond_true] at h
  rw [cond_true]
  have hap:∀ k ob,obA objs k=some ob->obA (objs++O) k=some ob:=λ k ob hk=>by rw [Al,if_pos (Aq hk)];exact hk
  unfold Ci at h ⊢
  split at h
  ·split at h
   ·rename_i hk;rw [hap _ _ hk];exact h
   ·cases h
  ·split at h
   ·rename_i hk;rw [hap _ _ hk];exact h
   ·rename_i hk;rw [hap _ _ hk];exact h
   ·cases h
  ·exact h
  ·cases h
theorem PY {ops:Array Oper} {b x m i:Nat} (hbi:b<=i) (hix:i≠x) (hx:x<m) (h1:i<x->¬((Region.before ops).getD x 0).testBit i=true) (h2:x<i->¬((Region.before ops).getD i 0).testBit x=true)  :exX ops b x m i=false:=by
 rw [← Bool.not_eq_true]
 intro h
 unfold exX at h
 simp only [WX,WI] at h
 rcases h with (((h|h)|h)|h)|h
 ·have:=WV h;omega
 ·exact hix (WO h)
 ·have:=WV h;omega
 ·exact h1 (WV h.1) h.2
 ·exact h2 (WV h.1) h.2
theorem OO {ops:Array Oper} {b x m:Nat} (h:Ib ops b x m=true):(m<ops.size/\b<=x/\b<=m)/\(∀ o',ops[x]? = some o'->Cr o'.op=true) /\
  (∀ (j:Nat) oj,ops[j]? = some oj->(∀ e∈oj.after.toList,Region.binds .any e=true->e.on<j)/\(b<=j->j<m->DD ops m j/\(D3 oj.op=true\/Cr oj.op=true)/\(Cr oj.op=true->j=x))/\(b<=j->m<j->DD ops j m)/\(∀ k b,oj.guard=some (k,b)->k<j) /\
   ∀ (i:Nat) oi d,ops[i]? = some oi->i≠j->oi.dst=some d->oj.dst≠some d/\(d∈Bn ops.toList oj->(i<j->Region.waitsFor .any ops j i=true)/\(j<i->Region.waitsFor .any ops i j=true))):=by
 unfold Ib at h
 simp only [WI] at h
 obtain ⟨⟨⟨⟨h1,hbx⟩,hbm⟩,hx⟩,h2⟩:=h
 have hz:∀ (j:Nat) oj,ops[j]? = some oj->(oj,j)∈ops.toList.zipIdx:=λ j oj hj=>by
  rw [List.mem_zipIdx_iff_getElem?]
  simpa using hj
 refine ⟨⟨WV h1,WV hbx,WV hbm⟩,λ o' ho'=>?_,λ j oj hj=>?_⟩
 ·rw [ho'] at hx;exact hx
 have h3:=Wv.1 h2 _ (hz j oj hj)
 simp only [WI] at h3
 obtain ⟨⟨⟨h3,h4⟩,h5⟩,h6⟩:=h3
 refine ⟨λ e he hb=>?_,λ hbj hjm=>?_,λ hbj hmj=>?_,λ k b hg=>?_,λ i oi d hi hne hd=>?_⟩
 ·have:=Array.all_eq_true_iff_forall_mem.1 h3 e (by simpa using he)
  rw [hb,Wy,Bool.false_or] at this
  exact of_decide_eq_true this
 ·have hb:Nat.blt j m=true:=Nat.ble_eq_true_of_le hjm
  have hb0:Nat.blt j b=false:=by
   cases hb:Nat.blt j b with
   | false=>rfl
   | true=>have:=WV hb;omega
  rw [hb0,Bool.false_or,hb,cond_true,WI] at h4
  refine ⟨BB _ _ _ h4.1,?_,λ hc=>?_⟩
  ·cases hjx:Nat.beq j x with
   | true=>rw [hjx,cond_true] at h4;exact .inr h4.2
   | false=>rw [hjx,cond_false] at h4;exact .inl h4.2
  ·cases hjx:Nat.beq j x with
   | true=>exact WO hjx
   | false=>rw [hjx,cond_false] at h4;exact (Fn hc h4.2).elim
 ·have hb:Nat.blt j m=false:=by
   cases hb:Nat.blt j m with
   | false=>rfl
   | true=>have:=WV hb;omega
  have hb0:Nat.blt j b=false:=by
   cases hb:Nat.blt j b with
   | false=>rfl
   | true=>have:=WV hb;omega
  rw [hb0,Bool.false_or,hb,cond_false,WX] at h4
  rcases h4 with h4|h4
  ·have:=WO h4;omega
  ·exact BB _ _ _ h4
 ·rw [hg] at h5
  exact of_decide_eq_true h5
 ·have h7:=Wv.1 h6 _ (hz i oi hi)
  simp only [WX,beq_iff_eq] at h7
  rcases h7 with h7|h7
  ·exact absurd h7 hne
  rw [hd] at h7
  simp only [WI,bne_iff_ne,ne_eq,WX,Bool.not_eq_true'] at h7
  refine ⟨h7.1,λ hm=>?_⟩
  have h8:=h7.2
  rw [List.contains_iff_mem.2 hm] at h8
  rcases h8 with h8|h8
  ·cases h8
  refine ⟨λ hlt=>?_,λ hlt=>?_⟩
  ·rw [decide_eq_true hlt,cond_true] at h8;exact h8
  ·rw [decide_eq_false (by omega),cond_false] at h8;exact h8
theorem J0 (env:List (Nat×AV)):∃ B,∀ t,B<=t->lkA env t=.top:=by
 induction env with
 | nil=>exact ⟨0,λ t _=>rfl⟩
 | cons p env ih=>
  obtain ⟨B,hB⟩:=ih
  obtain ⟨k,v⟩:=p
  refine ⟨B+k+1,λ t ht=>?_⟩
  rw [AK,if_neg (by omega)]
  exact hB t (by omega)
theorem Nb (S:Nat->St):∀ n,∃ B,∀ i,i<=n->∀ t,B<=t->lkA (S i).env t=.top:=by
 intro n
 induction n with
 | zero=>
  obtain ⟨B,hB⟩:=J0 (S 0).env
  refine ⟨B,λ i hi t ht=>?_⟩
  have:i=0:=by omega
  subst this
  exact hB t ht
 | succ n ih=>
  obtain ⟨B,hB⟩:=ih
  obtain ⟨B',hB'⟩:=J0 (S (n+1)).env
  refine ⟨B+B',λ i hi t ht=>?_⟩
  by_cases e:i=n+1
  ·subst e;exact hB' t (by omega)
  ·exact hB i (by omega) t (by omega)
theorem RX (f:Nat->AV) (B:Nat) (hf:∀ t,B<=t->f t=.top) (t:Nat):lkA ((List.range B).map λ t=>(t,f t)) t=f t:=by
 have key:∀ (l:List Nat),lkA (l.map λ t=>(t,f t)) t=if t∈l then f t else .top:=by
  intro l
  induction l with
  | nil=>rfl
  | cons x l ih=>
   rw [WG,AK,ih]
   by_cases e:x=t
   ·subst e;simp
   ·rw [if_neg e];simp [Ne.symm e]
 rw [key]
 split
 ·rfl
 ·rename_i h
  rw [List.mem_range] at h
  exact (hf t (by omega)).symm
structure DX (N:Nat->Prop) (H0 F0:Nat->Option Obj) (w0:W0) (nt:Slt) (ops:Array Oper) (b m x:Nat) (S:Nat->St) (listed:Array Bool) (a:Act) (w:World):Prop where
 size:listed.size=ops.size
 closed:∀ (j:Nat) oj,ops[j]? = some oj->listed.getD j false=true->∀ e∈oj.after.toList,Region.binds .any e=true->listed.getD e.on false=true
 tsz:TS nt w0.kp a.tmps
 mu:Mu w0.w w
 last:∀ j,m<=j->listed.getD j false=false
 base:∀ j,j<b->listed.getD j false=true
 ex:∃ F ρ,(RK w0 nt ρ/\Dfr w0 nt F a.defers)/\Sim N H0 F0 F ρ (if listed.getD x false=true then (S m).objs else (S b).objs) w.heap /\
  ∀ t,(∀ (i:Nat) o,b<=i->i<m->ops[i]? = some o->o.dst=some t->listed.getD i false=true->Ad F ρ (lkA (S (i+1)).env t) (a.tmps.getD t undef))/\((∀ (i:Nat) o,b<=i->i<m->ops[i]? = some o->o.dst=some t->listed.getD i false=false)->Ad F ρ (lkA (S b).env t) (a.tmps.getD t undef))
theorem PZ {Γ:Cx} (hΓ:CG P Γ) (rd:Option Nat) (hqr:Γ.nt.qf≠[]->rd=none) (n:Nat) {ops:Array Oper} {b x m:Nat} {Q:St->Prop} {st:St} {a:Act} (hB:Ib ops b x m=true)
  (h:D2 (cxX Γ ops x) false (ops.toList.take m) ((ops.toList.take m).drop b) (λ s=>S4 Γ.ty ops b x m st.env s.env st.objs s.objs/\∃ F,ops[m]? = some F/\As Γ false ops.toList F Q s) st) (hI:Inv N H0 F0 w0 Γ.nt st a w)
  {Qw:Exit->Act->World->Prop} {listed0:Array Bool} (hs0:listed0.size=ops.size) (hl0:∀ k,k<b->listed0.getD k false=true) (hl1:∀ k,b<=k->listed0.getD k false=false)
  (hQ:∀ st' a' w' (listed':Array Bool) (fuel:Nat),Q st'->Inv N H0 F0 w0 Γ.nt st' a' w'->listed'.size=ops.size->(∀ k,k<m+1->listed'.getD k false=true)->(∀ k,m+1<=k->listed'.getD k false=false)->m+1+fuel=ops.size->wpAnyIn (GF rd) n P .any ops Qw fuel listed' a' w') :
  wpAnyIn (GF rd) n P .any ops Qw (ops.size-b) listed0 a w:=by
 obtain ⟨S',h0',hst',hend⟩:=DC _ _ _ h
 obtain ⟨⟨hn1,hbx,hbm⟩,hxc,hops⟩:=OO hB
 have hlen:((ops.toList.take m).drop b).length=m-b:=by rw [List.length_drop,List.length_take];simp;omega
 rw [hlen] at hend
 obtain ⟨hlds,Fo,hF,hFs⟩:=hend
 obtain ⟨S,hSd⟩:∃ S:Nat->St,S=λ i=>S' (i-b):=⟨_,rfl⟩
 have h0:S b=st:=by rw [hSd];simpa using h0'
 have hSm:S m=S' (m-b):=by rw [hSd]
 rw [← hSm] at hlds hFs
 have hget:∀ (i:Nat) o,i<m->ops[i]? = some o->(ops.toList.take m)[i]? = some o:=λ i o hi ho=>by
  rw [WY hi]
  simpa using ho
 have hst:∀ (i:Nat) o,b<=i->i<m->ops[i]? = some o->As (cxX Γ ops x) false (ops.toList.take m) o (λ z=>z=S (i+1)) (S i):=λ i o hbi hi ho=>by
  have:=hst' (i-b) o (by rw [WD,show b+(i-b)=i by omega];exact hget i o hi ho)
  rw [hSd]
  show As _ _ _ o (λ z=>z=S' (i+1-b)) (S' (i-b))
  rw [show i+1-b=i-b+1 by omega];exact this
 have hcf:∀ (i:Nat) o,b<=i->i<m->ops[i]? = some o->∃ g v,PV P Γ ops m x i o (S i) (S (i+1)) g v:=λ i o hbi hi ho=>
  Na ((hops i o ho).2.1 hbi hi).2.1 hxc (hst i o hbi hi ho)
 have env_trk:∀ j,b<=j->j<=m->∀ t,(∃ i o,b<=i/\i<j/\ops[i]? = some o/\o.dst=some t/\lkA (S j).env t=lkA (S (i+1)).env t)\/((∀ i o,b<=i->i<j->ops[i]? = some o->o.dst≠some t)/\lkA (S j).env t=lkA (S b).env t):=by
  intro j hbj
  induction hbj with
  | refl=>intro _ t;exact .inr ⟨λ i o hbi hi=>by omega,rfl⟩
  | @step j hbj ih=>
   intro hj t
   have hbj:b<=j:=hbj
   have hoj:=WM (show j<ops.size by omega)
   obtain ⟨g,v,hc⟩:=hcf j _ hbj (by omega) hoj
   by_cases hd:(ops[j]).dst=some t
   ·exact .inl ⟨j,_,hbj,by omega,hoj,hd,rfl⟩
   ·have hlk:lkA (S (j+1)).env t=lkA (S j).env t:=by
     rw [hc.env]
     cases hdd:(ops[j]).dst with
     | none=>rfl
     | some d=>
      simp only [putA]
      rw [AK,if_neg]
      intro e;subst e;exact hd hdd
    rcases ih (by omega) t with ⟨i,o,hbi,h1,h2,h3,h4⟩|⟨h1,h2⟩
    ·exact .inl ⟨i,o,hbi,by omega,h2,h3,by rw [Nat.succ_eq_add_one,hlk,h4]⟩
    ·refine .inr ⟨λ i o hbi hi ho=>?_,by rw [Nat.succ_eq_add_one,hlk,h2]⟩
     by_cases e:i=j
     ·subst e;rw [hoj] at ho;cases ho;exact hd
     ·exact h1 i o hbi (by omega) ho
 have hdd:∀ (i j:Nat) oi oj d,ops[i]? = some oi->ops[j]? = some oj->i≠j->oi.dst=some d->oj.dst≠some d:=λ i j oi oj d hi hj hne hd=>((hops j oj hj).2.2.2.2 i oi d hi hne hd).1
 have hval:∀ (i:Nat),b<=i->i<=m->∀ y,H7 ops.toList (S b).env (S m).env i y=Ae (S i).env y:=by
  intro i hbi hi y
  cases y with
  | tmp t=>
   simp only [H7,Ae]
   cases hany:(ops.toList.take i).any (λ o=>match o.dst with|some d=>Nat.beq d t|none=>false) with
   | true=>
    rw [cond_true]
    rw [List.any_eq_true] at hany
    obtain ⟨o,ho,hot⟩:=hany
    obtain ⟨j,hj⟩:=List.getElem?_of_mem ho
    have hji:j<i:=by have:=Ac hj;simp at this;omega
    rw [WY hji] at hj
    have hoj:ops[j]? = some o:=by simpa using hj
    have hdt:o.dst=some t:=by
     cases hdo:o.dst with
     | none=>rw [hdo] at hot;cases hot
     | some d=>rw [hdo] at hot;rw [WO hot]
    rcases WA j b with hjb|hbj
    ·have one:∀ q,b<=q->q<=m->lkA (S q).env t=lkA (S b).env t:=λ q h1 h2=>by
      rcases env_trk q h1 h2 t with ⟨k,ok',q0,q1,q2,q3,q4⟩|⟨_,q2⟩
      ·exact absurd q3 (hdd j k o ok' t hoj q2 (by omega) hdt)
      ·exact q2
     rw [one i hbi hi,one m hbm (Wz _)]
    ·have one:∀ q,j<q->q<=m->lkA (S q).env t=lkA (S (j+1)).env t:=λ q h1 h2=>by
      rcases env_trk q (by omega) h2 t with ⟨k,ok',q0,q1,q2,q3,q4⟩|⟨q1,_⟩
      ·by_cases hkj:k=j
       ·rw [q4,hkj]
       ·exact absurd q3 (hdd j k o ok' t hoj q2 (Ne.symm hkj) hdt)
      ·exact absurd hdt (q1 j o hbj h1 hoj)
     rw [one i hji hi,one m (by omega) (Wz _)]
   | false=>
    rw [cond_false]
    rcases env_trk i hbi hi t with ⟨k,ok',q0,q1,q2,q3,q4⟩|⟨_,q2⟩
    ·exfalso
     rw [List.any_eq_false] at hany
     refine hany ok' ?_ ?_
     ·apply WJ (i:=k)
      rw [WY q1]
      simpa using q2
     ·simp [q3]
    ·rw [q2]
  | _=>rfl
 have grow:∀ d i,b<=i->i+d<=m->(i+d<=x\/x<i)->∃ obs:List Ob,(S (i+d)).objs=(S i).objs++obs.map some:=by
  intro d
  induction d with
  | zero=>intro i _ _ _;exact ⟨[],by simp⟩
  | succ d ih=>
   intro i hbi hi hx
   obtain ⟨obs,ho⟩:=ih i hbi (by omega) (by omega)
   have hoi:=WM (show i+d<ops.size by omega)
   obtain ⟨g,v,hc⟩:=hcf (i+d) _ (by omega) (by omega) hoi
   have hq:D3 (ops[i+d]).op=true:=by
    obtain ⟨_,h1,h2⟩:=(hops (i+d) _ hoi).2.1 (by omega) (by omega)
    rcases h1 with h1|h1
    ·exact h1
    ·have:=h2 h1;omega
   obtain ⟨obs',ho'⟩:=(hc.quiet hq).1
   exact ⟨obs++obs',by rw [← WE,ho',ho,List.map_append,List.append_assoc]⟩
 have hnox:m<=x->∃ obs:List Ob,(S m).objs=(S b).objs++obs.map some:=λ hx=>by
  have:=grow (m-b) b (Wz _) (by omega) (.inl (by omega));rwa [show b+(m-b)=m by omega] at this
 obtain ⟨B,hBd⟩:=Nb S m
 have hload:∀ (i:Nat) o t p,b<=i->i<m->exX ops b x m i=false->ops[i]? = some o->o.op=.load t p->∃ k off c0 cm v,unG (Ae (S i).env p)=.ptr k off/\obA (S b).objs k=some (.box c0)/\obA (S m).objs k=some (.box cm)/\BF c0 off (Γ.ty t)=some v/\BF cm off (Γ.ty t)=some v/\off+(Γ.ty t).size<=c0.length/\off+(Γ.ty t).size<=cm.length:=by
  intro i o t p hbi hi hix ho hop
  obtain ⟨h1,h2⟩:=hlds
  rw [← h0] at h1 h2
  have hz:(ldL Γ.ty ops b x m (S b).env (S m).env (S b).objs)[i]? = some (ldX (Γ.ty t) (S b).objs (unG (Ae (S i).env p))):=by
   unfold ldL
   rw [WL,List.getElem?_zipIdx,hget i o hi ho]
   simp [hop,hix,hval i hbi (by omega) p]
  have hz':(ldL Γ.ty ops b x m (S b).env (S m).env (S m).objs)[i]? = some (ldX (Γ.ty t) (S m).objs (unG (Ae (S i).env p))):=by
   unfold ldL
   rw [WL,List.getElem?_zipIdx,hget i o hi ho]
   simp [hop,hix,hval i hbi (by omega) p]
  have hsome:=Wv.1 h2 _ (WJ hz)
  cases hv:ldX (Γ.ty t) (S b).objs (unG (Ae (S i).env p)) with
  | none=>rw [hv] at hsome;cases hsome
  | some v=>
   rw [h1,hz',hv] at hz
   obtain ⟨k,off,c0,e1,e2,e3,e4⟩:=PW hv
   obtain ⟨k',off',cm,f1,f2,f3,f4⟩:=PW (Option.some.inj hz)
   rw [e1] at f1
   cases f1
   exact ⟨k,off,c0,cm,v,e1,e2,f2,e3,f3,e4,f4⟩
 have hfin:∀ listed a w,DX N H0 F0 w0 Γ.nt ops b m x S listed a w->(∀ k,k<m->listed.getD k false=true)->Inv N H0 F0 w0 Γ.nt (S m) a w:=by
  intro listed a w hD hl
  obtain ⟨F,ρ,hrk,hS,hsl⟩:=hD.ex
  refine ⟨F,ρ,?_,λ t=>?_,hD.tsz,hrk.2,hD.mu,hrk.1⟩
  ·by_cases hx:x<m
   ·rw [if_pos (hl x hx)] at hS;exact hS
   ·obtain ⟨obs,ho⟩:=hnox (by omega)
    split at hS
    ·exact hS
    ·rw [ho];exact hS.grow _
  ·rcases env_trk m hbm (Wz _) t with ⟨i,o,h0,h1,h2,h3,h4⟩|⟨h1,h2⟩
   ·rw [h4];exact (hsl t).1 i o h0 h1 h2 h3 (hl i h1)
   ·rw [h2]
    exact (hsl t).2 λ i o hbi hi ho hd=>absurd hd (h1 i o hbi hi ho)
 have main:∀ (fuel:Nat) (listed:Array Bool) (a:Act) (w:World),DX N H0 F0 w0 Γ.nt ops b m x S listed a w->unl listed ops.size=fuel->wpAnyIn (GF rd) n P .any ops Qw fuel listed a w:=by
  intro fuel
  induction fuel with
  | zero=>
   intro listed a w hD hu
   have:=Ix ops.size hu m (by omega)
   have h2:=hD.last m (Wz _)
   rw [this] at h2;cases h2
  | succ fuel ih=>
   intro listed a w hD hu
   have hall:Region.ready .any ops listed=[]->∀ k,k<ops.size->listed.getD k false=true:=by
    intro hr k
    induction k using Nat.strongRecOn with
    | _ k ihk=>
     intro hk
     cases hl:listed.getD k false with
     | true=>rfl
     | false=>
      have:k∈Region.ready .any ops listed:=by
       rw [mem_ready]
       refine ⟨getD_in (by rw [hD.size];exact hk) hl,_,WM hk,λ e he hb=>?_⟩
       have hlt:=(hops k _ (WM hk)).1 e (by simpa using he) hb
       exact ihk e.on hlt (by omega)
      rw [hr] at this
      cases this
   refine ⟨λ hr=>?_,λ i hi=>?_⟩
   ·have:=hall hr m (by omega)
    have h2:=hD.last m (Wz _)
    rw [this] at h2;cases h2
   obtain ⟨hun,o,ho,hedges⟩:=mem_ready.1 hi
   have hui:=getD_both hun
   have hio:=Af ho
   have hidx:i<listed.size:=by rw [hD.size];exact hio
   have hdirect:∀ k,Region.waitsFor .any ops i k=true->listed.getD k false=true:=λ k hk=>by
    obtain ⟨o',ho',e,he,hb,hon⟩:=Region.waitsFor_spec hk
    rw [ho] at ho';cases ho'
    rw [← hon];exact hedges e he hb
   have hne:∀ k,k≠i->(listed.setIfInBounds i true).getD k false=listed.getD k false:=λ k hk=>by
    rw [WN,WN,WB (Ne.symm hk)]
   have heq:(listed.setIfInBounds i true).getD i false=true:=by simp [hidx]
   have hunl:=Kt hidx hui ops.size hio
   unfold wpOpIn
   rw [ho]
   simp only
   have hbi:b<=i:=by
    rcases WA i b with h|h
    ·rw [hD.base i h] at hui;cases hui
    ·exact h
   by_cases him:m<=i
   ·
    have him':i=m:=by
     rcases WA m i with h|h
     ·have h3:=Bc hD.closed ((hops i o ho).2.2.1 hbi h) hdirect
      rw [hD.last m (Wz _)] at h3;cases h3
     ·omega
    subst him'
    have hl:∀ k,k<i->listed.getD k false=true:=λ k hk=>by
     rcases WA k b with h|h
     ·exact hD.base k h
     ·have hr:=((hops k _ (WM (show k<ops.size by omega))).2.1 h (by omega)).1
      exact Bc hD.closed hr hdirect
    have hI':=hfin listed a w hD hl
    rw [hF] at ho
    cases ho
    refine LG hΓ rd hqr n (all:=ops) hFs hI' λ st' a' w' hq hI2=>?_
    have hfz:i+1+fuel=ops.size:=by
     have key:∀ q,q<=ops.size->unl listed q=q-i:=by
      intro q
      induction q with
      | zero=>intro _;simp [unl]
      | succ q ihq=>
       intro hq'
       simp only [unl]
       rw [ihq (by omega)]
       rcases WA q i with h|h
       ·rw [if_pos (hl q h)];omega
       ·rw [if_neg (by rw [hD.last q h];simp)];omega
     have:=key ops.size (Wz _)
     omega
    refine hQ st' a' w' _ fuel hq hI2 (by simpa using hD.size) (λ q hq'=>?_) (λ q hq'=>?_) hfz
    ·by_cases e:q=i
     ·subst e;exact heq
     ·rw [hne q e];exact hl q (by omega)
    ·rw [hne q (by omega)];exact hD.last q (by omega)
   have him:i<m:=by omega
   obtain ⟨g,v0,hc⟩:=hcf i o hbi him ho
   obtain ⟨F,ρ,hrk,hS,hsl⟩:=hD.ex
   have hrs:RS F ρ (S i).env a.tmps (Bn ops.toList o):=by
    intro t ht
    rcases env_trk i hbi (by omega) t with ⟨k,ok',h0,h1,h2,h3,h4⟩|⟨h1,h2⟩
    ·rw [h4]
     refine (hsl t).1 k ok' h0 (by omega) h2 h3 (hdirect k ?_)
     exact (((hops i o ho).2.2.2.2 k ok' t h2 (by omega) h3).2 ht).1 h1
    ·rw [h2]
     refine (hsl t).2 λ k ok' hbk hkm hk hd=>?_
     rcases Nat.lt_trichotomy k i with hlt|he|hgt
     ·exact absurd hd (h1 k ok' hbk hlt hk)
     ·rw [he];exact hui
     ·cases hl:listed.getD k false with
      | false=>rfl
      | true=>
       obtain ⟨o',ho',e,he,hb,hon⟩:=Region.waitsFor_spec ((((hops i o ho).2.2.2.2 k ok' t hk (by omega) hd).2 ht).2 hgt)
       have:=hD.closed k o' ho' hl e (by simpa using he) hb
       rw [hon,hui] at this
       cases this
   have hSl:A3 F ρ (B7 (S i).env (Bn ops.toList o)) a.tmps:=A3.ofRS hrs
   have hev:∀ y∈o.op.operands.toList,Ad F ρ (Ae (S i).env y) (a.eval y):=λ y hy=>by
    have:=Ap hSl y
    cases y with
    | tmp t=>
     simp only [Ae] at this ⊢
     rw [Fk,if_pos (by unfold Bn;exact List.mem_append_left _ (EI hy))] at this
     exact this
    | _=>exact this
   have hgd:AP ops.toList (B7 (S i).env (Bn ops.toList o)) o.guard=some g:=by
    have:=hc.gd
    unfold AP at this ⊢
    split at this
    ·exact this
    ·rename_i j want hg
     have hj:=(hops i o ho).2.2.2.1 j want hg
     have hoj:=WM (show j<ops.size by omega)
     rw [hget j _ (by omega) hoj] at this
     have hoj':ops.toList[j]? = some ops[j]:=by simp
     rw [hoj']
     simp only at this ⊢
     split at this
     ·rename_i t ht
      rw [ht]
      simp only
      rw [Fk,if_pos (by unfold Bn Gf;rw [hg];simp only [hoj',ht];simp)]
      exact this
     ·cases this
   have hw:=C9 hSl hgd
   rw [hw]
   have next:∀ (v:Value) (w':World) (F':Nat->Option Obj) (ρ':Nat->Option Loc),FLe F F'->RLe ρ ρ'->Sim N H0 F0 F' ρ' (if (listed.setIfInBounds i true).getD x false=true then (S m).objs else (S b).objs) w'.heap->(∀ d,o.dst=some d->Ad F' ρ' (lkA (S (i+1)).env d) v)->Mu w w'->wpAnyIn (GF rd) n P .any ops Qw fuel (listed.setIfInBounds i true) (a.put o.dst v) w':=by
    intro v w' F' ρ' hF' hρ' hS' hv hmu
    refine ih _ _ _ { size:=by simpa using hD.size,closed:=λ j oj hj hl e he hb=>?_,tsz:=hD.tsz.put hc.dst,mu:=hD.mu.trans hmu,last:=λ j hj=>by rw [hne j (by omega)];exact hD.last j hj,base:=λ j hj=>by rw [hne j (by omega)];exact hD.base j hj,ex:=⟨F',ρ',⟨hrk.1.mono hρ',by rw [AC];exact hrk.2.mono hF'⟩,hS',λ t=>?_⟩ } (by omega)
    ·by_cases hji:j=i
     ·subst hji
      rw [ho] at hj;cases hj
      have:=hedges e (by simpa using he) hb
      by_cases hee:e.on=j
      ·rw [hee];exact heq
      ·rw [hne _ hee];exact this
     ·rw [hne j hji] at hl
      have:=hD.closed j oj hj hl e he hb
      by_cases hee:e.on=i
      ·rw [hee];exact heq
      ·rw [hne _ hee];exact this
    ·by_cases hdt:o.dst=some t
     ·have hvl:(a.put o.dst v).tmps.getD t undef=v:=by
       have hd:=hc.dst
       rw [hdt] at hd ⊢
       have:t<a.tmps.size:=hD.tsz.lt hd
       simp [Act.put,this]
      rw [hvl]
      refine ⟨λ k ok' hbk hkm hk hd _=>?_,λ hno=>?_⟩
      ·by_cases hki:k=i
       ·subst hki;exact hv t hdt
       ·exact absurd hd (hdd i k o ok' t ho hk (Ne.symm hki) hdt)
      ·have:=hno i o hbi (by omega) ho hdt
       rw [heq] at this;cases this
     ·have hvl:(a.put o.dst v).tmps.getD t undef=a.tmps.getD t undef:=by
       cases hde:o.dst with
       | none=>rfl
       | some d=>
        have hdne:d≠t:=λ e=>hdt (by rw [hde,e])
        rw [WN,WN]
        simp only [Act.put]
        rw [WB hdne]
      rw [hvl]
      refine ⟨λ k ok' hbk hkm hk hd hl=>?_,λ hno=>?_⟩
      ·have hki:k≠i:=λ e=>by subst e;rw [ho] at hk;cases hk;exact hdt hd
       rw [hne k hki] at hl
       exact ((hsl t).1 k ok' hbk (by omega) hk hd hl).mono hF' hρ'
      ·refine ((hsl t).2 λ k ok' hbk hkm hk hd=>?_).mono hF' hρ'
       have hki:k≠i:=λ e=>by subst e;rw [ho] at hk;cases hk;exact hdt hd
       have:=hno k ok' hbk (by omega) hk hd
       rwa [hne k hki] at this
   have hput:∀ (F':Nat->Option Obj) (ρ':Nat->Option Loc) (v:Value) d,o.dst=some d->Ad F' ρ' (bif o.guard.isSome then .gv g v0 else v0) v->Ad F' ρ' (lkA (S (i+1)).env d) v:=λ F' ρ' v d hd hv=>by
    rw [hc.env,hd]
    simp only [putA]
    rw [AK,if_pos rfl];exact hv
   by_cases hix:i=x
   ·subst hix
    have hcall:Cr o.op=true:=hxc o ho
    rw [hui] at hS
    simp only [WS,if_false] at hS
    obtain ⟨obs0,hobs0⟩:=grow (i-b) b (Wz _) (by omega) (.inl (by omega))
    rw [show b+(i-b)=i by omega] at hobs0
    obtain ⟨obs1,hobs1⟩:=grow (m-(i+1)) (i+1) (by omega) (by omega) (.inr (by omega))
    rw [show i+1+(m-(i+1))=m by omega] at hobs1
    cases g with
    | false=>
     rw [if_neg (by simp)]
     refine ⟨λ _ _=>trivial,?_⟩
     obtain ⟨obs2,hobs2⟩:=(hc.call hcall).1 rfl
     have hgs:o.guard.isSome=true:=by
      cases hgo:o.guard with
      | some y=>rfl
      | none=>have:=hc.gd;rw [hgo] at this;cases this
     refine next undef w F ρ (FLe.refl _) (RLe.refl _) ?_ (λ d hd=>hput F ρ _ d hd (by rw [hgs];exact .gvF _)) (Mu.refl w)
     rw [heq,if_pos rfl,hobs1,hobs2,hobs0]
     exact ((hS.grow _).grow _).grow _
    | true=>
     rw [if_pos rfl]
     let f:Nat->AV:=λ t=>@dite _ (∃ k ok',b<=k/\k<m/\ops[k]? = some ok'/\ok'.dst=some t/\listed.getD k false=true) (Classical.propDecidable _) (λ h=>lkA (S (Classical.choose h+1)).env t) λ _=>lkA (S b).env t
     have hf1:∀ k ok' t,b<=k->k<m->ops[k]? = some ok'->ok'.dst=some t->listed.getD k false=true->f t=lkA (S (k+1)).env t:=λ k ok' t h0 h1 h2 h3 h4=>by
      have hex:∃ k ok',b<=k/\k<m/\ops[k]? = some ok'/\ok'.dst=some t/\listed.getD k false=true:=⟨k,ok',h0,h1,h2,h3,h4⟩
      have e:f t=lkA (S (Classical.choose hex+1)).env t:=dif_pos hex
      rw [e]
      obtain ⟨ok2,q0,q1,q2,q3,q4⟩:=Classical.choose_spec hex
      by_cases hkk:Classical.choose hex=k
      ·rw [hkk]
      ·exact absurd h3 (hdd _ k ok2 ok' t q2 h2 hkk q3)
     have hf0:∀ t,(∀ (k:Nat) ok',b<=k->k<m->ops[k]? = some ok'->ok'.dst=some t->listed.getD k false=false)->f t=lkA (S b).env t:=λ t hno=>by
      have hnex:¬∃ k ok',b<=k/\k<m/\ops[k]? = some ok'/\ok'.dst=some t/\listed.getD k false=true:=by
       rintro ⟨k,ok',h0,h1,h2,h3,h4⟩
       rw [hno k ok' h0 h1 h2 h3] at h4;cases h4
      exact dif_neg hnex
     have hfc:∀ t,(∃ k ok',b<=k/\k<m/\ops[k]? = some ok'/\ok'.dst=some t/\listed.getD k false=true)\/∀ (k:Nat) ok',b<=k->k<m->ops[k]? = some ok'->ok'.dst=some t->listed.getD k false=false:=λ t=>by
      rcases Classical.em (∃ k ok',b<=k/\k<m/\ops[k]? = some ok'/\ok'.dst=some t/\listed.getD k false=true) with h|h
      ·exact .inl h
      ·refine .inr λ k ok' h0 h1 h2 h3=>?_
       cases hl:listed.getD k false with
       | false=>rfl
       | true=>exact absurd ⟨k,ok',h0,h1,h2,h3,hl⟩ h
     have hfB:∀ t,B<=t->f t=.top:=λ t ht=>by
      rcases hfc t with ⟨k,ok',h0,h1,h2,h3,h4⟩|hno
      ·rw [hf1 k ok' t h0 h1 h2 h3 h4];exact hBd (k+1) (by omega) t ht
      ·rw [hf0 t hno];exact hBd b (by omega) t ht
     have hlk:=RX f B hfB
     have hSlE:A3 F ρ ((List.range B).map λ t=>(t,f t)) a.tmps:=λ t=>by
      rw [hlk]
      rcases hfc t with ⟨k,ok',h0,h1,h2,h3,h4⟩|hno
      ·rw [hf1 k ok' t h0 h1 h2 h3 h4];exact (hsl t).1 k ok' h0 h1 h2 h3 h4
      ·rw [hf0 t hno];exact (hsl t).2 hno
     have hfr:∀ t∈Bn ops.toList o,f t=lkA (S i).env t:=λ t ht=>by
      rcases env_trk i hbi (by omega) t with ⟨k,ok',h0,h1,h2,h3,h4⟩|⟨h1,h2⟩
      ·rw [h4]
       exact hf1 k ok' t h0 (by omega) h2 h3 (hdirect k ((((hops i o ho).2.2.2.2 k ok' t h2 (by omega) h3).2 ht).1 h1))
      ·rw [h2]
       refine hf0 t λ k ok' hbk hkm hk hd=>?_
       rcases Nat.lt_trichotomy k i with hlt|he|hgt
       ·exact absurd hd (h1 k ok' hbk hlt hk)
       ·rw [he];exact hui
       ·cases hl:listed.getD k false with
        | false=>rfl
        | true=>
         obtain ⟨o',ho',e,he,hb,hon⟩:=Region.waitsFor_spec ((((hops i o ho).2.2.2.2 k ok' t hk (by omega) hd).2 ht).2 hgt)
         have:=hD.closed k o' ho' hl e (by simpa using he) hb
         rw [hon,hui] at this
         cases this
     have hext:=(hc.call hcall).2 rfl ((List.range B).map λ t=>(t,f t)) λ y hy=>by
      cases y with
      | tmp t=>
       simp only [Ae]
       rw [hlk,hfr t (by unfold Bn;exact List.mem_append_left _ (EI hy))]
      | _=>rfl
     have hSx:Sim N H0 F0 F ρ (S i).objs w.heap:=by rw [hobs0];exact hS.grow _
     refine hΓ.ext _ _ _ _ _ hext N H0 F0 w0 a w rfl ⟨F,ρ,hSx,hSlE,hD.tsz,hrk.2,hD.mu,hrk.1⟩ hc.dst rd n _ _ hqr λ a' w' hI'=>?_
     obtain ⟨F',ρ',hS',hSl',hts',hdf',hmu',hrk'⟩:=hI'
     have hslot:∀ t,Ad F' ρ' (if o.dst=some t then lkA (S (i+1)).env t else f t) (a'.tmps.getD t undef):=λ t=>by
      have:=hSl' t
      cases hd:o.dst with
      | none=>rw [hd] at this;simp only [putA] at this;rw [hlk] at this;simpa using this
      | some d=>
       rw [hd] at this
       simp only [putA] at this
       rw [AK,hlk] at this
       by_cases e:d=t
       ·subst e
        rw [if_pos rfl] at this ⊢
        rw [hc.env,hd]
        simp only [putA]
        rw [AK,if_pos rfl];exact this
       ·rw [if_neg e] at this
        rw [if_neg (λ h=>e (Option.some.inj h))];exact this
     refine ih _ _ _ { size:=by simpa using hD.size,closed:=λ j oj hj hl e he hb=>?_,tsz:=hts',mu:=hmu',last:=λ j hj=>by rw [hne j (by omega)];exact hD.last j hj,base:=λ j hj=>by rw [hne j (by omega)];exact hD.base j hj,ex:=⟨F',ρ',⟨hrk',hdf'⟩,by rw [heq,if_pos rfl,hobs1];exact hS'.grow _,λ t=>?_⟩ } (by omega)
     ·by_cases hji:j=i
      ·subst hji
       rw [ho] at hj;cases hj
       have:=hedges e (by simpa using he) hb
       by_cases hee:e.on=j
       ·rw [hee];exact heq
       ·rw [hne _ hee];exact this
      ·rw [hne j hji] at hl
       have:=hD.closed j oj hj hl e he hb
       by_cases hee:e.on=i
       ·rw [hee];exact heq
       ·rw [hne _ hee];exact this
     ·have hs:=hslot t
      by_cases hdt:o.dst=some t
      ·rw [if_pos hdt] at hs
       refine ⟨λ k ok' hbk hkm hk hd _=>?_,λ hno=>?_⟩
       ·by_cases hki:k=i
        ·subst hki;exact hs
        ·exact absurd hd (hdd i k o ok' t ho hk (Ne.symm hki) hdt)
       ·have:=hno i o hbi (by omega) ho hdt
        rw [heq] at this;cases this
      ·rw [if_neg hdt] at hs
       refine ⟨λ k ok' hbk hkm hk hd hl=>?_,λ hno=>?_⟩
       ·have hki:k≠i:=λ e=>by subst e;rw [ho] at hk;cases hk;exact hdt hd
        rw [hne k hki] at hl
        rw [← hf1 k ok' t hbk (by omega) hk hd hl];exact hs
       ·rw [hf0 t λ k ok' hbk hkm hk hd=>by
         have hki:k≠i:=λ e=>by subst e;rw [ho] at hk;cases hk;exact hdt hd
         have:=hno k ok' hbk (by omega) hk hd
         rwa [hne k hki] at this] at hs
        exact hs
   ·
    have hq:D3 o.op=true:=by
     obtain ⟨_,h1,h2⟩:=(hops i o ho).2.1 hbi (by omega)
     rcases h1 with h1|h1
     ·exact h1
     ·exact absurd (h2 h1) hix
    have hSn:Sim N H0 F0 F ρ (if (listed.setIfInBounds i true).getD x false=true then (S m).objs else (S b).objs) w.heap:=by
     rw [hne x (λ e=>hix e.symm)];exact hS
    cases g with
    | false=>
     rw [if_neg (by simp)]
     have hgs:o.guard.isSome=true:=by
      cases hgo:o.guard with
      | some y=>rfl
      | none=>have:=hc.gd;rw [hgo] at this;cases this
     exact ⟨λ _ _=>trivial,next undef w F ρ (FLe.refl _) (RLe.refl _) hSn (λ d hd=>hput F ρ _ d hd (by rw [hgs];exact .gvF _)) (Mu.refl w)⟩
    | true=>
     rw [if_pos rfl]
     obtain ⟨e,he,hgob,hob,rfl⟩:=(hc.quiet hq).2 rfl
     have hevu:∀ y∈o.op.operands.toList,Ad F ρ (unG (Ae (S i).env y)) (a.eval y):=λ y hy=>AT rfl _ hgob _ (List.mem_map_of_mem hy) _ (hev y hy)
     have hrun:∃ v,(execOp a.eval o).run P w=.ok (.value v) w/\Ad F ρ e.v v:=by
      cases hmo:BO o.op with
      | false=>
       rw [Gm _ hmo (CZ hq).2] at he
       exact (Bz hΓ.ty hS (λ k ob h=>by simp [obA] at h) o (CZ hq).1 he hob hevu).2
      | true=>
       have hok:∀ t p,o.op=.load t p->(Γ.ty t).ok=true:=λ t p hop=>by
        rw [hop] at he
        simp only [opA] at he
        cases hk:(Γ.ty t).ok with
        | true=>rfl
        | false=>rw [hk] at he;cases he
       by_cases hlx:listed.getD x false=true
       ·have hxm:x<m:=by
         rcases Nat.lt_trichotomy x m with h1|h1|h1
         ·exact h1
         ·subst h1;have:=hD.last x (Wz _);rw [hlx] at this;cases this
         ·have:=hD.last x (by omega);rw [hlx] at this;cases this
        rw [if_pos hlx] at hS
        by_cases hxi:x<i
        ·obtain ⟨obs,ho2⟩:=grow (m-i) i hbi (by omega) (.inr hxi)
         rw [show i+(m-i)=m by omega] at ho2
         obtain ⟨t,p,hop⟩:=F8 hq hmo
         rw [hop] at he
         have he':=PX (obs.map some) he
         rw [← ho2] at he'
         exact (Bz hΓ.ty hS (λ _ _ h=>h) o (CZ hq).1 (by rw [hop];exact he') hob hevu).2
        ·have hex:exX ops b x m i=false:=PY hbi hix (by omega) (λ _ ht=>by
          have:=Bc hD.closed (BB _ _ _ ht) λ k hk=>by
           obtain ⟨o',ho',e,he,hb,hon⟩:=Region.waitsFor_spec hk
           rw [← hon]
           exact hD.closed x o' ho' hlx e (by simpa using he) hb
          rw [hui] at this;cases this) λ h=>absurd h hxi
         obtain ⟨t,p,hop⟩:=F8 hq hmo
         obtain ⟨k,off,c0,cm,v,q1,q2,q3,q4,q5,q6,q7⟩:=hload i o t p hbi him hex ho hop
         obtain ⟨obs,ho2⟩:=grow (i-b) b (Wz _) (by omega) (.inl (by omega))
         rw [show b+(i-b)=i by omega] at ho2
         have hev':=Gr (Γ:=Γ.ty) (t:=t) (a:=p) (ev:=λ y=>unG (Ae (S i).env y)) (hok t p hop) q1 (show obA (S i).objs k=some (.box c0) by rw [ho2,Al,if_pos (Aq q2)];exact q2) q4
         rw [hop,hev'] at he
         cases he
         exact (Bz hΓ.ty hS (λ _ _ h=>h) o (CZ hq).1 (ev:=λ y=>unG (Ae (S i).env y)) (e:=⟨v,[],[],none,off+(Γ.ty t).size<=cm.length⟩) (by rw [hop];exact Gr (hok t p hop) q1 q3 q5) q7 hevu).2
       ·rw [if_neg hlx] at hS
        by_cases hxi:i<x
        ·obtain ⟨obs,ho2⟩:=grow (i-b) b (Wz _) (by omega) (.inl (by omega))
         rw [show b+(i-b)=i by omega] at ho2
         have hSi:=hS.grow (obs.map some)
         rw [← ho2] at hSi
         exact (Bz hΓ.ty hSi (λ _ _ h=>h) o (CZ hq).1 he hob hevu).2
        ·have hex:exX ops b x m i=false:=PY hbi hix (by omega) (λ h=>absurd h hxi) λ _ ht=>hlx (Bc hD.closed (BB _ _ _ ht) hdirect)
         obtain ⟨t,p,hop⟩:=F8 hq hmo
         obtain ⟨k,off,c0,cm,v,q1,q2,q3,q4,q5,q6,q7⟩:=hload i o t p hbi him hex ho hop
         obtain ⟨obs,ho2⟩:=grow (m-i) i hbi (by omega) (.inr (by omega))
         rw [show i+(m-i)=m by omega] at ho2
         have hki:k<(S i).objs.length:=by
          rw [hop] at he
          simp only [opA,hok t p hop,cond_true,q1,Ci] at he
          split at he
          ·rename_i cells hcs;exact Aq hcs
          ·cases he
         have q3':=q3
         rw [ho2,Al,if_pos hki] at q3'
         have hev':=Gr (Γ:=Γ.ty) (t:=t) (a:=p) (ev:=λ y=>unG (Ae (S i).env y)) (hok t p hop) q1 q3' q5
         rw [hop,hev'] at he
         cases he
         exact (Bz hΓ.ty hS (λ _ _ h=>h) o (CZ hq).1 (ev:=λ y=>unG (Ae (S i).env y)) (e:=⟨v,[],[],none,off+(Γ.ty t).size<=c0.length⟩) (by rw [hop];exact Gr (hok t p hop) q1 q2 q4) q6 hevu).2
     obtain ⟨v,hv,hr⟩:=hrun
     refine Cv (λ c hcd=>by rw [hcd] at hq;cases hq) ?_
     unfold Oper.wp
     rw [hv,Oper.upon_value]
     refine next v w F ρ (FLe.refl _) (RLe.refl _) hSn (λ d hd=>hput F ρ _ d hd ?_) (Mu.refl w)
     cases o.guard.isSome with
     | false=>exact hr
     | true=>exact .gvT _ _ hr
 obtain ⟨F,ρ,hS,hSl,hts,hdf⟩:=hI
 refine main (ops.size-b) _ a _ { size:=hs0,closed:=λ j oj hj hl e he hb=>?_,tsz:=hts,mu:=hdf.2.1,last:=λ j hj=>hl1 j (by omega),base:=hl0,ex:=⟨F,ρ,⟨hdf.2.2,hdf.1⟩,by rw [hl1 x hbx,h0];exact hS,λ t=>⟨λ i o hbi _ _ _ hl=>(by rw [hl1 i hbi] at hl;cases hl),λ _=>by rw [h0];exact hSl t⟩⟩ } ?_
 ·have hjb:j<b:=by
   rcases WA j b with h|h
   ·exact h
   ·rw [hl1 j h] at hl;cases hl
  exact hl0 _ (Nat.lt_trans ((hops j oj hj).1 e he hb) hjb)
 ·have:∀ q,unl listed0 q=q-b:=by
   intro q
   induction q with
   | zero=>simp [unl]
   | succ q ihq=>
    simp only [unl]
    rw [ihq]
    rcases WA q b with h|h
    ·rw [if_pos (hl0 q h)];omega
    ·rw [if_neg (by rw [hl1 q h];simp)];omega
  exact this _
theorem RY {Γ:Cx} (hΓ:CG P Γ) (rd:Option Nat) (hqr:Γ.nt.qf≠[]->rd=none) (n:Nat) {ops:Array Oper} {Q:St->Prop} {Qw:Exit->Act->World->Prop} (hQ:∀ st' a' w',Q st'->Inv N H0 F0 w0 Γ.nt st' a' w'->Qw .normal a' w'):∀ (f b:Nat) (st:St) (a:Act) (w:World) (listed:Array Bool),phX Γ ops Q f b st->Inv N H0 F0 w0 Γ.nt st a w->listed.size=ops.size->(∀ k,k<b->listed.getD k false=true)->(∀ k,b<=k->listed.getD k false=false)->wpAnyIn (GF rd) n P .any ops Qw (ops.size-b) listed a w:=by
 have done:∀ (b:Nat) (st:St) (a:Act) (w:World) (listed:Array Bool),b=ops.size->Q st->Inv N H0 F0 w0 Γ.nt st a w->(∀ k,k<b->listed.getD k false=true)->wpAnyIn (GF rd) n P .any ops Qw (ops.size-b) listed a w:=by
  intro b st a w listed hb hq hI hl
  subst hb
  rw [Nat.sub_self]
  refine ⟨?_,hQ st a w hq hI⟩
  rw [List.eq_nil_iff_forall_not_mem]
  intro k hk
  obtain ⟨h1,o',ho',_⟩:=mem_ready.1 hk
  have hk':=Af ho'
  have:=getD_both h1
  rw [hl k hk'] at this;cases this
 intro f
 induction f with
 | zero=>intro b st a w listed h hI hs h1 h2;exact done b st a w listed h.1 h.2 hI h1
 | succ f ih=>
  intro b st a w listed h hI hs h1 h2
  rcases h with h|⟨x,m,hbm,hB,h⟩
  ·exact done b st a w listed h.1 h.2 hI h1
  ·refine PZ hΓ rd hqr n hB h hI hs h1 h2 λ st' a' w' listed' fuel hq hI' q1 q2 q3 q4=>?_
   have:=ih (m+1) st' a' w' listed' hq hI' q1 q2 q3
   rwa [show ops.size-(m+1)=fuel by omega] at this
theorem P0 {Γ:Cx} (hΓ:CG P Γ) (rd:Option Nat) (hqr:Γ.nt.qf≠[]->rd=none) (n:Nat) {ops:Array Oper} {Q:St->Prop} {st:St} {a:Act} (h:UP Γ ops Q st) (hI:Inv N H0 F0 w0 Γ.nt st a w)
  {Qw:Exit->Act->World->Prop} (hQ:∀ st' a' w',Q st'->Inv N H0 F0 w0 Γ.nt st' a' w'->Qw .normal a' w'):wpAnyIn (GF rd) n P .any ops Qw ops.size (Array.replicate ops.size false) a { w with drawn:=w.drawn+1 }:=by
 obtain ⟨f,h⟩:=h
 obtain ⟨F,ρ,hS,hSl,hts,hdf⟩:=hI
 have hz:∀ k,(Array.replicate ops.size false).getD k false=false:=λ k=>getD_replicate_false _ _
 exact RY hΓ rd hqr n hQ f 0 st a _ _ h ⟨F,ρ,hS,hSl,hts,hdf.1,hdf.2.1.draw,hdf.2.2⟩ (by simp) (λ k hk=>by omega) (λ k _=>hz k)
end Go.AI
end
section
namespace Go.AI
variable {P:Program} {F F':Nat->Option Obj} {ρ ρ':Nat->Option Loc} {N:Nat->Prop} {H0 F0:Nat->Option Obj} {O objs:List (Option Ob)} {w:World} {w0:W0}
theorem Gs {Γ:Cx} (hfol:P.follows .mixedOrders=true) (hΓ:CG P Γ) {rd:Option Nat} (hrd:Γ.rd=rd.isSome):∀ (c:Code) (Q:Ex->St->Prop) (st:St) (a:Act) (w:World),wpA Γ c Q st->Inv N H0 F0 w0 Γ.nt st a w->c.wpIn (GF rd) 0 P (Hz N H0 F0 w0 Γ.nt Q) a w:=by
 have hqr:Γ.nt.qf≠[]->rd=none:=λ hne=>by
  cases rd with
  | none=>rfl
  | some r=>exact absurd (hΓ.rq hrd) hne
 intro c
 induction c with
 | skip=>intro Q st a w h hI;exact wpIn_skip ⟨.normal,st,rfl,h,hI⟩
 | region id ops draw=>
  intro Q st a w h hI
  obtain ⟨s1,hsh,h|⟨hdr,h⟩|⟨hdr,h⟩⟩:=h
  rotate_left
  ·subst hdr
   exact wpIn_region_any hfol (P0 hΓ rd hqr 0 h (Bp rfl hsh hI) λ st' a' w' hq hI'=>⟨.normal,st',rfl,hq,hI'⟩)
  ·subst hdr
   exact wpIn_region_list (PI hΓ rd hqr 0 h (Bp rfl hsh hI) λ st' a' w' hq hI'=>⟨.normal,st',rfl,hq,hI'⟩)
  replace hI:=Bp rfl hsh hI
  cases draw with
  | false=>exact wpIn_region_list (NN hΓ rd hqr 0 ops.toList _ s1 a w h hI λ st' a' w' hq hI'=>⟨.normal,st',rfl,hq.2,hI'⟩)
  | true=>
   have hnd:∀ o∈ops.toList,ndB o.op=true:=by
    obtain ⟨S,_,_,hQS⟩:=DC _ _ _ h
    exact (La hQS.1).2
   have hQ:¬LetsOut (Hz N H0 F0 w0 Γ.nt Q):=by
    rintro ⟨a,w,e',st',h1,_⟩
    cases e'<;>cases h1
   refine wpIn_region_any hfol (MW hQ hnd _ _ _ _ ?_)
   cases hB:Hk ops with
   | true=>exact MZ (Q:=λ s=>H8 true ops s1.env s.env=true/\Q .normal s) hΓ hB h hI λ st' a' w' hq hI'=>⟨.normal,st',rfl,hq.2,hI'⟩
   | false=>exact LW hΓ hB h hI λ st' a' w' hq hI'=>⟨.normal,st',rfl,hq,hI'⟩
 | seq x y ihx ihy=>
  intro Q st a w h hI
  refine wpIn_seq (wpIn_mono (ihx _ st a w h hI) λ e a' w' hp=>?_)
  obtain ⟨e',st',rfl,hq,hI'⟩:=hp
  cases e' with
  | normal=>
   obtain ⟨s1,hsh,hq⟩:=hq
   exact ihy Q s1 a' w' hq (Bp rfl hsh hI')
  | exit i=>exact ⟨.exit i,st',rfl,hq,hI'⟩
  | ret=>exact ⟨.ret,st',rfl,hq,hI'⟩
 | cond c x y ihx ihy=>
  intro Q st a w h hI
  obtain ⟨F,ρ,hS,hSl,hn,hdf⟩:=hI
  simp only [wpA] at h
  unfold NF at h
  split at h
  ·rename_i t ht
   have hc:=Ap hSl c
   rw [ht] at hc
   refine wpIn_cond_split hc.bool (λ e=>ihx Q st a w (h.1 e) ⟨F,ρ,hS,hSl,hn,hdf⟩) (λ e=>ihy Q st a w (h.2 e) ⟨F,ρ,hS,hSl,hn,hdf⟩)
  ·exact h.elim
 | block id c ih=>
  intro Q st a w h hI
  refine wpIn_block (wpIn_mono (ih _ st a w h hI) λ e a' w' hp=>?_)
  obtain ⟨e',st',rfl,hq,hI'⟩:=hp
  cases e' with
  | normal=>exact ⟨.normal,st',rfl,hq,hI'⟩
  | ret=>exact ⟨.ret,st',rfl,hq,hI'⟩
  | exit i=>
   simp only [Ew] at hq
   show if i=id then _ else _
   cases hb:Nat.beq i id with
   | true=>
    rw [hb,cond_true] at hq
    rw [if_pos (WO hb)]
    exact ⟨.normal,st',rfl,hq,hI'⟩
   | false=>
    rw [hb,cond_false] at hq
    have hne:i≠id:=λ e=>by subst e;simp at hb
    rw [if_neg hne]
    exact ⟨.exit i,st',rfl,hq,hI'⟩
 | loop c ih=>
  intro Q st a w h hI
  obtain ⟨I,n,⟨s0,hsh0,h0⟩,hround⟩:=h
  have key:∀ (k m:Nat) (st:St) (a:Act) (w:World),m<k->I m st->Inv N H0 F0 w0 Γ.nt st a w->Code.roundsIn (GF rd) 0 P c (Hz N H0 F0 w0 Γ.nt Q) k a w:=by
   intro k
   induction k with
   | zero=>intro m st a w hm;omega
   | succ k ihk=>
    intro m st a w hm hIm hI
    refine wpIn_mono (ih _ st a w (hround m st hIm) hI) λ e a' w' hp=>?_
    obtain ⟨e',st',rfl,hq,hI'⟩:=hp
    cases e' with
    | normal=>
     obtain ⟨m',s1,hm',hsh,hq⟩:=hq
     exact ihk m' s1 a' w' (by omega) hq (Bp rfl hsh hI')
    | exit i=>exact ⟨.exit i,st',rfl,hq,hI'⟩
    | ret=>exact ⟨.ret,st',rfl,hq,hI'⟩
  exact wpIn_loop_rounds (n+1) (key (n+1) n s0 a w (by omega) h0 (Bp rfl hsh0 hI))
 | exit id=>intro Q st a w h hI;exact wpIn_exit ⟨.exit id,st,rfl,h,hI⟩
 | ret=>intro Q st a w h hI;exact wpIn_ret ⟨.ret,st,rfl,h,hI⟩
 | scope c ih=>
  intro Q st a w h hI
  refine FK (wpIn_mono (ih Q st a w h hI) λ e a' w' hp=>?_)
  obtain ⟨e',st',rfl,hq,hI'⟩:=hp
  cases e'<;>exact ⟨_,st',rfl,hq,hI'⟩
 | label l=>intro Q st a w h hI;exact wpIn_label ⟨.normal,st,rfl,h,hI⟩
 | rangeFunc g ps asg body=>
  intro Q st a w h hI
  obtain ⟨s1,hsh,h⟩:=h
  rcases h with h|h
  ·exact LY hΓ hrd h (Bp rfl hsh hI)
  ·exact KD hΓ hrd h (Bp rfl hsh hI)
 | _=>intro Q st a w h;exact h.elim
def OP (Γ:Nat->Ty) (st:St):ResultVar->Option (AV×Prop)
 | .tmp t=>some (lkA st.env t,True)
 | .cell a t=>bif (Γ t).ok then (match Ci (Γ t) st.objs (lkA st.env a) with
  | some e=>some (e.v,e.ob)
  | none=>none) else none
def IK (Γ:Nat->Ty) (st:St):List ResultVar->Option (List AV×Prop)
 | []=>some ([],True)
 | r::rs=>match OP Γ st r,IK Γ st rs with
  | some (v,p),some (vs,q)=>some (v::vs,p/\q)
  | _,_=>none
def OQ (Γ:Nat->Ty) (rs:List ResultVar) (r:AV) (st:St):Prop:=
 match IK Γ st rs with
 | some ([v],p)=>p/\Iz st.objs v r/\(ksE (FL v r)).Nodup
 | some (vs,p)=>match r with
  | .tup l=>p/\PM st.objs vs l/\(ksE (IA vs l)).Nodup
  | _=>False
 | none=>False
def LZ (Γ:Nat->Ty) (rs:List ResultVar) (r:AV):Ex->St->Prop
 | .exit _,_=>False
 | _,st=>OQ Γ rs r st
def OR (tmps:Array Value):ResultVar->Sem Value
 | .tmp t=>pure (tmps.getD t undef)
 | .cell a t=>do loadVar t (← asAddr (tmps.getD a undef))
theorem IL (fn:Func) (tmps:Array Value):results fn tmps=(do let vs ← fn.results.mapM (OR tmps);pure (if h:vs.size=1 then vs[0] else .tuple vs)):=by
 rfl
theorem Nc {Γ:Nat->Ty} (hΓ:Ez P Γ) {st:St} {tmps:Array Value} (hS:Sim N H0 F0 F ρ st.objs w.heap) (hSl:A3 F ρ st.env tmps) {r:ResultVar} {v:AV} {p:Prop} (h:OP Γ st r=some (v,p)) (hp:p) :
  ∃ x,(OR tmps r).run P w=.ok x w/\Ad F ρ v x:=by
 cases r with
 | tmp t=>simp only [OP,WR,Prod.mk.injEq] at h;obtain ⟨rfl,rfl⟩:=h;exact ⟨_,rfl,hSl t⟩
 | cell a t=>
  simp only [OP] at h
  cases hok:(Γ t).ok with
  | false=>rw [hok] at h;cases h
  | true=>
   rw [hok,cond_true] at h
   split at h
   ·rename_i e he
    simp only [WR,Prod.mk.injEq] at h
    obtain ⟨rfl,rfl⟩:=h
    obtain ⟨_,_,_,x,hx,hr⟩:=Hm (hΓ t hok) hS (λ _ _ h=>h) he hp (hSl a)
    refine ⟨x,?_,hr⟩
    simp only [Instr.loadAt,OR,Ws] at hx ⊢
    cases hv:tmps.getD a undef with
    | pointer q=>
     cases q with
     | none=>rw [hv] at hx;simp [Instr.sureAddr] at hx
     | some q=>rw [hv] at hx;simpa [Instr.sureAddr,asAddr] using hx
    | _=>rw [hv] at hx;simp [Instr.sureAddr] at hx
   ·cases h
theorem DO {Γ:Nat->Ty} (hΓ:Ez P Γ) {st:St} {tmps:Array Value} (hS:Sim N H0 F0 F ρ st.objs w.heap) (hSl:A3 F ρ st.env tmps):∀ (rs:List ResultVar) (vs:List AV) (p:Prop),IK Γ st rs=some (vs,p)->p ->
  ∃ xs:List Value,(rs.mapM (OR tmps)).run P w=.ok xs w/\CR F ρ vs xs:=by
 intro rs
 induction rs with
 | nil=>intro vs p h _;cases h;exact ⟨[],rfl,rfl,λ i a v ha=>by simp at ha⟩
 | cons r rs ih=>
  intro vs p h hp
  simp only [IK] at h
  split at h
  ·rename_i v p1 vs' q h1 h2
   cases h
   obtain ⟨x,hx,hr⟩:=Nc hΓ hS hSl h1 hp.1
   obtain ⟨xs,hxs,hc⟩:=ih vs' q h2 hp.2
   refine ⟨x::xs,?_,by simp [hc.1],λ i a u ha hu=>?_⟩
   ·rw [List.mapM_cons]
    simp only [Ws,hx,Wq,hxs,Wt]
   ·cases i with
    | zero=>simp at ha hu;subst ha;subst hu;exact hr
    | succ i=>exact hc.2 i a u (by simpa using ha) (by simpa using hu)
  ·cases h
theorem OS {Γ:Cx} (hfol:P.follows .mixedOrders=true) (hΓ:CG P Γ) (hrd:Γ.rd=false) {f:FuncId} {fn:Func} {c:Code} {args:List AV} {r:AV} (hf:P.funcs[f]? = some fn) (hb:fn.body=some c) (hnm:(fn.name == "runtime.NumGoroutine")=false)
  (hnt:Γ.nt.n=fn.ntmps) (hlen:args.length<=fn.ntmps) (h:wpA Γ c (LZ Γ.ty fn.results.toList r) ⟨(List.range args.length).zip args,[]⟩):AB P f args r:=by
 refine ⟨⟨fn,c,hf,hb,hnm⟩,λ F w vs hvs hF=>?_⟩
 have hvl:args.length=vs.size:=by have:=hvs.1;simpa using this
 refine callsIn_wide.1 (callsIn_of_wp_marks (F:=Fence.wide) (n:=0) hf hb trivial ?_ rfl)
 have hS:Sim (λ b=>w.heap.size<=b) (λ b=>w.heap[b]?) F F noR [] w.heap:={ size:=λ b hb=>hb,old:=λ b _=>rfl,f0:=FLe.refl _,fnew:=λ b o h _=>h,frz:=hF,loc:=λ k L h=>by simp [noR] at h,dom:=λ k L h=>by simp [noR] at h,obj:=λ k L ob h=>by simp [noR] at h,sep:=λ k k' L L' ob ob' h=>by simp [noR] at h,inn:=⟨λ _ _=>none,⟨(λ k c M h=>by cases h),(λ k c M k' L ob h=>by cases h),(λ k c M k' c' M' h=>by cases h),(λ k L sz es h=>by simp [noR] at h)⟩⟩ }
 have hSl:A3 F noR ((List.range args.length).zip args) (vs++Array.replicate (fn.ntmps-vs.size) undef):=by
  intro t
  rcases Ko (List.range args.length) args t (by simp) with h|⟨i,a,h1,h2,h3⟩
  ·rw [h];exact .top _
  ·rw [h3]
   have hi:=Ac h2
   have:i=t:=by
    rw [List.getElem?_range hi] at h1
    exact Option.some.inj h1
   subst this
   have hv:vs[i]? = some vs[i]:=WM (by omega)
   have:(vs++Array.replicate (fn.ntmps-vs.size) undef).getD i undef=vs[i]:=by
    rw [WN,Array.getElem?_append_left (by omega),hv];rfl
   rw [this]
   exact hvs.2 i a _ h2 (by simp)
 refine wpIn_mono (Gs (rd:=none) (hrd:=hrd) (w0:=⟨w,λ _=>none,λ _=>none⟩) hfol hΓ c _ _ _ w h ⟨F,noR,hS,hSl,⟨by simp [hnt];omega,λ t v h=>by cases h⟩,Dfr.nil,Mu.refl w,λ j L h=>by cases h⟩) λ e a' w' hp=>?_
 obtain ⟨e',st',rfl,hq,F',ρ',hS',hSl',hn',hdf'⟩:=hp
 obtain ⟨l,hl1,hl2,hl3⟩:=hdf'.1
 have hF0:∀ b,w.heap.size<=b->F b=none:=λ b hb=>by
  cases hf:F b with
  | none=>rfl
  | some o=>have:=Af (hF b o hf);omega
 have fin:OQ Γ.ty fn.results.toList r st'->LeavesInM Fence.wide 0 P fn a'.tmps (λ e w'=>∃ v F' ρ,e=.returned v/\Sim (λ b=>w.heap.size<=b) (λ b=>w.heap[b]?) F F' ρ ((AX true 0 r).2.map some) w'.heap/\Ad F' ρ (AX true 0 r).1 v/\Mu w w') a'.defers .returning w':=by
  intro hr
  refine HA (w0:=⟨w,λ _=>none,λ _=>none⟩) hΓ.qf (λ b hb=>hb) hF0 hl1 F' w' hl2 hl3 hS' λ F'' w'' hFc hS'' hmu''=>?_
  replace hSl':A3 F'' ρ' st'.env a'.tmps:=λ t=>(hSl' t).monoC hFc (RLe.refl _)
  have hmu:Mu w w'':=hdf'.2.1.trans hmu''
  clear hS' hl3
  revert hS'' hSl'
  generalize F''=F'
  generalize w''=w' at hmu ⊢
  intro hS' hSl'
  unfold OQ at hr
  have hmap:∀ (xs:List Value),(fn.results.toList.mapM (OR a'.tmps)).run P w'=.ok xs w'->(results fn a'.tmps).run P w'=.ok (if h:xs.toArray.size=1 then xs.toArray[0] else .tuple xs.toArray) w':=by
   intro xs hxs
   rw [IL,Array.mapM_eq_mapM_toList]
   simp only [Ws,Sem.run_map,hxs,Wq,Wt]
  split at hr
  ·rename_i v p hres
   obtain ⟨hp,ho,hnd⟩:=hr
   obtain ⟨xs,hxs,hcr⟩:=DO hΓ.ty hS' hSl' _ _ _ hres hp
   match xs,hcr.1 with
   | [x],_=>
    obtain ⟨g1,g2⟩:=Kv ho 0
    refine ⟨x,by rw [hmap _ hxs];rfl,x,F',Dk ρ' (FL v r),rfl,?_,?_⟩
    ·have hi:(AX true 0 r).2=(A5 true 0 r).2:=by
      cases r with
      | tup l=>
       cases v<;>simp [Iz,F7] at ho
       all_goals (rename_i y;cases y<;>simp at ho)
      | _=>rfl
     rw [hi]
     exact hS'.out (by rw [g1]) hnd g2
    ·have hi:(AX true 0 r).1=(A5 true 0 r).1:=by
      cases r with
      | tup l=>
       cases v<;>simp [Iz,F7] at ho
       all_goals (rename_i y;cases y<;>simp at ho)
      | _=>rfl
     rw [hi]
     exact ⟨LR ho (λ j x hx=>by rw [WU];exact hx) (hcr.2 0 v x rfl rfl),hmu⟩
  ·rename_i vs' p hne hres
   split at hr
   ·rename_i l
    obtain ⟨hp,ho,hnd⟩:=hr
    obtain ⟨xs,hxs,hcr⟩:=DO hΓ.ty hS' hSl' _ _ _ hres hp
    obtain ⟨g1,g2⟩:=RQ vs' l 0 ho
    have hne1:xs.toArray.size≠1:=by
     intro h1
     have:vs'.length=1:=by rw [hcr.1];simpa using h1
     match vs',this with
     | [y],_=>exact hne y rfl
    refine ⟨.tuple xs.toArray,by rw [hmap _ hxs,dif_neg hne1],_,F',Dk ρ' (IA vs' l),rfl,hS'.out (by rw [g1];rfl) hnd g2,?_⟩
    have:=PO (F:=F') (ρ:=ρ') (E:=IA vs' l) vs' l 0 xs ho (λ j x hx=>by rw [WU];exact hx) hcr
    exact ⟨.tup _ _ (by have:=this.1;simpa using this) λ j a v ha hv=>this.2 j a v ha (by simpa using hv),hmu⟩
   ·exact hr.elim
  ·exact hr.elim
 cases e' with
 | normal=>exact fin hq
 | ret=>exact fin hq
 | exit i=>exact hq.elim
def RZ (Γ:Nat->Ty) (rs:List ResultVar) (r:AV) (objs1:List (Option Ob)) (st:St):Prop:=
 st.objs=objs1/\match IK Γ st rs with
  | some ([v],p)=>p/\v=r
  | some (vs,p)=>p/\r=.tup vs
  | none=>False
def J1 (nk:Nat) (Γ:Nat->Ty) (rs:List ResultVar) (r:AV) (objs1:List (Option Ob)):Ex->St->Prop
 | .exit _,_=>False
 | _,st=>∃ s',Au nk st s'/\RZ Γ rs r objs1 s'
def L3 (nk:Nat) (Γ:Nat->Ty) (rs:List ResultVar) (R:AV->List (Option Ob)->Prop):Ex->St->Prop
 | .exit _,_=>False
 | _,st=>∃ s',Au nk st s'/\∃ r objs1,R r objs1/\RZ Γ rs r objs1 s'
theorem IM {Q:Ex->St->Prop} {Γ:Cx} (hfol:P.follows .mixedOrders=true) (hΓ:CG P Γ) (hrd:Γ.rd=false) {f:FuncId} {fn:Func} {c:Code} {args:List AV} {objs:List (Option Ob)} {nb:Nat} {R:AV->List (Option Ob)->Prop} (hf:P.funcs[f]? = some fn) (hb:fn.body=some c) (hnm:(fn.name == "runtime.NumGoroutine")=false)
  (hnt:Γ.nt=⟨fn.ntmps,[],nb,Γ.nt.qf⟩) (hlen:args.length<=fn.ntmps)
  (hQ:∀ e s,Q e s->L3 nb Γ.ty fn.results.toList R e s) (h:wpA Γ c Q ⟨(List.range args.length).zip args,objs⟩):BG P f args objs nb R:=by
 refine ⟨⟨fn,c,hf,hb,hnm⟩,λ N F ρ w vs hS hvs=>?_⟩
 have hvl:args.length=vs.size:=by have:=hvs.1;simpa using this
 refine callsIn_wide.1 (callsIn_of_wp_marks (F:=Fence.wide) (n:=0) hf hb trivial ?_ rfl)
 have hget:∀ i,i<vs.size->(vs++Array.replicate (fn.ntmps-vs.size) undef)[i]? = vs[i]? := λ i hi=>Array.getElem?_append_left hi
 have hSl:A3 F ρ ((List.range args.length).zip args) (vs++Array.replicate (fn.ntmps-vs.size) undef):=by
  intro t
  rcases Ko (List.range args.length) args t (by simp) with h|⟨i,a,h1,h2,h3⟩
  ·rw [h];exact .top _
  ·rw [h3]
   have hi:=Ac h2
   have:i=t:=by
    rw [List.getElem?_range hi] at h1
    exact Option.some.inj h1
   subst this
   have hv:vs[i]? = some vs[i]:=WM (by omega)
   rw [WN,hget i (by omega),hv]
   exact hvs.2 i a _ h2 (by simp)
 have hts:TS Γ.nt (λ _=>none) (vs++Array.replicate (fn.ntmps-vs.size) undef):=by
  rw [hnt]
  exact ⟨by simp;omega,λ t v ht=>by cases ht⟩
 have hrk:RK ⟨w,λ _=>none,λ j=>if j<nb then ρ j else none⟩ Γ.nt ρ:=λ j L hj=>by
  simp only at hj
  split at hj
  ·rename_i hlt;exact ⟨by rw [hnt];exact hlt,hj⟩
  ·cases hj
 refine wpIn_mono (Gs (rd:=none) (hrd:=hrd) (w0:=⟨w,λ _=>none,λ j=>if j<nb then ρ j else none⟩) hfol hΓ c _ _ _ w h ⟨F,ρ,hS,hSl,hts,Dfr.nil,Mu.refl w,hrk⟩) λ e a' w' hp=>?_
 obtain ⟨e',st',rfl,hq,hI⟩:=hp
 replace hq:=hQ _ _ hq
 have hN:∀ b,w.heap.size<=b->N b:=hS.size
 have hF0:∀ b,w.heap.size<=b->F b=none:=λ b hb=>by
  cases hf:F b with
  | none=>rfl
  | some o=>have:=Af (hS.frz b o hf);omega
 have fin:(∃ s',Au nb st' s'/\∃ r objs1,R r objs1/\RZ Γ.ty fn.results.toList r objs1 s')->LeavesInM Fence.wide 0 P fn a'.tmps (λ e w'=>∃ v F' ρ' r objs1,R r objs1/\e=.returned v/\Sim N (λ b=>w.heap[b]?) F F' ρ' objs1 w'.heap/\(∀ j,j<nb->∀ L,ρ j=some L->ρ' j=some L)/\Ad F' ρ' r v/\Mu w w') a'.defers .returning w':=by
  rintro ⟨s',hsh,r,objs1,hR,ho,hr⟩
  obtain ⟨F',ρ',hS',hSl',hn',hdf'⟩:=Bp (by rw [hnt]) hsh hI
  obtain ⟨l,hl1,hl2,hl3⟩:=hdf'.1
  refine HA (w0:=⟨w,λ _=>none,λ j=>if j<nb then ρ j else none⟩) hΓ.qf hN hF0 hl1 F' w' hl2 hl3 hS' λ F'' w'' hFc hS'' hmu''=>?_
  replace hSl':A3 F'' ρ' s'.env a'.tmps:=λ t=>(hSl' t).monoC hFc (RLe.refl _)
  have hmu:Mu w w'':=hdf'.2.1.trans hmu''
  have hrk':=hdf'.2.2
  clear hS' hl3 hI
  revert hS'' hSl'
  generalize F''=F'
  generalize w''=w' at hmu ⊢
  intro hS' hSl'
  have hmap:∀ (xs:List Value),(fn.results.toList.mapM (OR a'.tmps)).run P w'=.ok xs w'->(results fn a'.tmps).run P w'=.ok (if h:xs.toArray.size=1 then xs.toArray[0] else .tuple xs.toArray) w':=by
   intro xs hxs
   rw [IL,Array.mapM_eq_mapM_toList]
   simp only [Ws,Sem.run_map,hxs,Wq,Wt]
  have hS1:Sim N (λ b=>w.heap[b]?) F F' ρ' objs1 w'.heap:=by rw [← ho];exact hS'
  have hkeep:∀ j,j<nb->∀ L,ρ j=some L->ρ' j=some L:=λ j hj L hL=>(hrk' j L (by simp only;rw [if_pos hj];exact hL)).2
  split at hr
  ·rename_i v p hres
   obtain ⟨hp,rfl⟩:=hr
   obtain ⟨xs,hxs,hcr⟩:=DO hΓ.ty hS' hSl' _ _ _ hres hp
   match xs,hcr.1 with
   | [x],_=>exact ⟨x,by rw [hmap _ hxs];rfl,x,F',ρ',v,objs1,hR,rfl,hS1,hkeep,hcr.2 0 v x rfl rfl,hmu⟩
  ·rename_i vs' p hne hres
   obtain ⟨hp,rfl⟩:=hr
   obtain ⟨xs,hxs,hcr⟩:=DO hΓ.ty hS' hSl' _ _ _ hres hp
   have hne1:xs.toArray.size≠1:=by
    intro h1
    have:vs'.length=1:=by rw [hcr.1];simpa using h1
    match vs',this with
    | [y],_=>exact hne y rfl
   exact ⟨.tuple xs.toArray,by rw [hmap _ hxs,dif_neg hne1],_,F',ρ',_,objs1,hR,rfl,hS1,hkeep,.tup _ _ (by simpa using hcr.1) λ j a v ha hv=>hcr.2 j a v ha (by simpa using hv),hmu⟩
  ·exact hr.elim
 cases e' with
 | normal=>exact fin hq
 | ret=>exact fin hq
 | exit i=>exact hq.elim
theorem OU {Γ:Cx} (hfol:P.follows .mixedOrders=true) (hΓ:CG P Γ) (hrd:Γ.rd=false) {f:FuncId} {fn:Func} {c:Code} {args:List AV} {objs objs1:List (Option Ob)} {nb:Nat} {r:AV} (hf:P.funcs[f]? = some fn) (hb:fn.body=some c) (hnm:(fn.name == "runtime.NumGoroutine")=false)
  (hnt:Γ.nt=⟨fn.ntmps,[],nb,Γ.nt.qf⟩) (hlen:args.length<=fn.ntmps)
  (h:wpA Γ c (J1 nb Γ.ty fn.results.toList r objs1) ⟨(List.range args.length).zip args,objs⟩):Ba P f args objs nb r objs1:=by
 have:=IM (R:=λ r' O'=>r'=r/\O'=objs1) hfol hΓ hrd hf hb hnm hnt hlen (λ e s hs=>by
  cases e with
  | exit i=>exact hs.elim
  | normal=>obtain ⟨s',h1,h2⟩:=hs;exact ⟨s',h1,r,objs1,⟨rfl,rfl⟩,h2⟩
  | ret=>obtain ⟨s',h1,h2⟩:=hs;exact ⟨s',h1,r,objs1,⟨rfl,rfl⟩,h2⟩) h
 refine ⟨this.1,λ N F ρ w vs hS hc=>(this.2 N F ρ w vs hS hc).mono λ e w' he=>?_⟩
 obtain ⟨v,F',ρ',_,_,⟨rfl,rfl⟩,h1,h2,h3,h4,h5⟩:=he
 exact ⟨v,F',ρ',h1,h2,h3,h4,h5⟩
end Go.AI
end
section
namespace Go.AI
variable {P:Program} {F F':Nat->Option Obj} {ρ ρ':Nat->Option Loc} {w:World}
def KE (P:Program) (t:TypeId):Prop:=(∃ k,P.underlying t=some (.int k))\/P.underlying t=some .bool\/P.underlying t=some .string
theorem DE {t:TypeId} (h:KE P t) {cs:Array Value} {o:Nat} {v:Value} (hv:cs[o]? = some v):(part t cs o).run P w=.ok v w:=by
 have hag:(isAgg t).run P w=.ok false w:=by
  rcases h with ⟨k,h⟩|h|h<;>rw [GP w h]<;>rfl
 simp only [part,Ws,hag,Wq,WS,if_false,hv,Wt]
def R0 (P:Program) (t:TypeId):TK->Prop
 | .int _=>∃ k,P.underlying t=some (.int k)
 | .bool=>P.underlying t=some .bool
 | .string=>P.underlying t=some .string
 | _=>False
theorem IN {t:TypeId} {k:TK} (h:R0 P t k):KE P t:=by
 cases k with
 | int _=>exact .inl h
 | bool=>exact .inr (.inl h)
 | string=>exact .inr (.inr h)
 | _=>exact h.elim
theorem Gt (d:Nat) (xs ys:Array Value):∀ (fs:List Field) (ks:List TK) (i:Nat) (l l':List AV) (r:Bool),fs.length=ks.length ->
  (∀ (j:Nat) f k,fs[j]? = some f->ks[j]? = some k->f.name ≠ "_"/\f.offset=i+j/\R0 P f.type k)->Ax ks l l'=some r ->
  (∀ (j:Nat) a,l[j]? = some a->∃ v,xs[i+j]? = some v/\Ad F ρ a v)->(∀ (j:Nat) a,l'[j]? = some a->∃ v,ys[i+j]? = some v/\Ad F ρ a v)->(Op.eqFields (d+1) xs ys fs).run P w=.ok r w:=by
 intro fs
 induction fs with
 | nil=>
  intro ks i l l' r hn _ h _ _
  cases ks with
  | cons=>cases hn
  | nil=>
   cases l with
   | cons=>simp [Ax] at h
   | nil=>cases l' with
    | cons=>simp [Ax] at h
    | nil=>simp [Ax] at h;subst h;rfl
 | cons f fs ih=>
  intro ks i l l' r hn hf h hl hl'
  cases ks with
  | nil=>cases hn
  | cons k ks=>
   obtain ⟨hname,hoff,hfit⟩:=hf 0 f k rfl rfl
   have hrec:∀ (m m':List AV) (x y:AV) (r':Bool),l=x::m->l'=y::m'->Ax ks m m'=some r'->(Op.eqFields (d+1) xs ys fs).run P w=.ok r' w:=by
    intro m m' x y r' e1 e2 hr'
    subst e1;subst e2
    refine ih ks (i+1) m m' r' (by simpa using hn) (λ j f k hf' hk'=>?_) hr' (λ j a ha=>?_) (λ j a ha=>?_)
    ·obtain ⟨a1,a2,a3⟩:=hf (j+1) f k (by simpa using hf') (by simpa using hk');exact ⟨a1,by omega,a3⟩
    ·obtain ⟨v,h1,h2⟩:=hl (j+1) a (by simpa using ha);exact ⟨v,by rw [← h1];congr 1;omega,h2⟩
    ·obtain ⟨v,h1,h2⟩:=hl' (j+1) a (by simpa using ha);exact ⟨v,by rw [← h1];congr 1;omega,h2⟩
   have step:∀ (x y:AV) (m m':List AV) (b r':Bool),l=x::m->l'=y::m'->Ax ks m m'=some r'->r=(b&&r')->(∀ u v,Ad F ρ x u->Ad F ρ y v->(Op.equalIn (d+1) f.type u v).run P w=.ok b w)->(Op.eqFields (d+1) xs ys (f::fs)).run P w=.ok r w:=by
    intro x y m m' b r' e1 e2 hr' hb hrun
    obtain ⟨u,hu1,hu2⟩:=hl 0 x (by rw [e1];rfl)
    obtain ⟨v,hv1,hv2⟩:=hl' 0 y (by rw [e2];rfl)
    have hpl:=IN hfit
    simp only [Op.eqFields]
    rw [if_pos hname]
    have hp1:=DE (P:=P) (w:=w) hpl (o:=f.offset) (cs:=xs) (v:=u) (by rw [hoff];simpa using hu1)
    have hp2:=DE (P:=P) (w:=w) hpl (o:=f.offset) (cs:=ys) (v:=v) (by rw [hoff];simpa using hv1)
    simp only [Ws,hp1,hp2,Wq,hrun u v hu2 hv2]
    cases b with
    | false=>simp [hb]
    | true=>simp only [Wy,WS,if_false];rw [hrec m m' x y r' e1 e2 hr',hb];rfl
   unfold Ax at h
   split at h
   ·rename_i heq;cases heq
   ·rename_i k0 ks0 k1 a xs0 k2 b ys0 e0
    cases e0
    split at h
    ·rename_i r' hr'
     cases hk:(k1==k2) with
     | false=>rw [hk] at h;cases h
     | true=>
      rw [hk,cond_true] at h
      have:k1=k2:=by simpa using hk
      subst this
      cases h
      refine step _ _ _ _ (a==b) r' rfl rfl hr' rfl λ u v hu hv=>?_
      rw [hu.int,hv.int]
      obtain ⟨k3,hk3⟩:=hfit
      exact run_equalIn_int w d f.type k1 k3 a b hk3
    ·cases h
   ·rename_i ks0 a xs0 b ys0 e0
    cases e0
    split at h
    ·rename_i r' hr'
     cases h
     refine step _ _ _ _ (a==b) r' rfl rfl hr' rfl λ u v hu hv=>?_
     rw [hu.bool,hv.bool]
     exact run_equalIn_bool' w d f.type a b hfit
    ·cases h
   ·rename_i ks0 a xs0 b ys0 e0
    cases e0
    split at h
    ·rename_i r' hr'
     cases h
     refine step _ _ _ _ (a==b) r' rfl rfl hr' rfl λ u v hu hv=>?_
     rw [hu.str,hv.str,run_equalIn_string w d f.type _ _ hfit,By,By]
    ·cases h
   ·cases h
theorem R1 {t:TypeId} {fields:Array Field} {ks:List TK} (hd:P.underlying t=some (.struct fields)) (hst:P.stoodInHeld t=false) (hg:P.eqGuardType P.depth t=false) (hn:fields.size=ks.length)
  (hf:∀ (j:Nat) f k,fields[j]? = some f->ks[j]? = some k->f.name ≠ "_"/\f.offset=j/\R0 P f.type k):Kj P t ks:=by
 intro l l' r xs ys F ρ w x y h hx hy
 have hfo:P.fieldsOf t=fields:=by simp [Program.fieldsOf,hd]
 have hrun:(Op.equalIn 10000 t (.agg xs) (.agg ys)).run P w=.ok r w:=by
  rw [run_equalIn_struct w 9999 t xs ys (by rw [hfo];exact hd) hst,hfo]
  cases hx with
  | agg _ _ hxl hxr=>
   cases hy with
   | agg _ _ hyl hyr=>
    refine Gt (F:=F) (ρ:=ρ) 9998 xs ys fields.toList ks 0 l l' r (by simpa using hn) (λ j f k h1 h2=>?_) h (λ j a ha=>?_) (λ j a ha=>?_)
    ·obtain ⟨a1,a2,a3⟩:=hf j f k (by simpa using h1) h2;exact ⟨a1,by omega,a3⟩
    ·have hj:=Ac ha
     refine ⟨xs[j],?_,hxr j a _ ha (WM (by omega))⟩
     rw [WU];exact WM (by omega)
    ·have hj:=Ac ha
     refine ⟨ys[j],?_,hyr j a _ ha (WM (by omega))⟩
     rw [WU];exact WM (by omega)
 constructor
 ·simp only [Ws,run_eqGuard_agg w .eql t x y xs ys hg,Wq]
  rw [run_eql_struct,hrun];rfl
 ·simp only [Ws,run_eqGuard_agg w .neq t x y xs ys hg,Wq]
  rw [run_neq_struct,hrun];rfl
def Inf (P:Program) (t:TypeId) (s b:Nat) (z:Value):Prop:=∃ i,P.info? t=some i/\i.size=s/\i.bytes=b/\i.zero=some z
theorem AL {t:TypeId} {z:Value} {s b:Nat} (h:(P.info? t).map (λ i=>(i.zero,i.size,i.bytes))=some (some z,s,b)):Inf P t s b z:=by
 rw [WK] at h
 obtain ⟨i,h1,h2⟩:=h
 simp only [Prod.mk.injEq] at h2
 exact ⟨i,h1,h2.2.1,h2.2.2,h2.1⟩
def Tc (P:Program) (fields:Array Field) (i o s:Nat):Prop:=∃ f j,fields[i]? = some f/\f.offset=o/\P.info? f.type=some j/\j.size=s/\s≠0/\∃ e,P.underlying f.type=some e/\(s=1->Ey e=false)
theorem L4 {fields:Array Field} {t:TypeId} {i o s b:Nat} {z:Value} {e:TypeDesc} (h:Inf P t s b z) (hu:P.underlying t=some e) (hf:(fields[i]?).map (λ f=>(f.type,f.offset))=some (t,o):=by rfl) (h0:s≠0:=by decide) (h1:s=1->Ey e=false:=by decide):Tc P fields i o s:=by
 obtain ⟨j,g1,g2,_⟩:=h
 rw [WK] at hf
 obtain ⟨f,q1,q2⟩:=hf
 simp only [Prod.mk.injEq] at q2
 obtain ⟨rfl,rfl⟩:=q2
 exact ⟨f,j,q1,rfl,g1,g2,h0,e,hu,h1⟩
def StF (P:Program) (fields:Array Field) (k:Nat) (offs:List (Nat×Nat)):Prop:=∀ (i o s:Nat),offs[i]? = some (o,s)->Tc P fields (k+i) o s
theorem P1 {fields:Array Field} {k:Nat}:StF P fields k []:=λ i o s h=>by simp at h
theorem Fp {fields:Array Field} {k o s:Nat} {offs:List (Nat×Nat)} (h:Tc P fields k o s) (ht:StF P fields (k+1) offs):StF P fields k ((o,s)::offs):=λ i o' s' hi=>by
 cases i with
 | zero=>simp only [List.getElem?_cons_zero,WR,Prod.mk.injEq] at hi;obtain ⟨rfl,rfl⟩:=hi;exact h
 | succ i=>
  have:=ht i o' s' (by simpa using hi)
  rwa [WE,Nat.add_comm 1 i] at this
theorem stF {fields:Array Field} {offs:List (Nat×Nat)} (h:StF P fields 0 offs) (hl:fields.size=offs.length:=by rfl):Dx P (.struct fields) (.struct offs):=⟨fields,rfl,hl,λ i o s hi=>by have:=h i o s hi;rwa [WU] at this⟩
theorem slK {elem:TypeId} {esz eb:Nat} {ez:List D} {z:Value} (h:Inf P elem esz eb z) (hu:ez=[.int .u8 0]->P.underlying elem=some (.int .u8):=by (intro h;cases h)) (hz:z.cells.toList=ez.map D.val:=by rfl) (hp:ez.all D.isPlain=true:=by rfl) (hl:ez.length=esz:=by rfl):Dx P (.slice elem) (.slice esz eb ez):=by
 obtain ⟨i,g1,g2,g3,g4⟩:=h
 exact ⟨elem,i,z,rfl,g1,g2,g3,g4,hz,hp,hl,hu⟩
theorem arK {elem:TypeId} {n esz eb:Nat} {z:Value} (h:Inf P elem esz eb z):Dx P (.array n elem) (.array n esz):=by
 obtain ⟨i,g1,g2,_⟩:=h
 exact ⟨elem,i,rfl,g1,g2⟩
theorem tfM {t:TypeId} {y:Ty} {b:Nat} {z:Value} {d:TypeDesc} (h:Inf P t y.size b z) (hu:P.underlying t=some d) (hk:Dx P d y.kind) (he:y.eqk≠[]->Kj P t y.eqk:=by exact λ h=>absurd rfl h) (ha:Ey d=y.agg:=by rfl) (hz:z.cells.toList=y.zero.map D.val:=by rfl) (hp:y.zero.all D.isPlain=true:=by rfl) (h1:y.agg=false->y.size=1:=by first|exact λ _=>rfl|(intro h;cases h)) (h0:1<=y.size:=by decide):Ar P t y:=by
 obtain ⟨i,g1,g2,_,g4⟩:=h
 exact ⟨⟨i,z,g1,g2,g4,hz⟩,hp,⟨d,hu,ha,hk⟩,h1,h0,he⟩
end Go.AI
end
section
namespace Go.AI
variable {P:Program} {F F':Nat->Option Obj} {ρ ρ':Nat->Option Loc} {w:World}
theorem FM {t:TypeId} (h:KE P t) (e:Bool) (n:Nat) (v:Value):(Instr.checkKey e (n+1) t v).run P w=.ok () w:=by
 rcases h with ⟨k,h⟩|h|h<;>simp only [Instr.checkKey,Ws,run_underlying h,Wq]<;>rfl
theorem HG (e:Bool) (n:Nat) (cs:Array Value):∀ (fs:List Field),(∀ f∈fs,KE P f.type/\∃ v,cs[f.offset]? = some v) ->
  (forIn fs PUnit.unit λ (f:Field) (_:PUnit)=>(do
   if f.name ≠ "_" then Instr.checkKey e (n+1) f.type (← part f.type cs f.offset)
   pure (ForInStep.yield PUnit.unit):Sem (ForInStep PUnit))).run P w=.ok PUnit.unit w:=by
 intro fs
 induction fs with
 | nil=>intro _;rfl
 | cons f fs ih=>
  intro h
  obtain ⟨hp,v,hv⟩:=h f (by simp)
  have ih':=ih λ g hg=>h g (by simp [hg])
  rw [List.forIn_cons]
  by_cases hn:f.name ≠ "_"
  ·simp only [hn,ne_eq,not_false_eq_true,if_true,Ws,DE (w:=w) hp hv,Wq,FM (w:=w) hp e n v,Wt]
   simpa using ih'
  ·simp only [hn,if_false,Ws,Wq,Wt]
   simpa using ih'
theorem Nd (s:ByteArray):(s==s)=true:=by
 show (s.data==s.data)=true
 simp
theorem DP:∀ (ks:List TK) (l l':List AV) (r:Bool),Ax ks l l'=some r->l.length=ks.length/\l'.length=ks.length:=by
 intro ks
 induction ks with
 | nil=>
  intro l l' r h
  cases l with
  | cons=>simp [Ax] at h
  | nil=>cases l' with
   | cons=>simp [Ax] at h
   | nil=>exact ⟨rfl,rfl⟩
 | cons k ks ih=>
  intro l l' r h
  unfold Ax at h
  split at h
  ·rename_i heq;cases heq
  ·rename_i e0;cases e0
   split at h
   ·rename_i r' hr'
    obtain ⟨a,b⟩:=ih _ _ _ hr'
    simp [a,b]
   ·cases h
  ·rename_i e0;cases e0
   split at h
   ·rename_i r' hr'
    obtain ⟨a,b⟩:=ih _ _ _ hr'
    simp [a,b]
   ·cases h
  ·rename_i e0;cases e0
   split at h
   ·rename_i r' hr'
    obtain ⟨a,b⟩:=ih _ _ _ hr'
    simp [a,b]
   ·cases h
  ·cases h
theorem KF (n:Nat):∀ (ks:List TK) (a b:List D) (xs ys:List Value),Ax ks (a.map .d) (b.map .d)=some true->a.length=xs.length->b.length=ys.length ->
  (∀ (i:Nat) (x:D) (u:Value),a[i]? = some x->xs[i]? = some u->AH F x u)->(∀ (i:Nat) (x:D) (u:Value),b[i]? = some x->ys[i]? = some u->AH F x u)->((ys.zip xs).all λ (y,x)=>Instr.sameBits n y x)=true:=by
 intro ks
 induction ks with
 | nil=>
  intro a b xs ys h h1 h2 _ _
  obtain ⟨e1,e2⟩:=DP _ _ _ _ h
  have:xs=[]:=List.length_eq_zero_iff.1 (by rw [← h1];simpa using e1)
  subst this
  simp
 | cons k ks ih=>
  intro a b xs ys h h1 h2 ha hb
  obtain ⟨e1,e2⟩:=DP _ _ _ _ h
  match a,e1 with
  | x::a,_=>
   match b,e2 with
   | y::b,_=>
    match xs,h1 with
    | u::xs,h1=>
     match ys,h2 with
     | v::ys,h2=>
      have hxu:=ha 0 x u rfl rfl
      have hyv:=hb 0 y v rfl rfl
      have rest:∀ r',Ax ks (a.map .d) (b.map .d)=some r'->r'=true->((ys.zip xs).all λ (y,x)=>Instr.sameBits n y x)=true:=λ r' hr' e=>by
       subst e
       exact ih a b xs ys hr' (by simpa using h1) (by simpa using h2) (λ i x u hx hu=>ha (i+1) x u (by simpa using hx) (by simpa using hu)) (λ i x u hx hu=>hb (i+1) x u (by simpa using hx) (by simpa using hu))
      have fin:∀ r',Ax ks (a.map .d) (b.map .d)=some r'->r'=true->Instr.sameBits n v u=true->(((v::ys).zip (u::xs)).all λ (y,x)=>Instr.sameBits n y x)=true:=λ r' hr' e hs=>by
       simp only [List.zip_cons_cons,List.all_cons,hs,rest r' hr' e,Bool.and_self]
      simp only [WG] at h
      unfold Ax at h
      split at h
      ·rename_i heq;cases heq
      ·rename_i k0 ks0 k1 p xs0 k2 q ys0 e0 e3 e4;cases e0
       simp only [List.cons.injEq,AV.d.injEq] at e3 e4
       obtain ⟨rfl,rfl⟩:=e3
       obtain ⟨rfl,rfl⟩:=e4
       split at h
       ·rename_i r' hr'
        cases hk:(k1==k2) with
        | false=>rw [hk] at h;cases h
        | true=>
         rw [hk] at h
         simp only [cond_true,WR,WI,beq_iff_eq] at h hk
         cases hxu;cases hyv
         refine fin r' hr' h.2 ?_
         simp only [Instr.sameBits,WI,beq_iff_eq]
         exact ⟨hk.symm,h.1.symm⟩
       ·cases h
      ·rename_i e0 e3 e4;cases e0
       simp only [List.cons.injEq,AV.d.injEq] at e3 e4
       obtain ⟨rfl,rfl⟩:=e3
       obtain ⟨rfl,rfl⟩:=e4
       split at h
       ·rename_i r' hr'
        simp only [WR,WI,beq_iff_eq] at h
        cases hxu;cases hyv
        refine fin r' hr' h.2 ?_
        simp only [Instr.sameBits,beq_iff_eq]
        exact h.1.symm
       ·cases h
      ·rename_i e0 e3 e4;cases e0
       simp only [List.cons.injEq,AV.d.injEq] at e3 e4
       obtain ⟨rfl,rfl⟩:=e3
       obtain ⟨rfl,rfl⟩:=e4
       split at h
       ·rename_i r' hr'
        simp only [WR,WI,beq_iff_eq] at h
        cases hxu;cases hyv
        refine fin r' hr' h.2 ?_
        obtain ⟨h,_⟩:=h
        subst h
        simp only [Instr.sameBits]
        exact Nd _
       ·cases h
      ·cases h
theorem GX {cs:List D} {x:Value} (h:KV F true cs x):∃ vs:Array Value,x=.agg vs/\Ad F ρ (.agg (cs.map .d)) (.agg vs)/\cs.length=vs.size/\∀ (i:Nat) (x:D) (u:Value),cs[i]? = some x->vs[i]? = some u->AH F x u:=by
 obtain ⟨vs,h1,h2,h3⟩:=h
 refine ⟨vs,h1,.agg _ _ (by simpa using h2) λ i a v ha hv=>?_,h2,h3⟩
 simp only [WL,WK] at ha
 obtain ⟨d,hd,rfl⟩:=ha
 exact .d _ _ (h3 i d v hd hv)
theorem Jt {t:TypeId} {fields:Array Field} {ks:List TK} (hd:P.underlying t=some (.struct fields)) (hst:P.stoodInHeld t=false) (hn:fields.size=ks.length)
  (hf:∀ (j:Nat) f k,fields[j]? = some f->ks[j]? = some k->f.name ≠ "_"/\f.offset=j/\R0 P f.type k):Eb P t true ks:=by
 have hfo:P.fieldsOf t=fields:=by simp [Program.fieldsOf,hd]
 refine ⟨λ F a x w b hx hs=>?_,⟨_,hd,λ F a b x y r hx hy h=>?_⟩,λ F a b x y r w hx hy h=>?_,λ F a b x y hx hy h=>?_⟩
 ·obtain ⟨vs,rfl,_,hl,hv⟩:=GX (ρ:=λ _=>none) hx
  obtain ⟨r,hr⟩:=Option.isSome_iff_exists.1 hs
  have hlen:=(DP _ _ _ _ hr).1
  show (Instr.checkKey b (9999+1) t (.agg vs)).run P w=_
  rw [Instr.checkKey]
  simp only [Ws,run_underlying hd,Wq]
  have:=HG (P:=P) (w:=w) b 9998 vs fields.toList (λ f hfm=>by
   obtain ⟨j,hj⟩:=List.mem_iff_getElem?.1 hfm
   have hj':fields[j]? = some f:=by simpa using hj
   have hjl:j<ks.length:=by rw [← hn];exact Af hj'
   obtain ⟨_,h2,h3⟩:=hf j f _ hj' (WH hjl)
   refine ⟨IN h3,?_⟩
   rw [h2]
   exact ⟨_,WM (by simp at hlen;omega)⟩)
  simp at this ⊢
  rw [this];rfl
 ·obtain ⟨vs,rfl,_⟩:=GX (ρ:=λ _=>none) hx
  rfl
 ·obtain ⟨xs,rfl,hxr,hxl,_⟩:=GX (ρ:=λ _=>none) hx
  obtain ⟨ys,rfl,hyr,hyl,_⟩:=GX (ρ:=λ _=>none) hy
  show (Op.equalIn 10000 t (.agg xs) (.agg ys)).run P w=.ok r w
  rw [run_equalIn_struct w 9999 t xs ys (by rw [hfo];exact hd) hst,hfo]
  cases hxr with
  | agg _ _ hxl' hxr=>
   cases hyr with
   | agg _ _ hyl' hyr=>
    refine Gt (F:=F) (ρ:=λ _=>none) 9998 xs ys fields.toList ks 0 _ _ r (by simpa using hn) (λ j f k h1 h2=>?_) h (λ j a ha=>?_) (λ j a ha=>?_)
    ·obtain ⟨a1,a2,a3⟩:=hf j f k (by simpa using h1) h2;exact ⟨a1,by omega,a3⟩
    ·have hj:=Ac ha
     refine ⟨xs[j],?_,hxr j a _ ha (WM (by omega))⟩
     rw [WU];exact WM (by omega)
    ·have hj:=Ac ha
     refine ⟨ys[j],?_,hyr j a _ ha (WM (by omega))⟩
     rw [WU];exact WM (by omega)
 ·obtain ⟨xs,rfl,_,hxl,hxv⟩:=GX (ρ:=λ _=>none) hx
  obtain ⟨ys,rfl,_,hyl,hyv⟩:=GX (ρ:=λ _=>none) hy
  have hlen:=DP _ _ _ _ h
  simp only [WF] at hlen
  show Instr.sameBits (9999+1) (.agg ys) (.agg xs)=true
  rw [Instr.sameBits]
  simp only [WI,beq_iff_eq]
  refine ⟨by omega,?_⟩
  exact KF 9999 ks a b xs.toList ys.toList h (by simpa using hxl) (by simpa using hyl) (λ i x u hx hu=>hxv i x u hx (by simpa using hu)) (λ i x u hx hu=>hyv i x u hx (by simpa using hu))
end Go.AI
end
section
namespace Go.AI
def Bm (k:IntKind) (a b:Int):Int:=k.wrap (a+b)
def B8 (k:IntKind) (a b:Int):Int:=k.wrap (a-b)
def BK (k:IntKind) (a b:Int):Int:=k.wrap (a*b)
def KG (k:IntKind) (a b:Int):Int:=k.wrap (a.tdiv b)
def BL (a b:Int):Int:=a.tmod b
def US (k:IntKind) (n:Int):Int:=k.wrap (0-n)
def idx {α:Type} (xs:List α) (i:Int):Option α:=if 0<=i then xs[i.toNat]? else none
def app {α:Type} (eb:Nat) (xs ys:List α):Option (List α):=if (xs.length+ys.length)*eb<=70368744177664 then some (xs++ys) else none
def sub {α:Type} (xs:List α) (l h:Int):Option (List α):=if 0<=l/\l<=h/\h<=xs.length then some ((xs.take h.toNat).drop l.toNat) else none
def put {α:Type} (xs:List α) (i:Int) (y:α):Option (List α):=if 0<=i/\i<xs.length then some (xs.set i.toNat y) else none
def Dl (b:Bool):Option Unit:=if b then some () else none
def mkc {α:Type} (eb:Nat) (n c:Int) (z:α):Option (List α):=if 0<=n/\n<=c/\c.toNat*eb<=70368744177664 then some (List.replicate n.toNat z) else none
def UT (bs:List Int):Option (List UInt8):=if bs.all (λ n=>decide (0<=n)&&decide (n<256)) then some (bs.map λ n=>UInt8.ofNat n.toNat) else none
def E9 {κ α:Type} [DecidableEq κ] (k:κ) (v:α):List (κ×α)->List (κ×α)
 | []=>[(k,v)]
 | p::r=>if k=p.1 then (k,v)::r else p::E9 k v r
theorem bind_some {α β:Type} {x:Option α} {f:α->Option β} {r:β} (h:x.bind f=some r):∃ a,x=some a/\f a=some r:=Option.bind_eq_some_iff.1 h
theorem Gu {α:Type} {xs:List α} {i:Int} {x:α} (h:idx xs i=some x):0<=i/\i<xs.length/\xs[i.toNat]? = some x:=by
 unfold idx at h
 split at h
 ·rename_i h0
  have:=(List.getElem?_eq_some_iff.1 h).1
  exact ⟨h0,by omega,h⟩
 ·cases h
theorem P2 {α:Type} {eb:Nat} {xs ys zs:List α} (h:app eb xs ys=some zs):(xs.length+ys.length)*eb<=70368744177664/\zs=xs++ys:=by
 unfold app at h
 split at h
 ·rename_i h0;cases h;exact ⟨h0,rfl⟩
 ·cases h
def whl {σ ρ:Type} (body:σ->Option (σ⊕ρ)):Nat->σ->Option ρ
 | 0,_=>none
 | n+1,x=>match body x with
  | none=>none
  | some (.inl y)=>whl body n y
  | some (.inr r)=>some r
end Go.AI
end
section
namespace Go.AI
def AM (f:Func):Code:=f.body.getD .skip
def P3:Code->Nat->Code
 | .seq a b,i=>bif Nat.beq i 0 then a else b
 | .cond _ a b,i=>bif Nat.beq i 0 then a else b
 | .block _ c,_=>c
 | .loop c,_=>c
 | .scope c,_=>c
 | .rangeFunc _ _ a b,i=>bif Nat.beq i 0 then a else b
 | _,_=>.skip
def nav:List Nat->Code->Code
 | [],c=>c
 | i::p,c=>nav p (P3 c i)
def Az:Code->List Oper
 | .region _ ops _=>ops.toList
 | _=>[]
def B2:Code->Array Oper
 | .region _ ops _=>ops
 | _=>#[]
def Gv:Code->Bool
 | .region _ _ d=>d
 | _=>false
def FQ:Code->Bool
 | .region _ _ _=>true
 | _=>false
def GY:Code->Operand
 | .cond c _ _=>c
 | _=>.tmp 0
def Ay (Γ:Cx) (C:Code) (p:List Nat) (i:Nat) (K:St->Prop) (s:St):Prop:=D2 Γ (Gv (nav p C)) (Az (nav p C)) ((Az (nav p C)).drop i) K s
theorem F9 {Γ:Cx} {d:Bool} {all:List Oper} {o:Oper} {Q Q':St->Prop} {s:St} (hQ:∀ s,Q s->Q' s) (h:As Γ d all o Q s):As Γ d all o Q' s:=by
 unfold As at h ⊢
 cases hg:AP all s.env o.guard with
 | none=>rw [hg] at h;exact h.elim
 | some g=>
  rw [hg] at h
  simp only at h ⊢
  cases hdst:AZ Γ.nt o.dst with
  | false=>rw [hdst] at h;exact h.elim
  | true=>
   rw [hdst] at h
   simp only [Wy,cond_false] at h ⊢
   refine ⟨λ hgt=>?_,λ hgf=>by obtain ⟨v,obs,hm,hq⟩:=h.2 hgf;exact ⟨v,obs,hm,hQ _ hq⟩⟩
   rcases h.1 hgt with h|h|h
   case inr.inr=>
    refine .inr (.inr ?_)
    obtain ⟨hdr,⟨st',h1,h2⟩|⟨hgn,h⟩⟩:=h
    ·exact ⟨hdr,.inl ⟨st',h1,hQ _ h2⟩⟩
    refine ⟨hdr,.inr ⟨hgn,?_⟩⟩
    rcases h with h|h
    ·left
     split at h
     ·obtain ⟨h1,h2⟩:=h
      exact ⟨h1,h2.imp (hQ _) (hQ _)⟩
     ·exact h.elim
    ·right
     split at h
     ·obtain ⟨h1,nb,r,O1,g1,g2,g3,g4,g5⟩:=h
      exact ⟨h1,nb,r,O1,g1,g2,g3,g4,hQ _ g5⟩
     ·exact h.elim
   case inr.inl=>
    refine .inr (.inl ?_)
    unfold CQ at h ⊢
    split at h
    ·exact ⟨h.1,hQ _ h.2⟩
    ·exact h.elim
   refine .inl ?_
   unfold stepG at h ⊢
   split at h
   ·obtain ⟨h1,h⟩:=h
    unfold EW at h ⊢
    split at h
    ·obtain ⟨hob,m,r,hcall,hflat,hq⟩:=h
     exact ⟨h1,hob,m,r,hcall,hflat,hQ _ hq⟩
    ·exact h.elim
   ·split at h
    ·exact ⟨h.1,hQ _ h.2⟩
    ·exact h.elim
   ·split at h
    ·rename_i e he
     obtain ⟨h1,h2,h3⟩:=h
     refine ⟨h1,h2,?_⟩
     cases hc:((e.upd.isSome&&o.guard.isSome)||(!e.rm.isEmpty&&(o.guard.isSome||(d&&!isW o.op)))) with
     | true=>rw [hc] at h3;exact h3.elim
     | false=>rw [hc,cond_false] at h3;rw [cond_false];exact hQ _ h3
    ·exact h.elim
theorem Dz {Γ:Cx} {d:Bool} {all:List Oper} {Q Q':St->Prop} (hQ:∀ s,Q s->Q' s):∀ (l:List Oper) (s:St),D2 Γ d all l Q s->D2 Γ d all l Q' s:=by
 intro l
 induction l with
 | nil=>intro s h;exact hQ s h
 | cons o l ih=>intro s h;exact F9 ih h
theorem P4 {Γ:Cx} {ops:Array Oper} {Q Q':St->Prop} (hQ:∀ s,Q s->Q' s):∀ (f b:Nat) (s:St),phX Γ ops Q f b s->phX Γ ops Q' f b s:=by
 intro f
 induction f with
 | zero=>intro b s h;exact ⟨h.1,hQ _ h.2⟩
 | succ f ih=>
  intro b s h
  rcases h with h|⟨x,m,hb,hB,h⟩
  ·exact .inl ⟨h.1,hQ _ h.2⟩
  ·refine .inr ⟨x,m,hb,hB,Dz (λ s hs=>⟨hs.1,?_⟩) _ _ h⟩
   obtain ⟨F,q1,q2⟩:=hs.2
   exact ⟨F,q1,F9 (λ s hs=>ih _ _ hs) q2⟩
theorem IP {Γ:Cx}:∀ {c:Code} {Q Q':Ex->St->Prop} {s:St},(∀ e s,Q e s->Q' e s)->wpA Γ c Q s->wpA Γ c Q' s:=by
 intro c
 induction c with
 | skip=>intro Q Q' s hQ h;exact hQ _ _ h
 | region id ops d=>
  intro Q Q' s hQ h
  obtain ⟨s',h1,h2|⟨hd,h4⟩|⟨hd,h4⟩⟩:=h
  rotate_left 2
  ·obtain ⟨i,o,ho,h4⟩:=h4
   refine ⟨s',h1,.inr (.inr ⟨hd,i,o,ho,Dz (λ s hs=>?_) _ _ h4⟩)⟩
   obtain ⟨q1,q2,S,q3,q4⟩:=hs
   exact ⟨q1,q2,S,q3,λ st' hst=>Dz (λ s hs=>hQ _ s hs) _ _ (q4 st' hst)⟩
  ·exact ⟨s',h1,.inl (Dz (λ s hs=>⟨hs.1,hQ _ s hs.2⟩) _ _ h2)⟩
  ·obtain ⟨f,h4⟩:=h4
   exact ⟨s',h1,.inr (.inl ⟨hd,f,P4 (λ s hs=>hQ _ s hs) f 0 _ h4⟩)⟩
 | seq a b iha ihb=>
  intro Q Q' s hQ h
  refine iha (λ e s h=>?_) h
  cases e with
  | normal=>obtain ⟨s',h1,h2⟩:=h;exact ⟨s',h1,ihb hQ h2⟩
  | exit i=>exact hQ _ _ h
  | ret=>exact hQ _ _ h
 | cond c a b iha ihb=>
  intro Q Q' s hQ h
  simp only [wpA] at h ⊢
  unfold NF at h ⊢
  split at h
  ·exact ⟨λ e=>iha hQ (h.1 e),λ e=>ihb hQ (h.2 e)⟩
  ·exact h.elim
 | block id c ih=>
  intro Q Q' s hQ h
  refine ih (λ e s h=>?_) h
  cases e with
  | normal=>exact hQ _ _ h
  | ret=>exact hQ _ _ h
  | exit i=>
   simp only [Ew] at h ⊢
   cases hb:Nat.beq i id with
   | true=>rw [hb] at h;exact hQ _ _ h
   | false=>rw [hb] at h;exact hQ _ _ h
 | loop c ih=>
  intro Q Q' s hQ h
  obtain ⟨I,n,h0,h⟩:=h
  refine ⟨I,n,h0,λ n s hI=>ih (λ e s h=>?_) (h n s hI)⟩
  cases e with
  | normal=>exact h
  | exit i=>exact hQ _ _ h
  | ret=>exact hQ _ _ h
 | exit id=>intro Q Q' s hQ h;exact hQ _ _ h
 | ret=>intro Q Q' s hQ h;exact hQ _ _ h
 | scope c ih=>intro Q Q' s hQ h;exact ih (s:=s) hQ h
 | label l=>intro Q Q' s hQ h;exact hQ _ _ h
 | rangeFunc g ps asg body=>
  intro Q Q' s hQ h
  obtain ⟨s',h1,h2⟩:=h
  refine ⟨s',h1,?_⟩
  rcases h2 with h2|h2
  case inr=>
   right
   unfold Ic at h2 ⊢
   split at h2
   ·rename_i f caps hg
    obtain ⟨js,ts,nb,R,q1,q2,q3,q4,q5⟩:=h2
    refine ⟨js,ts,nb,R,q1,q2,q3,q4,λ r O1 hR=>?_⟩
    obtain ⟨q6,j,q7,q8⟩:=q5 r O1 hR
    refine ⟨q6,j,q7,?_⟩
    unfold MG at q8 ⊢
    split at q8
    ·exact hQ _ _ q8
    ·exact q8.elim
    ·split at q8
     ·exact hQ _ _ q8
     ·exact hQ _ _ q8
     ·exact q8.elim
   ·exact h2.elim
  left
  unfold Ki at h2 ⊢
  split at h2
  ·rename_i f caps hg
   obtain ⟨js,ts,nb,r,O1,j,q1,q2,q3,q4,q5,q6,q7⟩:=h2
   refine ⟨js,ts,nb,r,O1,j,q1,q2,q3,q4,q5,q6,?_⟩
   unfold MG at q7 ⊢
   split at q7
   ·exact hQ _ _ q7
   ·exact q7.elim
   ·split at q7
    ·exact hQ _ _ q7
    ·exact hQ _ _ q7
    ·exact q7.elim
  ·exact h2.elim
 | _=>intro Q Q' s hQ h;exact h.elim
variable {Γ:Cx} {C:Code} {p p0 p1:List Nat} {Q:Ex->St->Prop} {s s':St} {K:St->Prop}
theorem Td (h:nav p C=.seq (nav p0 C) (nav p1 C)) (hw:wpA Γ (nav p0 C) (Jq Γ.nt.nk (wpA Γ (nav p1 C) Q) Q) s):wpA Γ (nav p C) Q s:=by rw [h];exact hw
theorem P5 (id:Nat) (h:nav p C=.block id (nav p0 C)) (hw:wpA Γ (nav p0 C) (Ew id Q) s):wpA Γ (nav p C) Q s:=by rw [h];exact hw
theorem KH (t:Bool) (h:nav p C=.cond (GY (nav p C)) (nav p0 C) (nav p1 C)) (hc:Ae s.env (GY (nav p C))=.d (.bool t)) (h1:t=true->wpA Γ (nav p0 C) Q s) (h2:t=false->wpA Γ (nav p1 C) Q s):wpA Γ (nav p C) Q s:=by
 rw [h];simp only [wpA,hc,NF];exact ⟨h1,h2⟩
theorem R2 (i:Nat) (h:nav p C=.exit i) (hq:Q (.exit i) s):wpA Γ (nav p C) Q s:=by rw [h];exact hq
theorem Te (h:nav p C=.ret) (hq:Q .ret s):wpA Γ (nav p C) Q s:=by rw [h];exact hq
theorem R3 (h:nav p C=.skip) (hq:Q .normal s):wpA Γ (nav p C) Q s:=by rw [h];exact hq
def KI (C:Code) (p:List Nat) (s0:St) (Q:Ex->St->Prop):Ex->St->Prop:=λ e s=>H8 (Gv (nav p C)) (B2 (nav p C)) s0.env s.env=true/\Q e s
theorem J2 (h:FQ (nav p C)=true) (hs:Au Γ.nt.nk s s') (hk:Ay Γ C p 0 (KI C p s' Q .normal) s'):wpA Γ (nav p C) Q s:=by
 unfold Ay KI at hk
 cases hc:nav p C with
 | region id ops d=>rw [hc] at hk;exact ⟨s',hs,.inl hk⟩
 | _=>rw [hc] at h;cases h
theorem IQ (n:Nat) (h:Nat.ble (Az (nav p C)).length n=true) (hk:K s):Ay Γ C p n K s:=by
 unfold Ay
 rw [List.drop_eq_nil_of_le (WV h)]
 exact hk
theorem P6 {id:Nat} (h:Q .normal s):Ew id Q (.exit id) s:=by
 show bif Nat.beq id id then _ else _
 have:Nat.beq id id=true:=Nat.beq_refl id
 rw [this];exact h
def A2 {σ ρ:Type} (nk:Nat) (st:σ->St) (E:ρ->Ex->St->Prop) (z:σ⊕ρ):Ex->St->Prop
 | .normal,s=>∃ y,z=.inl y/\Au nk s (st y)
 | e,s=>∃ r,z=.inr r/\E r e s
theorem P7 {σ ρ:Type} {nk:Nat} {st:σ->St} {E:ρ->Ex->St->Prop} {y:σ} (h:Au nk s (st y)):A2 nk st E (.inl y) .normal s:=⟨y,rfl,h⟩
theorem Nf {σ ρ:Type} {nk:Nat} {st:σ->St} {E:ρ->Ex->St->Prop} {r:ρ} {i:Nat} (h:E r (.exit i) s):A2 nk st E (.inr r) (.exit i) s:=⟨r,rfl,h⟩
theorem OW {σ ρ:Type} {nk:Nat} {st:σ->St} {E:ρ->Ex->St->Prop} {r:ρ} (h:E r .ret s):A2 nk st E (.inr r) .ret s:=⟨r,rfl,h⟩
theorem R4 {σ ρ:Type} {body:σ->Option (σ⊕ρ)} {n:Nat} {x:σ} {r:ρ} (st:σ->St) (E:ρ->Ex->St->Prop) (h:nav p C=.loop (nav p0 C)) (hr:whl body n x=some r) (hs:Au Γ.nt.nk s (st x))
  (hb:∀ x z,body x=some z->wpA Γ (nav p0 C) (A2 Γ.nt.nk st E z) (st x)) (hE:∀ e s,E r e s->Q e s):wpA Γ (nav p C) Q s:=by
 rw [h]
 refine ⟨λ m s=>∃ x,s=st x/\whl body m x=some r,n,⟨_,hs,x,rfl,hr⟩,?_⟩
 rintro m _ ⟨x,rfl,hm⟩
 cases m with
 | zero=>cases hm
 | succ m=>
  unfold whl at hm
  split at hm
  ·cases hm
  ·rename_i y hy
   have:=hb x _ hy
   refine IP ?_ this
   intro e s' hq
   cases e with
   | normal=>
    obtain ⟨y',e1,hsh⟩:=hq
    cases e1
    exact ⟨m,_,Nat.lt_succ_self m,hsh,y,rfl,hm⟩
   | exit i=>obtain ⟨_,e1,_⟩:=hq;cases e1
   | ret=>obtain ⟨_,e1,_⟩:=hq;cases e1
  ·rename_i r' hy
   cases hm
   have:=hb x _ hy
   refine IP ?_ this
   intro e s' hq
   cases e with
   | normal=>obtain ⟨_,e1,_⟩:=hq;cases e1
   | exit i=>obtain ⟨r',e1,he⟩:=hq;cases e1;exact hE _ _ he
   | ret=>obtain ⟨r',e1,he⟩:=hq;cases e1;exact hE _ _ he
end Go.AI
end
section
namespace Go.AI
def IR (op:BinOp) (x y:AV):Bool:=
 match op with
 | .quo=>match y with | .d (.int _ b)=>!(b==0)|_=>false
 | .rem=>match y with | .d (.int _ b)=>!(b==0)|_=>false
 | .shl=>match y with | .d (.int _ b)=>decide (0<=b)|_=>false
 | .shr=>match y with | .d (.int _ b)=>decide (0<=b)|_=>false
 | .add=>match x with | .d (.int _ _)=>true|_=>false
 | _=>true
def Ng (ty:Nat->Ty) (ev:Operand->AV) (objs:List (Option Ob)):Op->Bool
 | .move _=>true
 | .assign _=>true
 | .alloc _=>true
 | .box _ _=>true
 | .build _ _=>true
 | .nilCheck _=>true
 | .unOp _ _ _=>true
 | .fieldAddr _ _ _=>true
 | .field _ _ _=>true
 | .extract _ _=>true
 | .makeMap _ _=>true
 | .load t a=>match ev a with
  | .ptr k off=>match obA objs k with
   | some (.box cells)=>Nat.ble (off+(ty t).size) cells.length
   | _=>false
  | .dptr e off=>Nat.ble (off+(ty t).size) e.length
  | _=>false
 | .store t a v=>match ev a with
  | .ptr k off=>match obA objs k with
   | some (.box cells)=>Nat.beq (Ai (ev v)).length (ty t).size&&Nat.ble (off+(ty t).size) cells.length
   | _=>false
  | _=>false
 | .binOp op _ x y _=>IR op (ev x) (ev y)
 | .convert s _ x=>match (ty s).kind,ev x with
  | .int _,.d (.int _ _)=>true
  | .string,.d (.str _)=>true
  | _,_=>false
 | .call ⟨.builtin .len,_,_⟩=>true
 | .call ⟨.builtin .min,_,_⟩=>true
 | .call ⟨.builtin .max,_,_⟩=>true
 | .buildSlice _ _ parts=>parts.toList.all λ p=>(Ai (ev p.2)).all F4
 | .indexAddr t x i=>match (ty t).kind,ev x,ev i with
  | .array n _,.ptr _ _,.d (.int _ m)=>decide (0<=m)&&decide (m<n)
  | .array n _,.eptr _ _ _ _,.d (.int _ m)=>decide (0<=m)&&decide (m<n)
  | .array n _,.dptr _ _,.d (.int _ m)=>decide (0<=m)&&decide (m<n)
  | _,_,_=>false
 | _=>false
theorem BD {v:AV} {e:Eff} (h:val v=some e):e.ob:=by cases h;trivial
theorem Dd {v:AV} {ob:Prop} {e:Eff} (h:AO v ob=some e) (ho:ob):e.ob:=by cases h;exact ho
theorem Am {α:Type} {b:Bool} {x:Option α} {e:α} (h:(bif b then x else none)=some e):b=true/\x=some e:=by
 cases b with
 | true=>exact ⟨rfl,h⟩
 | false=>cases h
theorem R5 {op:BinOp} {k k' k'':IntKind} {a b:Int} {e:Eff} (h:Mz op k a b=some e) (ho:IR op (.d (.int k' a)) (.d (.int k'' b))=true):e.ob:=by
 cases op<;>simp only [Mz] at h<;>first|exact BD h|(refine Dd h ?_;simpa [IR] using ho)|cases h
theorem R6 {t:Ty} {op:BinOp} {x y:AV} {e:Eff} (h:Od t op x y=some e) (ho:IR op x y=true):e.ob:=by
 unfold Od at h
 split at h
 ·split at h
  ·exact Dd h (by simpa [IR] using ho)
  ·exact Dd h (by simpa [IR] using ho)
  ·obtain ⟨_,h⟩:=Am h
   exact R5 h ho
 ·cases op<;>simp only [Oc] at h<;>first|exact BD h|(simp [IR] at ho;done)|cases h
 ·split at h
  ·obtain ⟨_,h⟩:=Am h
   split at h
   ·exact BD h
   ·exact BD h
   ·cases h
  ·cases h
 ·obtain ⟨_,h⟩:=Am h
  split at h
  ·exact BD h
  ·exact BD h
  ·cases h
 ·cases h
theorem R7 {objs:List (Option Ob)} {v:AV} {r:Rd D} (hd:F4 v=true) (h:Ep objs v=some r):r.ob/\r.ks=[]:=by
 cases v with
 | d x=>cases x<;>(cases h;exact ⟨trivial,rfl⟩)
 | _=>cases hd
theorem P8 {objs:List (Option Ob)}:∀ {l:List AV} {r:Rd (List D)},l.all F4=true->B4 objs l=some r->r.ob/\r.ks=[]:=by
 intro l
 induction l with
 | nil=>intro r _ h;cases h;exact ⟨trivial,rfl⟩
 | cons v l ih=>
  intro r hd h
  simp only [List.all_cons,WI] at hd
  simp only [B4] at h
  split at h
  ·rename_i r1 r2 h1 h2
   cases h
   obtain ⟨a1,a2⟩:=R7 hd.1 h1
   obtain ⟨b1,b2⟩:=ih hd.2 h2
   exact ⟨⟨a1,b1⟩,by simp [a2,b2]⟩
  ·cases h
theorem P9 {objs:List (Option Ob)} {esz:Nat}:∀ {parts:List (Nat×AV)} {es:List (List D)} {r:Rd (List (List D))},(parts.all λ p=>(Ai p.2).all F4)=true->D9 objs esz es parts=some r->r.ob:=by
 intro parts
 induction parts with
 | nil=>intro es r _ h;cases h;trivial
 | cons p parts ih=>
  intro es r hd h
  obtain ⟨i,v⟩:=p
  simp only [List.all_cons,WI] at hd
  simp only [D9] at h
  split at h
  ·rename_i r1 h1
   obtain ⟨_,h⟩:=Am h
   split at h
   ·rename_i r2 h2
    cases h
    exact ⟨(P8 hd.1 h1).1,ih hd.2 h2⟩
   ·cases h
  ·cases h
theorem IS {ty:Nat->Ty} {ev:Operand->AV} {objs:List (Option Ob)} {op:Op} {e:Eff} (ho:Ng ty ev objs op=true) (h:opA ty ev objs op=some e):e.ob:=by
 cases op with
 | move x=>exact BD h
 | assign x=>exact BD h
 | alloc t=>obtain ⟨_,h⟩:=Am h;cases h;trivial
 | box t v=>obtain ⟨_,h⟩:=Am h;cases h;trivial
 | build t parts=>
  obtain ⟨_,h⟩:=Am h
  split at h
  ·exact BD h
  ·cases h
 | nilCheck x=>
  simp only [opA] at h
  split at h<;>first|exact BD h|cases h
 | unOp op t x=>
  cases op<;>simp only [opA] at h<;>first|(split at h<;>first|exact BD h|cases h)|cases h
 | fieldAddr t x f=>
  obtain ⟨_,h⟩:=Am h
  unfold Fd at h
  split at h
  ·split at h
   ·split at h<;>first|exact BD h|cases h
   ·cases h
  ·cases h
 | field t x f=>
  simp only [opA] at h
  obtain ⟨_,h⟩:=Am h
  unfold H4 at h
  split at h
  ·split at h
   ·split at h
    ·split at h<;>first|exact BD h|cases h
    ·cases h
   ·cases h
  ·cases h
 | extract x i=>
  simp only [opA] at h
  split at h
  ·split at h
   ·exact BD h
   ·cases h
  ·cases h
 | makeMap t r=>
  cases r with
  | none=>
   obtain ⟨_,h⟩:=Am h
   split at h
   ·cases h;trivial
   ·cases h
  | some x=>
   obtain ⟨_,h⟩:=Am h
   split at h
   ·cases h;trivial
   ·cases h
 | load t a=>
  obtain ⟨_,h⟩:=Am h
  simp only [Ng] at ho
  split at ho
  ·rename_i k off ha
   rw [ha] at h
   simp only [Ci] at h
   split at ho
   ·rename_i cells hc
    rw [hc] at h
    simp only at h
    split at h
    ·exact Dd h (WV ho)
    ·cases h
   ·cases ho
  ·rename_i e' off ha
   rw [ha] at h
   simp only [Ci] at h
   split at h
   ·exact Dd h (WV ho)
   ·cases h
  ·cases ho
 | store t a v=>
  obtain ⟨_,h⟩:=Am h
  simp only [Ng] at ho
  split at ho
  ·rename_i k off ha
   rw [ha] at h
   simp only [Fe] at h
   split at ho
   ·rename_i cells hc
    rw [hc] at h
    simp only at h
    obtain ⟨_,h⟩:=Am h
    cases h
    simp only [WI] at ho
    exact ⟨WO ho.1,WV ho.2⟩
   ·cases ho
  ·cases ho
 | binOp op t x y t'=>exact R6 h ho
 | convert a b x=>
  obtain ⟨_,h⟩:=Am h
  simp only [Ng] at ho
  split at ho
  ·rename_i k1 k2 n hk hx
   rw [hk,hx] at h
   unfold JG at h
   split at h
   ·rename_i heq _;cases heq
   ·exact BD h
   ·exact BD h
   ·cases h
  ·rename_i n hk hx
   rw [hk,hx] at h
   unfold JG at h
   split at h
   ·rename_i heq _;cases heq
   ·exact BD h
   ·exact BD h
   ·cases h
  ·cases ho
 | call c=>
  obtain ⟨callee,args,ts⟩:=c
  cases callee with
  | value f=>cases ho
  | invoke r m=>cases ho
  | builtin b=>
   cases b<;>first|(cases ho;done)|skip
   all_goals simp only [opA] at h
   ·split at h
    ·obtain ⟨_,h⟩:=Am h
     unfold MA at h
     split at h<;>first|exact BD h|cases h
    ·cases h
   ·split at h
    ·exact BD h
    ·cases h
   ·split at h
    ·exact BD h
    ·cases h
 | buildSlice t len parts=>
  obtain ⟨_,h⟩:=Am h
  split at h
  ·obtain ⟨_,h⟩:=Am h
   split at h
   ·rename_i r hr
    cases h
    refine P9 (parts:=parts.toList.map λ p=>(p.1,ev p.2)) ?_ hr
    rw [List.all_map]
    exact ho
   ·cases h
  ·cases h
 | indexAddr t x i=>
  obtain ⟨_,h⟩:=Am h
  simp only [Ng] at ho
  split at ho
  ·rename_i n esz k off k' m hk hx hi
   rw [hk,hx,hi] at h
   simp only [D8,Kd] at h
   exact Dd h (by simpa using ho)
  ·rename_i n esz a b c d k' m hk hx hi
   rw [hk,hx,hi] at h
   simp only [D8,Kd] at h
   exact Dd h (by simpa using ho)
  ·rename_i n esz a b k' m hk hx hi
   rw [hk,hx,hi] at h
   simp only [D8,Kd] at h
   exact Dd h (by simpa using ho)
  ·cases ho
 | _=>cases ho
end Go.AI
end
section
namespace Go.AI
def IT:AV->Bool
 | .gv _ _=>false
 | _=>true
theorem HX {g:Bool}:∀ {l:List AV},l.all IT=true->CF g l:=by
 intro l
 induction l with
 | nil=>intro _;trivial
 | cons v l ih=>
  intro h
  simp only [List.all_cons,WI] at h
  cases v<;>first|exact ih h.2|(cases h.1;done)
def R8:Op->Bool
 | .pick _ _ _=>true
 | .call ⟨.value _,_,_⟩=>true
 | _=>false
def Qa (Γ:Cx) (all:List Oper) (o:Oper) (st:St):Option St:=
 match AP all st.env o.guard with
 | none=>none
 | some g=>bif AZ Γ.nt o.dst&&!R8 o.op&&Ng Γ.ty (λ x=>unG (Ae st.env x)) st.objs o.op&&(o.op.operands.toList.map (Ae st.env)).all IT&&!(o.guard.isSome&&isW o.op) then
   (match opA Γ.ty (λ x=>unG (Ae st.env x)) st.objs o.op with
   | some e=>bif (e.upd.isSome&&o.guard.isSome)||!e.rm.isEmpty then none else some (Cc o.dst o.guard.isSome g e st)
   | none=>none)
  else none
theorem IU {Γ:Cx} {d:Bool} {o:Oper} {Q:St->Prop} {st:St} {g:Bool} (hpc:R8 o.op=false) (h:match opA Γ.ty (λ x=>unG (Ae st.env x)) st.objs o.op with
   | some e=>CF g (o.op.operands.toList.map (Ae st.env))/\(g=true->e.ob)/\(bif (e.upd.isSome&&o.guard.isSome)||(!e.rm.isEmpty&&(o.guard.isSome||(d&&!isW o.op))) then False else Q (Cc o.dst o.guard.isSome g e st))
   | none=>False):stepG Γ d o Q st g:=by
 unfold stepG
 split
 ·rename_i hop;rw [hop] at hpc;cases hpc
 ·rename_i hop;rw [hop] at hpc;cases hpc
 ·exact h
theorem Qb {Γ:Cx} {d:Bool} {all:List Oper} {o:Oper} {st st':St} {Q:St->Prop} (h:Qa Γ all o st=some st') (hq:Q st'):As Γ d all o Q st:=by
 unfold Qa at h
 unfold As
 cases hg:AP all st.env o.guard with
 | none=>rw [hg] at h;cases h
 | some g=>
  rw [hg] at h
  obtain ⟨hc,h⟩:=Am h
  simp only [WI,Bool.not_eq_true'] at hc
  obtain ⟨⟨⟨⟨h1,h2⟩,h3⟩,h4⟩,h5⟩:=hc
  simp only [h1,Wy,cond_false]
  split at h
  ·rename_i e he
   cases hb:(e.upd.isSome&&o.guard.isSome)||!e.rm.isEmpty with
   | true=>rw [hb] at h;cases h
   | false=>
    rw [hb,cond_false] at h
    cases h
    simp only [Bool.or_eq_false_iff,Bool.not_eq_false'] at hb
    obtain ⟨hb1,hb2⟩:=hb
    have hrm:e.rm=[]:=isEmpty_nil hb2
    refine ⟨λ _=>.inl (IU h2 ?_),λ hgf=>?_⟩
    ·rw [he]
     refine ⟨HX h4,λ _=>IS h3 he,?_⟩
     rw [hb1,hrm]
     exact hq
    ·have hgs:o.guard.isSome=true:=by
      cases hgo:o.guard with
      | none=>rw [hgo] at hg;cases hg;cases hgf
      | some x=>rfl
     have hupd:e.upd=none:=by
      rw [hgs,Bool.and_true] at hb1
      cases hu:e.upd with
      | none=>rfl
      | some x=>rw [hu] at hb1;cases hb1
     refine ⟨e.v,e.obs,λ hm=>?_,?_⟩
     ·rw [hgs,Bool.true_and] at h5
      exact JT h5 hm he
     ·subst hgf
      simp only [Cc,hrm,hupd,rmA,A4] at hq
      exact hq
  ·cases h
def OX (Γ:Cx) (all:List Oper):List Oper->St->Option St
 | [],st=>some st
 | o::l,st=>match Qa Γ all o st with
  | some st'=>OX Γ all l st'
  | none=>none
variable {Γ:Cx} {C:Code} {p p0 p1:List Nat} {Q:Ex->St->Prop} {s s':St} {K:St->Prop} {i:Nat}
theorem R9 {d:Bool} {all:List Oper}:∀ (l m:List Oper) (st:St),OX Γ all l st=some s'->D2 Γ d all m K s'->D2 Γ d all (l++m) K st:=by
 intro l
 induction l with
 | nil=>intro m st h hk;cases h;exact hk
 | cons o l ih=>
  intro m st h hk
  simp only [OX] at h
  split at h
  ·rename_i st1 h1
   exact Qb h1 (ih m st1 h hk)
  ·cases h
theorem UU (n j:Nat) (h:OX Γ (Az (nav p C)) (((Az (nav p C)).drop i).take n) s=some s') (hj:i+n=j) (hk:Ay Γ C p j K s'):Ay Γ C p i K s:=by
 unfold Ay at hk ⊢
 have:(Az (nav p C)).drop i=((Az (nav p C)).drop i).take n++(Az (nav p C)).drop j:=by
  rw [← hj,← List.drop_drop,List.take_append_drop]
 rw [this]
 exact R9 _ _ _ h hk
def Ef (x:Option Eff) (v:AV) (obs:List Ob) (rm:List Nat) (upd:Option (Nat×Ob)):Prop:=∃ ob,x=some ⟨v,obs,rm,upd,ob⟩/\ob
def IV (Γ:Cx) (c:Code) (i:Nat) (s:St):Option Eff:=
 match (Az c)[i]? with
 | some o=>opA Γ.ty (λ x=>unG (Ae s.env x)) s.objs o.op
 | none=>none
def J3 (Γ:Cx) (c:Code) (i:Nat) (v:AV) (obs:List Ob) (rm:List Nat) (upd:Option (Nat×Ob)) (s:St):Option St:=
 match (Az c)[i]? with
 | some o=>bif o.guard.isNone&&AZ Γ.nt o.dst&&!R8 o.op&&(o.op.operands.toList.map (Ae s.env)).all IT&&!(!rm.isEmpty&&(Gv c&&!isW o.op)) then some ⟨putA o.dst false true v s.env,A4 (rmA s.objs rm) upd++obs.map some⟩ else none
 | none=>none
theorem BV {all:List Oper} {o:Oper} (h:all[i]? = some o):all.drop i=o::all.drop (i+1):=by
 have hl:=Ac h
 rw [WH hl] at h
 cases h
 exact List.drop_eq_getElem_cons hl
theorem VR {v:AV} {obs:List Ob} {rm:List Nat} {upd:Option (Nat×Ob)} {x:Option Eff} (j:Nat) (hx:IV Γ (nav p C) i s=x) (ho:Ef x v obs rm upd) (hn:J3 Γ (nav p C) i v obs rm upd s=some s') (hj:i+1=j) (hk:Ay Γ C p j K s'):Ay Γ C p i K s:=by
 subst hj
 unfold Ay at hk ⊢
 unfold IV at hx
 unfold J3 at hn
 split at hn
 ·rename_i o hi
  rw [hi] at hx
  obtain ⟨hc,hn⟩:=Am hn
  simp only [WI,Bool.not_eq_true'] at hc
  obtain ⟨⟨⟨⟨h1,h2⟩,h3⟩,h4⟩,h5⟩:=hc
  cases hn
  rw [BV hi]
  show As _ _ _ _ _ _
  have hgN:o.guard=none:=by simpa using h1
  unfold As
  rw [hgN]
  simp only [AP,h2,Wy,cond_false]
  refine ⟨λ _=>.inl (IU h3 ?_),λ h=>by cases h⟩
  obtain ⟨ob,e1,hob⟩:=ho
  simp only [hx,e1]
  refine ⟨HX h4,λ _=>hob,?_⟩
  rw [hgN]
  simp only [Option.isSome_none,Bool.and_false,Bool.false_or,h5,cond_false]
  exact hk
 ·cases hn
def CJ (g:Bool):List Bool->Prop
 | []=>True
 | b::r=>(g=true->b=true)/\CJ g r
theorem BM {g:Bool}:CJ g []:=trivial
theorem CP {g b:Bool} {r:List Bool} (h:g=true->b=true) (hr:CJ g r):CJ g (b::r):=⟨h,hr⟩
def gvs:List AV->List Bool
 | []=>[]
 | .gv g _::r=>g::gvs r
 | _::r=>gvs r
theorem Eg {g:Bool}:∀ {l:List AV},CJ g (gvs l)->CF g l:=by
 intro l
 induction l with
 | nil=>intro _;trivial
 | cons v l ih=>
  intro h
  cases v<;>first|exact ih h|exact ⟨h.1,ih h.2⟩
def gAt (c:Code) (i:Nat) (s:St):Option Bool:=
 match (Az c)[i]? with
 | some o=>match o.guard with
  | some x=>AP (Az c) s.env (some x)
  | none=>none
 | none=>none
def CK (c:Code) (i:Nat) (s:St):List Bool:=
 match (Az c)[i]? with
 | some o=>gvs (o.op.operands.toList.map (Ae s.env))
 | none=>[]
def Gw (Γ:Cx) (c:Code) (i:Nat) (g:Bool) (v:AV) (obs:List Ob) (s:St):Option St:=
 match (Az c)[i]? with
 | some o=>bif o.guard.isSome&&AZ Γ.nt o.dst&&!R8 o.op&&(BO o.op||obs.isEmpty) then some ⟨putA o.dst true g v s.env,s.objs++obs.map some⟩ else none
 | none=>none
theorem SI {g:Bool} {v:AV} {obs:List Ob} {x:Option Eff} {gs:List Bool} (j:Nat) (hg:gAt (nav p C) i s=some g) (hx:IV Γ (nav p C) i s=x) (ho:g=true->Ef x v obs [] none) (hgs:CK (nav p C) i s=gs) (hi:CJ g gs) (hn:Gw Γ (nav p C) i g v obs s=some s') (hj:i+1=j) (hk:Ay Γ C p j K s'):Ay Γ C p i K s:=by
 subst hj
 unfold Ay at hk ⊢
 unfold IV at hx
 unfold Gw at hn
 unfold gAt at hg
 unfold CK at hgs
 split at hn
 ·rename_i o hii
  rw [hii] at hx hg hgs
  simp only at hx hg hgs
  obtain ⟨hc,hn⟩:=Am hn
  simp only [WI,Bool.not_eq_true'] at hc
  obtain ⟨⟨⟨h1,h2⟩,h3⟩,h4⟩:=hc
  cases hn
  rw [BV hii]
  show As _ _ _ _ _ _
  unfold As
  cases hgo:o.guard with
  | none=>rw [hgo] at h1;cases h1
  | some y=>
   rw [hgo] at hg
   simp only at hg
   simp only [hg,h2,Wy,cond_false]
   refine ⟨λ hgt=>.inl (IU h3 ?_),λ hgf=>⟨v,obs,λ hm=>?_,?_⟩⟩
   ·obtain ⟨ob,e1,hob⟩:=ho hgt
    simp only [hx,e1]
    refine ⟨Eg (by rw [hgs];exact hi),λ _=>hob,?_⟩
    simp only [Option.isSome_none,Bool.false_and,List.isEmpty_nil,Wy,Bool.or_self,cond_false,hgo]
    exact hk
   ·rw [hm,Bool.false_or] at h4
    exact isEmpty_nil h4
   ·subst hgf;exact hk
 ·cases hn
def Ga (c:Code) (i:Nat) (s:St):Option Eff:=
 match (Az c)[i]? with
 | some o=>match o.op with
  | .pick x y z=>Do (Ae s.env x) (Ae s.env y) (Ae s.env z)
  | _=>none
 | none=>none
def J4 (Γ:Cx) (c:Code) (i:Nat) (v:AV) (s:St):Option St:=
 match (Az c)[i]? with
 | some o=>bif o.guard.isNone&&AZ Γ.nt o.dst then some ⟨putA o.dst false true v s.env,s.objs⟩ else none
 | none=>none
def KJ (Γ:Cx) (c:Code) (i:Nat) (g:Bool) (v:AV) (s:St):Option St:=
 match (Az c)[i]? with
 | some o=>bif o.guard.isSome&&AZ Γ.nt o.dst then some ⟨putA o.dst true g v s.env,s.objs⟩ else none
 | none=>none
theorem SJ {v:AV} {x:Option Eff} (j:Nat) (hx:Ga (nav p C) i s=x) (ho:Ef x v [] [] none) (hn:J4 Γ (nav p C) i v s=some s') (hj:i+1=j) (hk:Ay Γ C p j K s'):Ay Γ C p i K s:=by
 subst hj
 unfold Ay at hk ⊢
 unfold Ga at hx
 unfold J4 at hn
 split at hn
 ·rename_i o hi
  rw [hi] at hx
  simp only at hx
  obtain ⟨hc,hn⟩:=Am hn
  simp only [WI] at hc
  obtain ⟨h1,h2⟩:=hc
  cases hn
  obtain ⟨ob,e1,hob⟩:=ho
  rw [BV hi]
  show As _ _ _ _ _ _
  have hgN:o.guard=none:=by simpa using h1
  split at hx
  ·rename_i a b c hop
   unfold As
   rw [hgN]
   simp only [AP,h2,Wy,cond_false]
   refine ⟨λ _=>.inl ?_,λ h=>by cases h⟩
   unfold stepG
   rw [hop]
   have:opA Γ.ty (Ae s.env) s.objs (.pick a b c)=some ⟨v,[],[],none,ob⟩:=by rw [← e1,← hx];rfl
   simp only [this]
   refine ⟨λ _=>hob,?_⟩
   rw [hgN]
   simpa [Cc,rmA,A4] using hk
  ·rw [← hx] at e1;cases e1
 ·cases hn
theorem Tf {g:Bool} {v:AV} {x:Option Eff} (j:Nat) (hg:gAt (nav p C) i s=some g) (hx:Ga (nav p C) i s=x) (ho:g=true->Ef x v [] [] none) (hn:KJ Γ (nav p C) i g v s=some s') (hj:i+1=j) (hk:Ay Γ C p j K s'):Ay Γ C p i K s:=by
 subst hj
 unfold Ay at hk ⊢
 unfold Ga at hx
 unfold gAt at hg
 unfold KJ at hn
 split at hn
 ·rename_i o hi
  rw [hi] at hx hg
  simp only at hx hg
  obtain ⟨hc,hn⟩:=Am hn
  simp only [WI] at hc
  obtain ⟨h1,h2⟩:=hc
  cases hn
  rw [BV hi]
  show As _ _ _ _ _ _
  cases hgo:o.guard with
  | none=>rw [hgo] at h1;cases h1
  | some y=>
   rw [hgo] at hg
   simp only at hg
   unfold As
   rw [hgo]
   simp only [hg,h2,Wy,cond_false]
   refine ⟨λ hgt=>.inl ?_,λ hgf=>⟨v,[],λ _=>rfl,?_⟩⟩
   ·obtain ⟨ob,e1,hob⟩:=ho hgt
    split at hx
    ·rename_i a b c hop
     unfold stepG
     rw [hop]
     have:opA Γ.ty (Ae s.env) s.objs (.pick a b c)=some ⟨v,[],[],none,ob⟩:=by rw [← e1,← hx];rfl
     simp only [this]
     refine ⟨λ _=>hob,?_⟩
     rw [hgo]
     simpa [Cc,rmA,A4] using hk
    ·rw [← hx] at e1;cases e1
   ·subst hgf;simpa using hk
 ·cases hn
end Go.AI
end
section
namespace Go.AI
def DF:List (Nat×Nat)->Prop
 | []=>True
 | (a,b)::r=>a<=b/\DF r
theorem leZ:DF []:=trivial
theorem leK {a b:Nat} {r:List (Nat×Nat)} (h:a<=b) (hr:DF r):DF ((a,b)::r):=⟨h,hr⟩
theorem Gx {l m:List (Nat×Nat)} (h:DF (l++m)):DF l/\DF m:=by
 induction l with
 | nil=>exact ⟨trivial,h⟩
 | cons a l ih=>exact ⟨⟨h.1,(ih h.2).1⟩,(ih h.2).2⟩
def xD (objs:List (Option Ob)):AV->Option (D×List Nat×List (Nat×Nat))
 | .d .nil=>some (.sl [],[],[])
 | .d x=>some (x,[],[])
 | .osl k sz lo n=>match obA objs k with
  | some (.arr sz' es)=>bif Nat.beq sz sz' then some (.sl ((es.drop lo).take n),[k],[(lo+n,es.length)]) else none
  | _=>none
 | _=>none
def xDs (objs:List (Option Ob)):List AV->Option (List D×List Nat×List (Nat×Nat))
 | []=>some ([],[],[])
 | v::vs=>match xD objs v,xDs objs vs with
  | some (x,k,o),some (xs,ks,os)=>some (x::xs,k++ks,o++os)
  | _,_=>none
def xA (objs:List (Option Ob)):AV->Option (AV×List Nat×List (Nat×Nat))
 | .agg l=>match xDs objs l with
  | some (x,k,o)=>some (.agg (x.map .d),k,o)
  | none=>none
 | .ptr k off=>match obA objs k with
  | some (.box cells)=>match xDs objs cells with
   | some (x,ks,o)=>bif ks.contains k then none else some (.dptr x off,k::ks,o)
   | none=>none
  | _=>none
 | .eptr k sz i off=>match obA objs k with
  | some (.arr sz' es)=>bif Nat.beq sz sz' then some (.dptr (es[i]?.getD []) off,[k],[(i+1,es.length)]) else none
  | some (.narr sz' es)=>bif Nat.beq sz sz' then some (.dptr ((es[i]?.getD []).map ofN) off,[k],[(i+1,es.length),(K7 es,0)]) else none
  | _=>none
 | .dptr e off=>some (.dptr e off,[],[])
 | .osl k sz lo n=>match obA objs k with
  | some (.narr sz' es)=>bif Nat.beq sz sz' then some (.d (.sl (((es.drop lo).take n).map λ e=>e.map ofN)),[k],[(lo+n,es.length),(K7 es,0)]) else none
  | _=>match xD objs (.osl k sz lo n) with
   | some (x,k,o)=>some (.d x,k,o)
   | none=>none
 | v=>match xD objs v with
  | some (x,k,o)=>some (.d x,k,o)
  | none=>none
def xAs (objs:List (Option Ob)):List AV->Option (List AV×List Nat×List (Nat×Nat))
 | []=>some ([],[],[])
 | v::vs=>match xA objs v,xAs objs vs with
  | some (x,k,o),some (xs,ks,os)=>some (x::xs,k++ks,o++os)
  | _,_=>none
theorem Qc {objs:List (Option Ob)} {v:AV} {x:D} {ks:List Nat} {o:List (Nat×Nat)} (h:xD objs v=some (x,ks,o)) (ho:DF o):∃ ob,Ep objs v=some ⟨x,ks,ob⟩/\ob:=by
 unfold xD at h
 split at h
 ·cases h;exact ⟨_,rfl,trivial⟩
 ·rename_i y hy
  cases h
  refine ⟨True,?_,trivial⟩
  unfold Ep
  split
  ·rename_i e;cases e;exact absurd rfl hy
  ·rename_i e;cases e;rfl
  ·rename_i e;cases e
  ·rename_i e1 _;exact absurd rfl (e1 _)
 ·rename_i k sz lo n
  split at h
  ·rename_i sz' es hob
   obtain ⟨hb,h⟩:=Am h
   cases h
   refine ⟨_,?_,ho.1⟩
   simp only [Ep,hob,hb,cond_true]
  ·cases h
 ·cases h
theorem KK {objs:List (Option Ob)}:∀ {l:List AV} {x:List D} {ks:List Nat} {o:List (Nat×Nat)},xDs objs l=some (x,ks,o)->DF o->∃ ob,B4 objs l=some ⟨x,ks,ob⟩/\ob:=by
 intro l
 induction l with
 | nil=>intro x ks o h _;cases h;exact ⟨_,rfl,trivial⟩
 | cons v l ih=>
  intro x ks o h ho
  simp only [xDs] at h
  split at h
  ·rename_i a b c a' b' c' h1 h2
   cases h
   obtain ⟨o1,o2⟩:=Gx ho
   obtain ⟨p1,e1,q1⟩:=Qc h1 o1
   obtain ⟨p2,e2,q2⟩:=ih h2 o2
   exact ⟨p1/\p2,by simp only [B4,e1,e2],q1,q2⟩
  ·cases h
theorem UV {objs:List (Option Ob)} {v x:AV} {ks:List Nat} {o:List (Nat×Nat)} (h:xA objs v=some (x,ks,o)) (ho:DF o):∃ ob,Ge objs v=some ⟨x,ks,ob⟩/\ob:=by
 unfold xA at h
 split at h
 ·split at h
  ·rename_i h1
   cases h
   obtain ⟨p1,e1,q1⟩:=KK h1 ho
   exact ⟨_,by simp only [Ge,e1],q1⟩
  ·cases h
 ·rename_i k off
  split at h
  ·rename_i cells hk
   split at h
   ·rename_i x ks' o' h1
    cases hc:ks'.contains k with
    | true=>rw [hc] at h;cases h
    | false=>
     rw [hc,cond_false] at h
     cases h
     obtain ⟨p1,e1,q1⟩:=KK h1 ho
     refine ⟨k ∉ ks'/\p1,by simp only [Ge,hk,e1],?_,q1⟩
     intro hm
     rw [List.contains_iff_mem.2 hm] at hc
     cases hc
   ·cases h
  ·cases h
 ·rename_i k sz i off
  split at h
  ·rename_i sz' es hk
   obtain ⟨hb,h⟩:=Am h
   cases h
   exact ⟨sz=sz'/\i<es.length,by simp only [Ge,hk],WO hb,ho.1⟩
  ·rename_i sz' es hk
   obtain ⟨hb,h⟩:=Am h
   cases h
   exact ⟨sz=sz'/\i<es.length/\K7 es=0,by simp only [Ge,hk],WO hb,ho.1,Nat.le_zero.1 ho.2.1⟩
  ·cases h
 ·cases h;exact ⟨_,rfl,trivial⟩
 ·rename_i k sz lo n
  split at h
  ·rename_i sz' es hk
   obtain ⟨hb,h⟩:=Am h
   cases h
   exact ⟨lo+n<=es.length/\K7 es=0,by simp only [Ge,hk,hb,cond_true],ho.1,Nat.le_zero.1 ho.2.1⟩
  ·rename_i hne
   split at h
   ·rename_i h1
    cases h
    obtain ⟨p1,e1,q1⟩:=Qc h1 ho
    exact ⟨p1,by simp only [Ge,e1],q1⟩
   ·cases h
 ·rename_i hn1 hn2 hn3 hn4 hn5
  split at h
  ·rename_i h1
   cases h
   obtain ⟨p1,e1,q1⟩:=Qc h1 ho
   refine ⟨p1,?_,q1⟩
   unfold Ge
   split
   ·exact absurd rfl (hn1 _)
   ·exact absurd rfl (hn2 _ _)
   ·exact absurd rfl (hn3 _ _ _ _)
   ·exact absurd rfl (hn4 _ _)
   ·exact absurd rfl (hn5 _ _ _ _)
   ·rw [e1]
  ·cases h
theorem Qd {objs:List (Option Ob)}:∀ {l:List AV} {x:List AV} {ks:List Nat} {o:List (Nat×Nat)},xAs objs l=some (x,ks,o)->DF o->∃ ob,FN objs l=some ⟨x,ks,ob⟩/\ob:=by
 intro l
 induction l with
 | nil=>intro x ks o h _;cases h;exact ⟨_,rfl,trivial⟩
 | cons v l ih=>
  intro x ks o h ho
  simp only [xAs] at h
  split at h
  ·rename_i a b c a' b' c' h1 h2
   cases h
   obtain ⟨o1,o2⟩:=Gx ho
   obtain ⟨p1,e1,q1⟩:=UV h1 o1
   obtain ⟨p2,e2,q2⟩:=ih h2 o2
   exact ⟨p1/\p2,by simp only [FN,e1,e2],q1,q2⟩
  ·cases h
def Fq (c:Code) (i:Nat) (s:St):Option (FuncId×List AV×List Nat×List (Nat×Nat)):=
 match (Az c)[i]? with
 | some o=>match o.op with
  | .call ⟨.value (.func f),args,_⟩=>match xAs s.objs (args.toList.map λ x=>unG (Ae s.env x)) with
   | some (x,ks,os)=>some (f,x,ks,os)
   | none=>none
  | _=>none
 | none=>none
def J5:List AV->List Nat
 | []=>[]
 | .own _ es::r=>es.length::J5 r
 | _::r=>J5 r
def L5:AV->List Nat
 | .own _ es=>[es.length]
 | .agg l=>J5 l
 | _=>[]
def L6:List AV->List Nat
 | []=>[]
 | v::r=>L5 v++L6 r
def EY:AV->List Nat
 | .tup l=>L6 l
 | v=>L5 v
def ilC (m:Bool) (n:Nat):List Nat->List AV->List AV×List Nat
 | ls,[]=>([],ls)
 | ls,.own sz es::r=>bif m then (.osl n sz 0 (ls.headD 0)::(ilC m (n+1) ls.tail r).1,(ilC m (n+1) ls.tail r).2) else (.d (.sl es)::(ilC m n ls.tail r).1,(ilC m n ls.tail r).2)
 | ls,.d x::r=>(.d x::(ilC m n ls r).1,(ilC m n ls r).2)
 | ls,_::r=>(.top::(ilC m n ls r).1,(ilC m n ls r).2)
def ilA (m:Bool) (n:Nat) (ls:List Nat):AV->AV×List Nat
 | .own sz es=>bif m then (.osl n sz 0 (ls.headD 0),ls.tail) else (.d (.sl es),ls.tail)
 | .agg l=>(.agg (ilC m n ls l).1,(ilC m n ls l).2)
 | .d x=>(.d x,ls)
 | _=>(.top,ls)
def ilT (m:Bool) (n:Nat):List Nat->List AV->List AV
 | _,[]=>[]
 | ls,v::r=>(ilA m n ls v).1::ilT m (n+(A5 m n v).2.length) (ilA m n ls v).2 r
def ilR (m:Bool) (n:Nat) (ls:List Nat):AV->AV
 | .tup l=>.tup (ilT m n ls l)
 | v=>(ilA m n ls v).1
theorem Tg (m:Bool):∀ (l:List AV) (n:Nat) (rest:List Nat),ilC m n (J5 l++rest) l=((AD m n l).1,rest):=by
 intro l
 induction l with
 | nil=>intro n rest;rfl
 | cons v l ih=>
  intro n rest
  cases v<;>simp only [J5,List.cons_append,ilC,AD,List.headD_cons,List.tail_cons,ih]<;>try rfl
  cases m<;>simp only [cond_true,cond_false]
theorem Nh (m:Bool) (v:AV) (n:Nat) (rest:List Nat):ilA m n (L5 v++rest) v=((A5 m n v).1,rest):=by
 cases v with
 | own sz es=>cases m<;>rfl
 | agg l=>simp only [L5,ilA,A5,Tg]
 | _=>rfl
theorem Th (m:Bool):∀ (l:List AV) (n:Nat),ilT m n (L6 l) l=(Bw m n l).1:=by
 intro l
 induction l with
 | nil=>intro n;rfl
 | cons v l ih=>intro n;simp only [L6,ilT,Bw,Nh,ih]
theorem Qe (m:Bool) (n:Nat) (r:AV) {ls:List Nat} (h:EY r=ls):ilR m n ls r=(AX m n r).1:=by
 subst h
 cases r with
 | tup l=>simp only [EY,ilR,AX,Th]
 | own sz es=>have:=Nh m (.own sz es) n [];simp only [List.append_nil] at this;simp only [EY,ilR,AX,this]
 | agg l=>have:=Nh m (.agg l) n [];simp only [List.append_nil] at this;simp only [EY,ilR,AX,this]
 | _=>rfl
def HB (Γ:Cx) (c:Code) (i:Nat) (m:Bool) (ls:List Nat) (r:AV) (s:St):Option St:=
 match (Az c)[i]? with
 | some o=>bif o.guard.isNone&&AZ Γ.nt o.dst&&(o.op.operands.toList.map (Ae s.env)).all IT then some ⟨putA o.dst false true (ilR m s.objs.length ls r) s.env,s.objs++(AX m s.objs.length r).2.map some⟩ else none
 | none=>none
def KL (Γ:Cx) (c:Code) (i:Nat) (g m:Bool) (ls:List Nat) (r:AV) (s:St):Option St:=
 match (Az c)[i]? with
 | some o=>bif o.guard.isSome&&AZ Γ.nt o.dst then some ⟨putA o.dst true g (ilR m s.objs.length ls r) s.env,s.objs++(AX m s.objs.length r).2.map some⟩ else none
 | none=>none
variable {Γ:Cx} {C:Code} {p p0 p1:List Nat} {Q:Ex->St->Prop} {s s':St} {K:St->Prop} {i:Nat} {nk:Nat}
theorem NR {o:Oper} {f:FuncId} {args:Array Operand} {ts:Array TypeId} (hop:o.op=.call ⟨.value (.func f),args,ts⟩) {env:List (Nat×AV)} (h:(o.op.operands.toList.map (Ae env)).all IT=true):(args.toList.map (Ae env)).all IT=true:=by
 rw [hop] at h
 simp only [Op.operands,Call.operands] at h
 simp only [Array.toList_append,List.map_append,List.all_append,WI] at h
 exact h.2
theorem Qf (j:Nat) (m:Bool) {f:FuncId} {xs ys:List AV} {ks:List Nat} {obl:List (Nat×Nat)} {r:AV} (hc:Fq (nav p C) i s=some (f,xs,ks,obl)) (hob:DF obl) (hxs:xs=ys) (hr:Γ.calls f ys r) (hf:ks=[]\/Ff r) {ls:List Nat} (hls:EY r=ls) (hn:HB Γ (nav p C) i m ls r s=some s') (hj:i+1=j) (hk:Ay Γ C p j K s'):Ay Γ C p i K s:=by
 subst hj
 subst hxs
 unfold Ay at hk ⊢
 unfold Fq at hc
 unfold HB at hn
 rw [Qe m _ r hls] at hn
 split at hn
 ·rename_i o hi
  rw [hi] at hc
  simp only at hc
  obtain ⟨hcc,hn⟩:=Am hn
  simp only [WI] at hcc
  obtain ⟨⟨h1,h2⟩,h3⟩:=hcc
  cases hn
  rw [BV hi]
  show As _ _ _ _ _ _
  have hgN:o.guard=none:=by simpa using h1
  split at hc
  ·rename_i f' args ts hop
   split at hc
   ·rename_i x ks' os hx
    cases hc
    obtain ⟨ob,e1,q1⟩:=Qd hx hob
    unfold As
    rw [hgN]
    simp only [AP,h2,Wy,cond_false]
    refine ⟨λ _=>.inl ?_,λ h=>by cases h⟩
    unfold stepG
    rw [hop]
    refine ⟨HX (NR hop h3),?_⟩
    unfold EW
    rw [e1]
    refine ⟨λ _=>q1,m,r,λ _=>hr,?_,?_⟩
    ·rcases hf with rfl|hf
     ·trivial
     ·cases ks.isEmpty<;>first|trivial|exact hf
    ·rw [hgN];exact hk
   ·cases hc
  ·cases hc
 ·cases hn
theorem UW {g:Bool} {gs:List Bool} (j:Nat) (m:Bool) {f:FuncId} {xs ys:List AV} {ks:List Nat} {obl:List (Nat×Nat)} {r:AV} (hg:gAt (nav p C) i s=some g) (hc:Fq (nav p C) i s=some (f,xs,ks,obl)) (hob:DF obl) (hxs:xs=ys) (hr:g=true->Γ.calls f ys r) (hf:ks=[]\/Ff r) (hgs:CK (nav p C) i s=gs) (hi:CJ g gs) {ls:List Nat} (hls:EY r=ls) (hn:KL Γ (nav p C) i g m ls r s=some s') (hj:i+1=j) (hk:Ay Γ C p j K s'):Ay Γ C p i K s:=by
 subst hj
 subst hxs
 unfold Ay at hk ⊢
 unfold Fq at hc
 unfold gAt at hg
 unfold CK at hgs
 unfold KL at hn
 rw [Qe m _ r hls] at hn
 split at hn
 ·rename_i o hii
  rw [hii] at hc hg hgs
  simp only at hc hg hgs
  obtain ⟨hcc,hn⟩:=Am hn
  simp only [WI] at hcc
  obtain ⟨h1,h2⟩:=hcc
  cases hn
  rw [BV hii]
  show As _ _ _ _ _ _
  cases hgo:o.guard with
  | none=>rw [hgo] at h1;cases h1
  | some y=>
   rw [hgo] at hg
   simp only at hg
   split at hc
   ·rename_i f' args ts hop
    split at hc
    ·rename_i x ks' os hx
     cases hc
     obtain ⟨ob,e1,q1⟩:=Qd hx hob
     unfold As
     rw [hgo]
     simp only [hg,h2,Wy,cond_false]
     refine ⟨λ hgt=>.inl ?_,λ hgf=>⟨(AX m s.objs.length r).1,(AX m s.objs.length r).2,(λ hm=>by rw [hop] at hm;cases hm),?_⟩⟩
     ·unfold stepG
      rw [hop]
      refine ⟨?_,?_⟩
      ·have:=Eg (g:=g) (l:=o.op.operands.toList.map (Ae s.env)) (by rw [hgs];exact hi)
       rw [hop] at this
       simp only [Op.operands,Call.operands,Array.toList_append,List.map_append] at this
       exact this
      ·unfold EW
       rw [e1]
       refine ⟨λ _=>q1,m,r,hr,?_,?_⟩
       ·rcases hf with rfl|hf
        ·trivial
        ·cases ks.isEmpty<;>first|trivial|exact hf
       ·rw [hgo];exact hk
     ·subst hgf;exact hk
    ·cases hc
   ·cases hc
 ·cases hn
def Qg (ty:Nat->Ty) (s:St):ResultVar->Option AV
 | .tmp t=>some (lkA s.env t)
 | .cell a t=>match lkA s.env a with
  | .ptr k off=>match obA s.objs k with
   | some (.box cells)=>bif (ty t).ok&&Nat.ble (off+(ty t).size) cells.length then BF cells off (ty t) else none
   | _=>none
  | _=>none
def L7 (ty:Nat->Ty) (s:St):List ResultVar->Option (List AV)
 | []=>some []
 | r::rs=>match Qg ty s r,L7 ty s rs with
  | some v,some vs=>some (v::vs)
  | _,_=>none
theorem Qh {ty:Nat->Ty} {r:ResultVar} {v:AV} (h:Qg ty s r=some v):∃ q,OP ty s r=some (v,q)/\q:=by
 cases r with
 | tmp t=>cases h;exact ⟨_,rfl,trivial⟩
 | cell a t=>
  simp only [Qg] at h
  split at h
  ·rename_i k off ha
   split at h
   ·rename_i cells hc
    obtain ⟨hb,h⟩:=Am h
    simp only [WI] at hb
    refine ⟨_,?_,WV hb.2⟩
    simp only [OP,hb.1,cond_true,ha,Ci,hc,h,AO]
   ·cases h
  ·cases h
theorem NS {ty:Nat->Ty}:∀ {rs:List ResultVar} {vs:List AV},L7 ty s rs=some vs->∃ q,IK ty s rs=some (vs,q)/\q:=by
 intro rs
 induction rs with
 | nil=>intro vs h;cases h;exact ⟨_,rfl,trivial⟩
 | cons r rs ih=>
  intro vs h
  simp only [L7] at h
  split at h
  ·rename_i v vs' h1 h2
   cases h
   obtain ⟨p1,e1,q1⟩:=Qh h1
   obtain ⟨p2,e2,q2⟩:=ih h2
   exact ⟨p1/\p2,by simp only [IK,e1,e2],q1,q2⟩
  ·cases h
theorem UX {ty:Nat->Ty} {rs:List ResultVar} {v r:AV} (ks:List Nat) (h:L7 ty s rs=some [v]) (ho:Iz s.objs v r) (hks:ksE (FL v r)=ks) (hnd:ks.Nodup):OQ ty rs r s:=by
 have hn:(ksE (FL v r)).Nodup:=by rw [hks];exact hnd
 obtain ⟨q,e,hq⟩:=NS h
 unfold OQ
 rw [e]
 exact ⟨hq,ho,hn⟩
theorem Ni {objs:List (Option Ob)} {x:D}:F7 objs (.d x) (.d x):=by
 cases x<;>first|rfl|exact .inl rfl
theorem OY {objs:List (Option Ob)} {sz:Nat}:F7 objs (.d .nil) (.own sz []):=rfl
theorem Qi {α:Type} {enc:α->List D} {xs:List α} {objs:List (Option Ob)} {k sz:Nat} (h:obA objs k=some (.arr sz (xs.map enc))):F7 objs (.osl k sz 0 xs.length) (.own sz (xs.map enc)):=by
 have hb:Nat.beq sz sz=true:=Nat.beq_refl sz
 simp only [F7,h,hb,cond_true,WF,WU,Wz,List.drop_zero,true_and]
 exact (List.take_of_length_le (by simp)).symm
def IW (c:Code) (i:Nat) (s:St):Option (FuncId×List AV×List Nat):=
 match (Az c)[i]? with
 | some o=>match o.op with
  | .call ⟨.value (.func f),args,_⟩=>some (f,args.toList.map λ x=>unG (Ae s.env x),Ah s.objs (args.toList.map λ x=>unG (Ae s.env x)))
  | _=>none
 | none=>none
def NT (Γ:Cx) (c:Code) (i:Nat) (ord:List Nat) (nb:Nat) (r:AV) (O1:List (Option Ob)) (s:St):Option St:=
 match (Az c)[i]? with
 | some o=>bif !Gv c&&o.guard.isNone&&AZ Γ.nt o.dst&&(o.op.operands.toList.map (Ae s.env)).all IT&&Nat.ble nb ord.length&&Nat.ble nb O1.length&&ord.all (λ k=>Nat.blt k s.objs.length) then
   some ⟨putA o.dst false true (E8 (BQ ord s.objs.length nb) r) s.env,Bg s.objs ord nb O1⟩ else none
 | none=>none
theorem lentS {f:FuncId} {xs ys:List AV} {ord:List Nat} {O0 O1:List (Option Ob)} {nb:Nat} {r:AV} (hc:IW (nav p C) i s=some (f,xs,ord)) (hxs:xs.map (C7 ord)=ys) (hO:BP s.objs ord=O0) (hr:Γ.lent f ys O0 nb r O1) (hn:NT Γ (nav p C) i ord nb r O1 s=some s') (hk:Ay Γ C p (i+1) K s'):Ay Γ C p i K s:=by
 subst hxs
 subst hO
 unfold Ay at hk ⊢
 unfold IW at hc
 unfold NT at hn
 split at hn
 ·rename_i o hi
  rw [hi] at hc
  simp only at hc
  obtain ⟨hcc,hn⟩:=Am hn
  simp only [WI,Bool.not_eq_true'] at hcc
  obtain ⟨⟨⟨⟨⟨⟨h0,h1⟩,h2⟩,h3⟩,h4⟩,h5⟩,h6⟩:=hcc
  cases hn
  rw [BV hi]
  show As _ _ _ _ _ _
  have hgN:o.guard=none:=by simpa using h1
  split at hc
  ·rename_i f' args ts hop
   cases hc
   unfold As
   rw [hgN]
   simp only [AP,h2,Wy,cond_false]
   refine ⟨λ _=>.inr (.inr ?_),λ h=>by cases h⟩
   unfold NE
   refine ⟨h0,.inr ⟨hgN,.inr ?_⟩⟩
   rw [hop]
   refine ⟨HX (NR hop h3),nb,r,O1,hr,WV h4,WV h5,λ k hk=>?_,hk⟩
   have:=Wv.1 h6 k hk
   have:=WV this
   omega
  ·cases hc
 ·cases hn
theorem UY {P:Program} (hfol:P.follows .mixedOrders=true) (hΓ:CG P Γ) (hrd:Γ.rd=false) {f:FuncId} {fn:Func} {args:List AV} {r:AV} (hf:P.funcs[f]? = some fn) (hb:fn.body=some (AM fn)) (hnm:(fn.name == "runtime.NumGoroutine")=false)
  (hnt:Γ.nt.n=fn.ntmps) (hlen:Nat.ble args.length fn.ntmps=true) (hs:(⟨(List.range args.length).zip args,[]⟩:St)=s) (h:wpA Γ (nav [] (AM fn)) (LZ Γ.ty fn.results.toList r) s):AB P f args r:=
 OS hfol hΓ hrd hf hb hnm hnt (WV hlen) (by rw [hs];exact h)
theorem Sa {P:Program} (hfol:P.follows .mixedOrders=true) (hΓ:CG P Γ) (hrd:Γ.rd=false) {f:FuncId} {fn:Func} {args:List AV} {objs objs1:List (Option Ob)} {nb:Nat} {r:AV} (hf:P.funcs[f]? = some fn) (hb:fn.body=some (AM fn)) (hnm:(fn.name == "runtime.NumGoroutine")=false)
  (hnt:Γ.nt=⟨fn.ntmps,[],nb,Γ.nt.qf⟩) (hlen:Nat.ble args.length fn.ntmps=true)
  (hs:(⟨(List.range args.length).zip args,objs⟩:St)=s) (h:wpA Γ (nav [] (AM fn)) (J1 nb Γ.ty fn.results.toList r objs1) s):Ba P f args objs nb r objs1:=
 OU hfol hΓ hrd hf hb hnm hnt (WV hlen) (by rw [hs];exact h)
theorem UZ (ts:List Nat) (h:gcA nk ts s=s'):Au nk s s':=by subst h;exact .gc ts
theorem Sb:Au nk s s:=.refl s
def Gy (s:St) (k:Nat):List AV:=
 match obA s.objs k with
 | some (.box cells)=>cells
 | _=>[]
def NU (s:St) (k:Nat):Bool:=
 match obA s.objs k with
 | some (.box _)=>true
 | _=>false
theorem L8 {k:Nat} (h:NU s k=true):obA s.objs k=some (.box (Gy s k)):=by
 unfold NU at h
 unfold Gy
 split at h
 ·rename_i hh;rw [hh]
 ·cases h
theorem NV (k i sz:Nat) (h:(NU s k,(Gy s k)[i]?)=(true,some (.d .nil))):Au nk s ⟨s.env,s.objs.set k (some (.box ((Gy s k).set i (.osl s.objs.length sz 0 0))))++[some (.arr sz [])]⟩:=by
 simp only [Prod.mk.injEq] at h
 exact .nilc k i sz _ (L8 h.1) h.2
def Qj (s:St):AV->Option (Nat×Nat×Nat×Nat×List (List D))
 | .osl k sz lo n=>match obA s.objs k with
  | some (.arr sz' es)=>bif Nat.beq sz sz' then some (k,sz,lo,n,es) else none
  | _=>none
 | _=>none
theorem Qk {v:AV} {k sz lo n:Nat} {es:List (List D)} (h:Qj s v=some (k,sz,lo,n,es)):v=.osl k sz lo n/\obA s.objs k=some (.arr sz es):=by
 unfold Qj at h
 split at h
 ·split at h
  ·rename_i hob
   obtain ⟨hb,h1⟩:=Am h
   clear h
   have h:=h1
   have:=WO hb
   subst this
   simp only [WR,Prod.mk.injEq] at h
   obtain ⟨rfl,rfl,rfl,rfl,rfl⟩:=h
   exact ⟨rfl,hob⟩
  ·cases h
 ·cases h
theorem KM (kb i:Nat) (E:List (List D)) (M:Nat) {k sz lo n:Nat} {es:List (List D)} (h:(NU s kb,((Gy s kb)[i]?).bind (Qj s))=(true,some (k,sz,lo,n,es))) (hE:(es.drop lo).take n=E) (hn:lo+n<=es.length) (hM:n=M):Au nk s ⟨s.env,(s.objs.set k none).set kb (some (.box ((Gy s kb).set i (.osl s.objs.length sz 0 M))))++[some (.arr sz E)]⟩:=by
 subst hE
 subst hM
 simp only [Prod.mk.injEq,Option.bind_eq_some_iff] at h
 obtain ⟨h0,v,hv,h⟩:=h
 obtain ⟨h1,h2⟩:=Qk h
 subst h1
 exact .subC kb i k sz lo n _ es (L8 h0) hv h2 hn
theorem Ti (t k sz lo n m:Nat) (h:lkA s.env t=.osl k sz lo n) (e:n=m):Au nk s ⟨(t,.osl k sz lo m)::s.env,s.objs⟩:=by
 subst e
 have:=Au.dup (nk:=nk) (st:=s) t
 rwa [h] at this
theorem Gz {α:Type} {enc:α->List D} {xs:List α}:((xs.map enc).drop 0).take xs.length=xs.map enc:=by
 rw [List.drop_zero];exact List.take_of_length_le (by simp)
theorem HC {α:Type} {enc:α->List D} {xs:List α}:AV.d (.sl (((xs.map enc).drop 0).take xs.length))=AV.d (.sl (xs.map enc)):=by rw [Gz]
theorem Cf {a b:AV} {l m:List AV} (h:a=b) (h':l=m):a::l=b::m:=by rw [h,h']
theorem Sc {l m:List AV} (h:l=m):AV.agg l=AV.agg m:=by rw [h]
def Ql (Γ:Cx) (c:Code) (i:Nat) (s:St):Option (AV×List Ob):=
 match (Az c)[i]? with
 | some o=>bif Ng Γ.ty (λ x=>unG (Ae s.env x)) s.objs o.op then (match opA Γ.ty (λ x=>unG (Ae s.env x)) s.objs o.op with
  | some ⟨v,obs,[],none,_⟩=>some (v,obs)
  | _=>none) else none
 | none=>none
theorem U0 {v:AV} {obs:List Ob} (h:Ql Γ (nav p C) i s=some (v,obs)):Ef (IV Γ (nav p C) i s) v obs [] none:=by
 unfold Ql at h
 unfold IV
 split at h
 ·rename_i o hi
  try rw [hi]
  obtain ⟨hb,h⟩:=Am h
  split at h
  ·rename_i he
   cases h
   exact ⟨_,he,IS hb he⟩
  ·cases h
 ·cases h
theorem BS {α:Type} {g:Bool} {x y:Option α} {z:α} (h:(if g=true then x else y)=some z):g=true->x=some z:=λ e=>by rw [if_pos e] at h;exact h
end Go.AI
end
section
namespace Go.AI
def OZ (n:Int):List D:=[.int .i64 n]
def eU8 (n:Int):List D:=[.int .u8 n]
def eB (b:Bool):List D:=[.bool b]
def eL {α:Type} (e:α->List D) (l:List α):List D:=[.sl (l.map e)]
variable {α κ:Type} {enc:α->List D} {objs:List (Option Ob)}
theorem Ef.of {x:Option Eff} {v:AV} {obs:List Ob} {rm:List Nat} {upd:Option (Nat×Ob)} {ob:Prop} (h:x=some ⟨v,obs,rm,upd,ob⟩) (ho:ob):Ef x v obs rm upd:=⟨ob,h,ho⟩
theorem Sd {xs:List α} {i:Int} {x:α} (h:idx xs i=some x):(xs.map enc)[i.toNat]? = some (enc x):=by
 rw [WL,(Gu h).2.2];rfl
theorem Se {xs:List α} {i:Int} {x:α} {esz eb:Nat} {ez:List D} (h:idx xs i=some x) (hl:Nat.beq (enc x).length esz=true):Ef (Kd (.slice esz eb ez) (.d (.sl (xs.map enc))) i) (.dptr (enc x) 0) [] [] none:=by
 obtain ⟨h0,h1,_⟩:=Gu h
 refine .of (ob:=0<=i/\i<(xs.map enc).length/\(enc x).length=esz) ?_ ⟨h0,by simpa using h1,WO hl⟩
 simp only [Kd,AO,Sd (enc:=enc) h,Ww]
theorem Tj {xs ys zs:List α} {eb:Nat} (h:app eb xs ys=some zs):(xs.length+(ys.map enc).length)*eb<=70368744177664/\xs.length+(ys.map enc).length=zs.length/\zs=xs++ys:=by
 obtain ⟨h1,h2⟩:=P2 h
 subst h2
 exact ⟨by simpa using h1,by simp,rfl⟩
theorem Tk {xs ys zs:List α} {esz eb k:Nat} {E:List (List D)} {ob:Prop} (hk:obA objs k=some (.arr esz (xs.map enc))) (hE:E=ys.map enc) (hl:∀ y,(enc y).length=esz) (ho:ob) (h:app eb xs ys=some zs) :
  Ef (Bv esz eb objs (.osl k esz 0 xs.length) E ob) (.osl objs.length esz 0 zs.length) [.arr esz (zs.map enc)] [k] none:=by
 subst hE
 obtain ⟨h1,h2,h3⟩:=Tj (enc:=enc) h
 subst h3
 have hb:Nat.beq esz esz=true:=Nat.beq_refl esz
 refine .of (ob:=0+xs.length<=(xs.map enc).length/\(∀ e∈ys.map enc,e.length=esz)/\(xs.length+(ys.map enc).length)*eb<=70368744177664/\ob) ?_ ⟨by simp,?_,h1,ho⟩
 ·simp only [Bv,hk,hb,Bool.true_or,Bool.and_self,cond_true,List.drop_zero,h2]
  have e1:List.take xs.length (xs.map enc)=List.map enc xs:=List.take_of_length_le (by simp)
  simp only [e1,List.map_append]
 ·intro e he
  simp only [WC] at he
  obtain ⟨y,_,rfl⟩:=he
  exact hl y
theorem Tl {zs:List α} {n c:Int} {z:α} {esz eb:Nat} {ez:List D} (h:mkc eb n c z=some zs) (he:enc z=ez):Ef (some ⟨.osl objs.length esz 0 n.toNat,[.arr esz (List.replicate n.toNat ez)],[],none,0<=n/\n<=c/\c.toNat*eb<=70368744177664⟩) (.osl objs.length esz 0 zs.length) [.arr esz (zs.map enc)] [] none:=by
 unfold mkc at h
 split at h
 ·rename_i h0
  cases h
  refine .of (ob:=0<=n/\n<=c/\c.toNat*eb<=70368744177664) ?_ h0
  simp [he]
 ·cases h
theorem Tm {xs:List α} {esz eb:Nat} {ez:List D}:Ef (MA (.slice esz eb ez) (.d (.sl (xs.map enc)))) (.d (.int .i64 xs.length)) [] [] none:=by
 refine .of (ob:=True) ?_ trivial
 simp only [MA,val,WF]
theorem Tn {xs zs:List α} {l h:Int} {esz k:Nat} (hz:sub xs l h=some zs):Ef (AO (.osl k esz (0+l.toNat) (h.toNat-l.toNat)) (0<=l/\l<=h/\h<=(xs.length:Int)/\esz=esz)) (.osl k esz (0+l.toNat) (h.toNat-l.toNat)) [] [] none:=by
 unfold sub at hz
 split at hz
 ·rename_i h0
  exact .of rfl ⟨h0.1,h0.2.1,h0.2.2,rfl⟩
 ·cases hz
theorem NW {xs zs:List α} {l h:Int} (hz:sub xs l h=some zs):((xs.map enc).drop (0+l.toNat)).take (h.toNat-l.toNat)=zs.map enc:=by
 unfold sub at hz
 split at hz
 ·cases hz
  rw [WU,List.map_drop,List.map_take,List.take_drop]
  by_cases hh:l.toNat<=h.toNat
  ·rw [Nat.add_sub_cancel' hh]
  ·rename_i h0;omega
 ·cases hz
theorem Qm {xs zs:List α} {l h:Int} (hz:sub xs l h=some zs):(0+l.toNat)+(h.toNat-l.toNat)<=(xs.map enc).length:=by
 unfold sub at hz
 split at hz
 ·rename_i h0;simp;omega
 ·cases hz
theorem NX {xs zs:List α} {l h:Int} (hz:sub xs l h=some zs):h.toNat-l.toNat=zs.length:=by
 unfold sub at hz
 split at hz
 ·rename_i h0;cases hz;simp;omega
 ·cases hz
theorem NY {b:Bool} {u:Unit} (h:Dl b=some u):b=true:=by
 unfold Dl at h
 split at h
 ·assumption
 ·cases h
theorem GA {b:Int} {u:Unit} (h:Dl (!(b==0))=some u):b≠0:=by
 have:=NY h
 simpa using this
theorem U1 {v:AV} {ob:Prop} (h:ob):Ef (AO v ob) v [] [] none:=.of rfl h
theorem Qn {t x y:Bool}:Ef (Do (.d (.bool t)) (.gv t (.d (.bool x))) (.d (.bool y))) (.d (.bool (bif t then x else y))) [] [] none:=.of rfl ⟨trivial,λ h=>h,trivial⟩
theorem Sf {t x y:Bool}:Ef (Do (.d (.bool t)) (.d (.bool x)) (.gv (!t) (.d (.bool y)))) (.d (.bool (bif t then x else y))) [] [] none:=.of rfl ⟨trivial,trivial,λ h=>h⟩
theorem Qo {c a b:AV} {t x y:Bool} {r q q':Prop} (hc:K6 c=some (t,r)) (ha:unP t a=some (x,q)) (hb:unP (!t) b=some (y,q')) (hr:r) (hq:q) (hq':q'):Ef (Do c a b) (.d (.bool (bif t then x else y))) [] [] none:=by
 refine .of (ob:=r/\q/\q') ?_ ⟨hr,hq,hq'⟩
 simp only [Do,hc,ha,hb,AO]
variable {encK:κ->List D} [DecidableEq κ]
def Bk (encK:κ->List D) (enc:α->List D) (m:List (κ×α)):List (List D×List D):=m.map λ p=>(encK p.1,enc p.2)
theorem U2 {ks:List TK} (heq:∀ a b,Ax ks ((encK a).map .d) ((encK b).map .d)=some (decide (a=b))) (k:κ) (v:α) (m:List (κ×α)):Jm ks (encK k) (enc v) (Bk encK enc m)=Bk encK enc (E9 k v m):=by
 induction m with
 | nil=>rfl
 | cons p m ih=>
  have:eqK ks (encK k) (encK p.1)=decide (k=p.1):=by simp only [eqK,heq,Ww]
  simp only [Bk,WG,Jm,this,E9]
  by_cases h:k=p.1
  ·simp only [h,decide_true,cond_true,if_true,WG]
  ·simp only [h,decide_false,cond_false,if_false,WG]
   congr 1
theorem To {ks:List TK} (heq:∀ a b,Ax ks ((encK a).map .d) ((encK b).map .d)=some (decide (a=b))) (k:κ) (m:List (κ×α)):H6 ks (encK k) (Bk encK enc m):=by
 refine ⟨by rw [heq];rfl,λ p hp=>?_⟩
 simp only [Bk,WC] at hp
 obtain ⟨q,_,rfl⟩:=hp
 simp only [heq,Option.isSome_some]
theorem Sg {ks:List TK} {k:Nat} {m:List (κ×α)} {key:κ} {l:List AV} {v:AV} {y:α} {vz:List D} {e1:α->D} (heq:∀ a b,Ax ks ((encK a).map .d) ((encK b).map .d)=some (decide (a=b))) (he:∀ x,enc x=[e1 x]) (hz:Nat.beq vz.length 1=true) (hk:obA objs k=some (.map true false (Bk encK enc m))) (hx:xDs objs l=some (encK key,[],[])) (hv:v=.d (e1 y)) (hvx:xDs objs [v]=some (enc y,[],[])) :
  Ef (EV (.map ks true false vz) objs (.mp k) (.agg l) v) .top [] [] (some (k,.map true false (Bk encK enc (E9 key y m)))):=by
 obtain ⟨ob,e2,q⟩:=KK hx leZ
 obtain ⟨ob',e3,q'⟩:=KK hvx leZ
 have hkv:kvA objs false v=some ⟨enc y,[],ob'⟩:=by subst hv;exact e3
 refine .of (ob:=ob/\ob'/\H6 ks (encK key) (Bk encK enc m)/\k ∉ ([]:List Nat)/\(enc y).length=vz.length) ?_ ⟨q,q',To heq key m,by simp,by rw [he,WO hz];rfl⟩
 simp only [EV,hk,kvA,cond_true,e2]
 simp only [kvA] at hkv
 rw [hkv]
 simp only [U2 heq]
 rfl
end Go.AI
end
section
namespace Go.AI
variable {Γ:Cx} {C:Code} {p p0 p1:List Nat} {Q:Ex->St->Prop} {s s':St} {K:St->Prop} {i:Nat} {nk:Nat}
variable {α β:Type} {enc:β->List D} {encN:α->List AV} {objs:List (Option Ob)}
def Qp (s:St) (k:Nat):Option (Nat×List (List D)):=
 match obA s.objs k with
 | some (.arr sz es)=>some (sz,es)
 | _=>none
theorem Qq {k sz:Nat} {es:List (List D)} (h:Qp s k=some (sz,es)):obA s.objs k=some (.arr sz es):=by
 unfold Qp at h
 split at h
 ·rename_i hh;cases h;exact hh
 ·cases h
inductive Pl (f:AV->AV):List (Option Ob)->List (Option Ob)->Prop
 | z:Pl f [] []
 | o (ob:Option Ob) {l m:List (Option Ob)} (h:Pl f l m):Pl f (ob::l) (ob::m)
 | n (sz:Nat) {es es':List (List AV)} {l m:List (Option Ob)} (he:es.map (λ e=>e.map f)=es') (h:Pl f l m):Pl f (some (.narr sz (es.map λ e=>e.map f))::l) (some (.narr sz es')::m)
theorem Pl.eq {f:AV->AV} {l m:List (Option Ob)} (h:Pl f l m):l=m:=by
 induction h with
 | z=>rfl
 | o ob _ ih=>rw [ih]
 | n sz he _ ih=>rw [he,ih]
end Go.AI
end
section
namespace Go.AI
variable {Γ:Cx} {C:Code} {p:List Nat} {Q:Ex->St->Prop} {s s':St} {K:St->Prop} {i:Nat} {nk:Nat}
variable {α β ζ:Type}
theorem A7 {x:Option α} {d:α} (h:x.isSome=true):x=some (x.getD d):=by
 cases x with
 | none=>cases h
 | some x=>rfl
structure WP (Γ:Cx) (C:Code) (p:List Nat) (Q:Ex->St->Prop) (s:St):Prop where
 out:wpA Γ (nav p C) Q s
structure RF (Γ:Cx) (C:Code) (p:List Nat) (i:Nat) (Q:Ex->St->Prop) (s:St):Prop where
 out:Ay Γ C p i (Q .normal) s
structure PQ (Q:Ex->St->Prop) (e:Ex) (s:St):Prop where
 out:Q e s
structure RA (ty:Nat->Ty) (rs:List ResultVar) (r:AV) (s:St):Prop where
 out:OQ ty rs r s
theorem RF.of {Γ:Cx} {C:Code} {p:List Nat} {i:Nat} {Q:Ex->St->Prop} {s s':St} {j:Nat} (h:Ay Γ C p j (Q .normal) s'->Ay Γ C p i (Q .normal) s) (hk:RF Γ C p j Q s'):RF Γ C p i Q s:=⟨h hk.out⟩
theorem Eh (k:Nat):∀ (p:List Nat) (C:Code),nav (p++[k]) C=P3 (nav p C) k:=by
 intro p
 induction p with
 | nil=>intro C;rfl
 | cons a p ih=>intro C;exact ih (P3 C a)
def NZ:Code->Bool
 | .seq _ _=>true
 | _=>false
def KN:Code->Bool
 | .cond _ _ _=>true
 | _=>false
def SK (id:Nat):Code->Bool
 | .block i _=>Nat.beq i id
 | _=>false
def IX:Code->Bool
 | .loop _=>true
 | _=>false
theorem Sh (h:NZ (nav p C)=true):nav p C=.seq (nav (p++[0]) C) (nav (p++[1]) C):=by
 rw [Eh,Eh]
 cases hc:nav p C<;>rw [hc] at h<;>first|rfl|cases h
theorem IY (h:KN (nav p C)=true):nav p C=.cond (GY (nav p C)) (nav (p++[0]) C) (nav (p++[1]) C):=by
 rw [Eh,Eh]
 cases hc:nav p C<;>rw [hc] at h<;>first|rfl|cases h
theorem Si {id:Nat} (h:SK id (nav p C)=true):nav p C=.block id (nav (p++[0]) C):=by
 rw [Eh]
 cases hc:nav p C with
 | block j c=>rw [hc] at h;have:=WO h;subst this;rfl
 | _=>rw [hc] at h;cases h
theorem L9 (h:IX (nav p C)=true):nav p C=.loop (nav (p++[0]) C):=by
 rw [Eh]
 cases hc:nav p C<;>rw [hc] at h<;>first|rfl|cases h
theorem sq (hw:WP Γ C (p++[0]) (Jq Γ.nt.nk (wpA Γ (nav (p++[1]) C) Q) Q) s) (h:NZ (nav p C)=true:=by kernel_rfl):WP Γ C p Q s:=⟨Td (Sh h) hw.out⟩
theorem rg (hs:Au Γ.nt.nk s s') (hk:RF Γ C p 0 (KI C p s' Q) s') (h:FQ (nav p C)=true:=by kernel_rfl):WP Γ C p Q s:=⟨J2 h hs hk.out⟩
theorem rz (hk:RF Γ C p 0 (KI C p s Q) s) (h:FQ (nav p C)=true:=by kernel_rfl):WP Γ C p Q s:=⟨J2 h Sb hk.out⟩
theorem sr (hk:RF Γ C (p++[0]) 0 (KI C (p++[0]) s (Jq Γ.nt.nk (wpA Γ (nav (p++[1]) C) Q) Q)) s) (h:(NZ (nav p C)&&FQ (nav (p++[0]) C))=true:=by kernel_rfl):WP Γ C p Q s:=by
 simp only [WI] at h
 exact sq (rz hk h.2) h.1
theorem ae {s0:St} (hk:PQ Q .normal s) (h:Nat.ble (Az (nav p C)).length i=true:=by kernel_rfl) (hd:H8 (Gv (nav p C)) (B2 (nav p C)) s0.env s.env=true:=by kernel_rfl):RF Γ C p i (KI C p s0 Q) s:=⟨IQ i h ⟨hd,hk.out⟩⟩
theorem en {s0:St} {p':List Nat} (hk:WP Γ C p' Q s) (h:Nat.ble (Az (nav p C)).length i=true:=by kernel_rfl) (hd:H8 (Gv (nav p C)) (B2 (nav p C)) s0.env s.env=true:=by kernel_rfl):RF Γ C p i (KI C p s0 (Jq Γ.nt.nk (wpA Γ (nav p' C) Q) Q)) s:=⟨IQ i h ⟨hd,⟨s,.refl s,hk.out⟩⟩⟩
theorem bk (id:Nat) (hw:WP Γ C (p++[0]) (Ew id Q) s) (h:SK id (nav p C)=true:=by kernel_rfl):WP Γ C p Q s:=⟨P5 id (Si h) hw.out⟩
theorem ex (k:Nat) (hq:PQ Q (.exit k) s) (h:nav p C=.exit k:=by kernel_rfl):WP Γ C p Q s:=⟨R2 k h hq.out⟩
theorem re (hq:PQ Q .ret s) (h:nav p C=.ret:=by kernel_rfl):WP Γ C p Q s:=⟨Te h hq.out⟩
theorem sk (hq:PQ Q .normal s) (h:nav p C=.skip:=by kernel_rfl):WP Γ C p Q s:=⟨R3 h hq.out⟩
theorem cn {c:Bool} {x y:Option ζ} {r:ζ} (H:(if c=true then x else y)=some r) (h1:x=some r->WP Γ C (p++[0]) Q s) (h2:y=some r->WP Γ C (p++[1]) Q s) (h:KN (nav p C)=true:=by kernel_rfl) (hc:Ae s.env (GY (nav p C))=.d (.bool c):=by kernel_rfl):WP Γ C p Q s:=by
 refine ⟨KH c (IY h) hc (λ e=>?_) (λ e=>?_)⟩
 ·rw [if_pos e] at H;exact (h1 H).out
 ·rw [if_neg (by rw [e];simp)] at H;exact (h2 H).out
theorem sj {σ ζ:Type} (sJ:σ->St) (F:σ->Option ζ) (z:ζ) (hb:∀ x,F x=some z->WP Γ C (p++[1]) Q (sJ x)) (ha:(∀ x,F x=some z->WP Γ C (p++[1]) Q (sJ x))->WP Γ C (p++[0]) (Jq Γ.nt.nk (wpA Γ (nav (p++[1]) C) Q) Q) s) (h:NZ (nav p C)=true:=by kernel_rfl):WP Γ C p Q s:=sq (ha hb) h
theorem lp {σ ρ:Type} {body:σ->Option (σ⊕ρ)} {n:Nat} {x:σ} {r:ρ} (st:σ->St) (E:ρ->Ex->St->Prop) (hr:whl body n x=some r) (hs:Au Γ.nt.nk s (st x))
  (hb:∀ x z,body x=some z->WP Γ C (p++[0]) (A2 Γ.nt.nk st E z) (st x)) (hE:∀ e s,E r e s->PQ Q e s) (h:IX (nav p C)=true:=by kernel_rfl):WP Γ C p Q s:=⟨R4 st E (L9 h) hr hs (λ x z hx=>(hb x z hx).out) (λ e s he=>(hE e s he).out)⟩
theorem fo {P:Program} {fn:Func} {f:FuncId} {args:List AV} {r:AV} (hfol:P.follows .mixedOrders=true) (hΓ:CG P Γ) (hf:P.funcs[f]? = some fn) (h:WP Γ (AM fn) [] (LZ Γ.ty fn.results.toList r) s)
  (hb:fn.body=some (AM fn):=by kernel_rfl) (hnm:(fn.name == "runtime.NumGoroutine")=false:=by kernel_rfl) (hnt:Γ.nt.n=fn.ntmps:=by kernel_rfl) (hlen:Nat.ble args.length fn.ntmps=true:=by kernel_rfl) (hs:(⟨(List.range args.length).zip args,[]⟩:St)=s:=by kernel_rfl) (hrd:Γ.rd=false:=by kernel_rfl):AB P f args r:=
 UY hfol hΓ hrd hf hb hnm hnt hlen hs h.out
theorem GZ {c a b:AV} {t x y z:Bool} {r q q':Prop} (hc:K6 c=some (t,r)) (ha:unP t a=some (x,q)) (hb:unP (!t) b=some (y,q')) (hr:r) (hq:q) (hq':q') (hz:(bif t then x else y)=z:=by kernel_rfl):Ef (Do c a b) (.d (.bool z)) [] [] none:=hz▸Qo hc ha hb hr hq hq'
theorem bx {G:Prop} {x:Option α} {f:α->Option β} {r:β} (h:x.bind f=some r) (k:∀ a,x=some a->f a=some r->G):G:=by obtain ⟨a,h1,h2⟩:=bind_some h;exact k a h1 h2
theorem bs {x:Option α} {f:α->Option β} {r:β} (h:x.bind f=some r):∃ a,x=some a/\f a=some r:=bind_some h
theorem qs (hs:Au Γ.nt.nk s s') (h:WP Γ C p Q s'):PQ (Jq Γ.nt.nk (wpA Γ (nav p C) Q) Q) .normal s:=⟨s',hs,h.out⟩
theorem qz (h:WP Γ C p Q s):PQ (Jq Γ.nt.nk (wpA Γ (nav p C) Q) Q) .normal s:=⟨s,.refl s,h.out⟩
theorem qx {B:St->Prop} {k:Nat} (h:PQ Q (.exit k) s):PQ (Jq nk B Q) (.exit k) s:=⟨h.out⟩
theorem qr {B:St->Prop} (h:PQ Q .ret s):PQ (Jq nk B Q) .ret s:=⟨h.out⟩
theorem qN {id:Nat} (h:PQ Q .normal s):PQ (Ew id Q) .normal s:=⟨h.out⟩
theorem qH {id:Nat} (h:PQ Q .normal s):PQ (Ew id Q) (.exit id) s:=⟨P6 h.out⟩
theorem qR {id:Nat} (h:PQ Q .ret s):PQ (Ew id Q) .ret s:=⟨h.out⟩
theorem og {σ ρ:Type} {st:σ->St} {E:ρ->Ex->St->Prop} {y:σ} (h:Au nk s (st y)):PQ (A2 nk st E (.inl y)) .normal s:=⟨P7 h⟩
theorem oe {σ ρ:Type} {st:σ->St} {E:ρ->Ex->St->Prop} {r:ρ} {k:Nat} (h:E r (.exit k) s):PQ (A2 nk st E (.inr r)) (.exit k) s:=⟨Nf h⟩
theorem or {σ ρ:Type} {st:σ->St} {E:ρ->Ex->St->Prop} {r:ρ} (h:E r .ret s):PQ (A2 nk st E (.inr r)) .ret s:=⟨OW h⟩
theorem pr {ty:Nat->Ty} {rs:List ResultVar} {r:AV} (h:RA ty rs r s):PQ (LZ ty rs r) .ret s:=⟨h.out⟩
def nxP (Γ:Cx) (C:Code) (p:List Nat) (i n:Nat) (s:St):St:=(OX Γ (Az (nav p C)) (((Az (nav p C)).drop i).take n) s).getD s
theorem ck (n:Nat) (hk:RF Γ C p (i+n) Q (nxP Γ C p i n s)) (h:(OX Γ (Az (nav p C)) (((Az (nav p C)).drop i).take n) s).isSome=true:=by kernel_rfl):RF Γ C p i Q s:=⟨UU n _ (A7 h) rfl hk.out⟩
def IZ (_:St) (x:Option Eff) (v:AV) (obs:List Ob) (rm:List Nat) (upd:Option (Nat×Ob)):Prop:=Ef x v obs rm upd
theorem sp {v:AV} {obs:List Ob} {rm:List Nat} {upd:Option (Nat×Ob)} {x:Option Eff} (ho:IZ s x v obs rm upd) (hk:RF Γ C p (i+1) Q ((J3 Γ (nav p C) i v obs rm upd s).getD s)) (hx:IV Γ (nav p C) i s=x:=by kernel_rfl) (hn:(J3 Γ (nav p C) i v obs rm upd s).isSome=true:=by kernel_rfl):RF Γ C p i Q s:=⟨VR _ hx ho (A7 hn) rfl hk.out⟩
def opV (Γ:Cx) (c:Code) (i:Nat) (s:St):AV:=match IV Γ c i s with
 | some e=>e.v
 | none=>.top
theorem so {ob:Prop} (ho:ob) (hk:RF Γ C p (i+1) Q ((J3 Γ (nav p C) i (opV Γ (nav p C) i s) [] [] none s).getD s)) (hx:IV Γ (nav p C) i s=AO (opV Γ (nav p C) i s) ob:=by kernel_rfl) (hn:(J3 Γ (nav p C) i (opV Γ (nav p C) i s) [] [] none s).isSome=true:=by kernel_rfl):RF Γ C p i Q s:=sp (U1 ho) hk hx hn
theorem sG {g:Bool} {v:AV} {obs:List Ob} {x:Option Eff} {gs:List Bool} (ho:g=true->IZ s x v obs [] none) (hi:CJ g gs) (hk:RF Γ C p (i+1) Q ((Gw Γ (nav p C) i g v obs s).getD s)) (hg:gAt (nav p C) i s=some g:=by kernel_rfl) (hx:IV Γ (nav p C) i s=x:=by kernel_rfl) (hgs:CK (nav p C) i s=gs:=by kernel_rfl) (hn:(Gw Γ (nav p C) i g v obs s).isSome=true:=by kernel_rfl):RF Γ C p i Q s:=⟨SI _ hg hx ho hgs hi (A7 hn) rfl hk.out⟩
def plV (Γ:Cx) (c:Code) (i:Nat) (s:St):AV×List Ob:=(Ql Γ c i s).getD (.top,[])
theorem gp (g:Bool) {gs:List Bool} (hi:CJ g gs) (hk:RF Γ C p (i+1) Q ((Gw Γ (nav p C) i g (plV Γ (nav p C) i s).1 (plV Γ (nav p C) i s).2 s).getD s)) (hg:gAt (nav p C) i s=some g:=by kernel_rfl) (hp:(Ql Γ (nav p C) i s).isSome=true:=by kernel_rfl) (hgs:CK (nav p C) i s=gs:=by kernel_rfl) (hn:(Gw Γ (nav p C) i g (plV Γ (nav p C) i s).1 (plV Γ (nav p C) i s).2 s).isSome=true:=by kernel_rfl):RF Γ C p i Q s:=
 ⟨SI _ hg rfl (λ _=>U0 (A7 (d:=(.top,[])) hp)) hgs hi (A7 hn) rfl hk.out⟩
def gl (Γ:Cx) (c:Code) (g:Bool):Nat->Nat->St->Option (List Bool×St)
 | 0,_,s=>some ([],s)
 | n+1,i,s=>match gAt c i s,(Ql Γ c i s).isSome,Gw Γ c i g (plV Γ c i s).1 (plV Γ c i s).2 s with
  | some g',true,some s1=>match gl Γ c g n (i+1) s1 with
   | some (l,s2)=>some (g'::(CK c i s++l),s2)
   | none=>none
  | _,_,_=>none
theorem J6 {g:Bool}:∀ {l:List Bool},(∀ b∈l,b=g)->CJ g l:=by
 intro l
 induction l with
 | nil=>intro _;trivial
 | cons b l ih=>intro h;exact ⟨λ e=>by rw [h b (by simp)];exact e,ih λ x hx=>h x (by simp [hx])⟩
theorem U3 {g:Bool}:∀ (n i:Nat) (s:St) (l:List Bool) (s2:St),gl Γ (nav p C) g n i s=some (l,s2)->(∀ b∈l,b=g)->RF Γ C p (i+n) Q s2->RF Γ C p i Q s:=by
 intro n
 induction n with
 | zero=>intro i s l s2 h _ hk;cases h;exact hk
 | succ n ih=>
  intro i s l s2 h hl hk
  simp only [gl] at h
  split at h
  ·rename_i g' s1 h1 h2 h3
   split at h
   ·rename_i l' s2' h4
    cases h
    have e:g'=g:=hl g' (by simp)
    subst e
    have hlast:=ih (i+1) s1 l' s2 h4 (λ b hb=>hl b (by simp [hb])) (by rw [WE,Nat.add_comm 1 n];exact hk)
    refine gp g' (J6 λ b hb=>hl b (by simp [hb])) ?_ h1 h2 rfl (by rw [h3];rfl)
    rw [h3]
    exact hlast
   ·cases h
  ·cases h
theorem gc (n:Nat) (g:Bool) (hk:RF Γ C p (i+n) Q ((gl Γ (nav p C) g n i s).getD ([],s)).2) (h1:(gl Γ (nav p C) g n i s).isSome=true:=by kernel_rfl) (h2:((gl Γ (nav p C) g n i s).getD ([],s)).1=List.replicate ((gl Γ (nav p C) g n i s).getD ([],s)).1.length g:=by kernel_rfl):RF Γ C p i Q s:=by
 refine U3 n i s _ _ (A7 (d:=([],s)) h1) (λ b hb=>?_) hk
 have hb':b∈((gl Γ (nav p C) g n i s).getD ([],s)).1:=hb
 rw [h2] at hb'
 exact List.eq_of_mem_replicate hb'
def bo:AV->Bool
 | .d (.bool b)=>b
 | .gv _ (.d (.bool b))=>b
 | _=>false
def pkO (c:Code) (i:Nat) (s:St):AV×AV×AV:=
 match (Az c)[i]? with
 | some o=>match o.op with
  | .pick x y z=>(Ae s.env x,Ae s.env y,Ae s.env z)
  | _=>(.top,.top,.top)
 | none=>(.top,.top,.top)
def pkT (c:Code) (i:Nat) (s:St):Bool:=bo (pkO c i s).1
def pkX (c:Code) (i:Nat) (s:St):Bool:=bo (pkO c i s).2.1
def pkY (c:Code) (i:Nat) (s:St):Bool:=bo (pkO c i s).2.2
def pkV (c:Code) (i:Nat) (s:St):AV:=.d (.bool (bif pkT c i s then pkX c i s else pkY c i s))
theorem pA (hk:RF Γ C p (i+1) Q ((J4 Γ (nav p C) i (pkV (nav p C) i s) s).getD s)) (h:Ga (nav p C) i s=Do (.d (.bool (pkT (nav p C) i s))) (.gv (pkT (nav p C) i s) (.d (.bool (pkX (nav p C) i s)))) (.d (.bool (pkY (nav p C) i s))):=by kernel_rfl) (hn:(J4 Γ (nav p C) i (pkV (nav p C) i s) s).isSome=true:=by kernel_rfl):RF Γ C p i Q s:=⟨SJ _ h Qn (A7 hn) rfl hk.out⟩
theorem pO (hk:RF Γ C p (i+1) Q ((J4 Γ (nav p C) i (pkV (nav p C) i s) s).getD s)) (h:Ga (nav p C) i s=Do (.d (.bool (pkT (nav p C) i s))) (.d (.bool (pkX (nav p C) i s))) (.gv (!(pkT (nav p C) i s)) (.d (.bool (pkY (nav p C) i s)))):=by kernel_rfl) (hn:(J4 Γ (nav p C) i (pkV (nav p C) i s) s).isSome=true:=by kernel_rfl):RF Γ C p i Q s:=⟨SJ _ h Sf (A7 hn) rfl hk.out⟩
theorem pG {g:Bool} {v:AV} {x:Option Eff} (ho:g=true->Ef x v [] [] none) (hk:RF Γ C p (i+1) Q ((KJ Γ (nav p C) i g v s).getD s)) (hg:gAt (nav p C) i s=some g:=by kernel_rfl) (hx:Ga (nav p C) i s=x:=by kernel_rfl) (hn:(KJ Γ (nav p C) i g v s).isSome=true:=by kernel_rfl):RF Γ C p i Q s:=⟨Tf _ hg hx ho (A7 hn) rfl hk.out⟩
theorem ca (m:Bool) {f:FuncId} {ys:List AV} {r:AV} (hr:Γ.calls f ys r) (hk:RF Γ C p (i+1) Q ((HB Γ (nav p C) i m (EY r) r s).getD s)) (hc:Fq (nav p C) i s=some (f,ys,[],[]):=by kernel_rfl) (hn:(HB Γ (nav p C) i m (EY r) r s).isSome=true:=by kernel_rfl):RF Γ C p i Q s:=⟨Qf _ m hc leZ rfl hr (.inl rfl) rfl (A7 hn) rfl hk.out⟩
theorem cb (m:Bool) {f:FuncId} {xs ys:List AV} {ks:List Nat} {obl:List (Nat×Nat)} {r:AV} {ls:List Nat} (hob:DF obl) (hxs:xs=ys) (hr:Γ.calls f ys r) (hf:ks=[]\/Ff r) (hls:EY r=ls) (hk:RF Γ C p (i+1) Q ((HB Γ (nav p C) i m ls r s).getD s)) (hc:Fq (nav p C) i s=some (f,xs,ks,obl):=by kernel_rfl) (hn:(HB Γ (nav p C) i m ls r s).isSome=true:=by kernel_rfl):RF Γ C p i Q s:=⟨Qf _ m hc hob hxs hr hf hls (A7 hn) rfl hk.out⟩
theorem cG (m:Bool) {g:Bool} {gs:List Bool} {f:FuncId} {xs ys:List AV} {ks:List Nat} {obl:List (Nat×Nat)} {r:AV} {ls:List Nat} (hob:DF obl) (hxs:xs=ys) (hr:g=true->Γ.calls f ys r) (hf:ks=[]\/Ff r) (hi:CJ g gs) (hls:EY r=ls) (hk:RF Γ C p (i+1) Q ((KL Γ (nav p C) i g m ls r s).getD s)) (hg:gAt (nav p C) i s=some g:=by kernel_rfl) (hc:Fq (nav p C) i s=some (f,xs,ks,obl):=by kernel_rfl) (hgs:CK (nav p C) i s=gs:=by kernel_rfl) (hn:(KL Γ (nav p C) i g m ls r s).isSome=true:=by kernel_rfl):RF Γ C p i Q s:=⟨UW _ m hg hc hob hxs hr hf hgs hi hls (A7 hn) rfl hk.out⟩
theorem Bj (e:α->List D) {xs:List α} {n:Int} {x:α} (h:idx xs n=some x):IZ s (AO (.dptr ((xs.map e)[n.toNat]?.getD []) 0) (0<=n/\n<(xs.map e).length/\((xs.map e)[n.toNat]?.getD []).length=(e x).length)) (.dptr (e x) 0) [] [] none:=
 Se (esz:=(e x).length) (eb:=0) (ez:=[]) h (Nat.beq_refl _)
theorem Sj (k off m:Nat) {xs:List α} {n:Int} {x:α} (h:idx xs n=some x) (hm:xs.length=m:=by kernel_rfl):IZ s (AO (.ptr k (off+n.toNat*1)) (0<=n/\n<(m:Nat))) (.ptr k (off+n.toNat*1)) [] [] none:=by
 obtain ⟨h1,h2,_⟩:=Gu h
 exact .of rfl ⟨h1,by rw [← hm];exact h2⟩
theorem HY (e:α->List D) (k esz:Nat) {xs ys zs:List α} {eb:Nat} (h:app eb xs ys=some zs) (hk:obA s.objs k=some (.arr esz (xs.map e)):=by kernel_rfl) (hl:∀ y,(e y).length=esz:=by intro _;rfl):IZ s (Bv esz eb s.objs (.osl k esz 0 xs.length) (((ys.map e).drop 0).take ys.length) (0+ys.length<=(ys.map e).length)) (.osl s.objs.length esz 0 zs.length) [.arr esz (zs.map e)] [k] none:=Tk hk Gz hl (by simp) h
theorem Qr (k esz:Nat) {xs zs:List α} {l h:Int} (hz:sub xs l h=some zs):IZ s (AO (.osl k esz (0+l.toNat) (h.toNat-l.toNat)) (0<=l/\l<=h/\h<=(xs.length:Int)/\esz=esz)) (.osl k esz (0+l.toNat) (h.toNat-l.toNat)) [] [] none:=Tn hz
theorem Tp (e:α->List D) (esz:Nat) {zs:List α} {n c:Int} {z:α} {eb:Nat} (h:mkc eb n c z=some zs):IZ s (some ⟨.osl s.objs.length esz 0 n.toNat,[.arr esz (List.replicate n.toNat (e z))],[],none,0<=n/\n<=c/\c.toNat*eb<=70368744177664⟩) (.osl s.objs.length esz 0 zs.length) [.arr esz (zs.map e)] [] none:=Tl h rfl
theorem BE (e:α->List D) (xs:List α):IZ s (val (.d (.int .i64 (xs.map e).length))) (.d (.int .i64 xs.length)) [] [] none:=Tm (esz:=0) (eb:=0) (ez:=[])
theorem cl (ls:List Nat) {f:FuncId} {ys:List AV} {r:AV} (hr:Γ.calls f ys r) (hk:RF Γ C p (i+1) Q ((HB Γ (nav p C) i true ls r s).getD s)) (hls:EY r=ls:=by simp only [EY,L6,L5,J5,WF,List.nil_append,List.append_nil,List.cons_append]) (hc:Fq (nav p C) i s=some (f,ys,[],[]):=by kernel_rfl) (hn:(HB Γ (nav p C) i true ls r s).isSome=true:=by kernel_rfl):RF Γ C p i Q s:=⟨Qf _ true hc leZ rfl hr (.inl rfl) hls (A7 hn) rfl hk.out⟩
theorem N0 {κ:Type} [DecidableEq κ] {encK:κ->List D} {enc:α->List D} {ks:List TK} {k:Nat} {m:List (κ×α)} {key:κ} {l:List AV} {v:AV} {y:α} {vz:List D} {e1:α->D} (heq:∀ a b,Ax ks ((encK a).map .d) ((encK b).map .d)=some (decide (a=b))) (he:∀ x,enc x=[e1 x]:=by intro _;rfl) (hz:Nat.beq vz.length 1=true:=by kernel_rfl) (hk:obA s.objs k=some (.map true false (Bk encK enc m)):=by kernel_rfl) (hx:xDs s.objs l=some (encK key,[],[]):=by kernel_rfl) (hv:v=.d (e1 y):=by kernel_rfl) (hvx:xDs s.objs [v]=some (enc y,[],[]):=by kernel_rfl) :
  IZ s (EV (.map ks true false vz) s.objs (.mp k) (.agg l) v) .top [] [] (some (k,.map true false (Bk encK enc (E9 key y m)))):=Sg heq he hz hk hx hv hvx
def SL:AV->Bool
 | .d _=>true
 | .agg l=>l.all F4
 | _=>false
theorem Nj (l m:List (Option (Nat×Nat×Nat))):ksE (l++m)=ksE l++ksE m:=by
 induction l with
 | nil=>rfl
 | cons a l ih=>cases a<;>simp [ksE,ih]
theorem Qs {a:AV} (h:F4 a=true):ksE (Fl a a)=[]:=by
 cases a with
 | d x=>cases x<;>rfl
 | _=>cases h
theorem Sk {objs:List (Option Ob)} {a:AV} (h:F4 a=true):F7 objs a a:=by
 cases a with
 | d x=>exact Ni
 | _=>cases h
theorem U4 {objs:List (Option Ob)}:∀ {l:List AV},l.all F4=true->OF objs l l/\ksE (Iy l l)=[]:=by
 intro l
 induction l with
 | nil=>intro _;exact ⟨trivial,rfl⟩
 | cons a l ih=>
  intro h
  simp only [List.all_cons,WI] at h
  obtain ⟨h1,h2⟩:=ih h.2
  exact ⟨⟨Sk h.1,h1⟩,by simp only [Iy,Nj,Qs h.1,h2,List.append_nil]⟩
theorem SM {objs:List (Option Ob)} {a:AV} (h:SL a=true):Iz objs a a/\ksE (FL a a)=[]:=by
 cases a with
 | d x=>exact ⟨Ni,Qs (a:=.d x) rfl⟩
 | agg l=>exact U4 h
 | _=>cases h
theorem rd {ty:Nat->Ty} {rs:List ResultVar} {r:AV} (hd:SL r=true:=by kernel_rfl) (h:L7 ty s rs=some [r]:=by kernel_rfl):RA ty rs r s:=⟨UX [] h (SM hd).1 (SM (objs:=[]) hd).2 (by simp)⟩
structure OV (s:St) (a r:AV):Prop where
 out:F7 s.objs a r
structure OC (s:St) (a r:List AV):Prop where
 out:OF s.objs a r
structure OA (s:St) (a r:AV):Prop where
 out:Iz s.objs a r
structure OT (s:St) (a r:List AV):Prop where
 out:PM s.objs a r
theorem c0:OC s [] []:=⟨trivial⟩
theorem c1 {a r:AV} {l m:List AV} (h:OV s a r) (h':OC s l m):OC s (a::l) (r::m):=⟨⟨h.out,h'.out⟩⟩
theorem a1 {l m:List AV} (h:OC s l m):OA s (.agg l) (.agg m):=⟨h.out⟩
theorem ad {x:D} {r:AV} (h:OV s (.d x) r):OA s (.d x) r:=⟨h.out⟩
theorem ao {k sz lo n:Nat} {r:AV} (h:OV s (.osl k sz lo n) r):OA s (.osl k sz lo n) r:=⟨h.out⟩
theorem t0:OT s [] []:=⟨trivial⟩
theorem t1 {a r:AV} {l m:List AV} (h:OA s a r) (h':OT s l m):OT s (a::l) (r::m):=⟨⟨h.out,h'.out⟩⟩
theorem vd {x:D}:OV s (.d x) (.d x):=⟨Ni⟩
theorem vz {sz:Nat}:OV s (.d .nil) (.own sz []):=⟨OY⟩
theorem vo {enc:α->List D} {xs:List α} {k sz:Nat} (h:obA s.objs k=some (.arr sz (xs.map enc)):=by kernel_rfl):OV s (.osl k sz 0 xs.length) (.own sz (xs.map enc)):=⟨Qi h⟩
theorem rO {ty:Nat->Ty} {rs:List ResultVar} {v r:AV} (ks:List Nat) (ho:OA s v r) (h:L7 ty s rs=some [v]:=by kernel_rfl) (hks:ksE (FL v r)=ks:=by kernel_rfl) (hnd:ks.Nodup:=by decide):RA ty rs r s:=⟨UX ks h ho.out hks hnd⟩
structure RL (nk:Nat) (ty:Nat->Ty) (rs:List ResultVar) (r:AV) (O1:List (Option Ob)) (s:St):Prop where
 out:∃ s',Au nk s s'/\RZ ty rs r O1 s'
def VS (vs:List AV):AV:=match vs with
 | [v]=>v
 | vs=>.tup vs
theorem rl {ty:Nat->Ty} {rs:List ResultVar} {r:AV} {O1:List (Option Ob)} (sh:Au nk s s') (h:(L7 ty s' rs).map VS=some r:=by kernel_rfl) (hO:s'.objs=O1:=by kernel_rfl):RL nk ty rs r O1 s:=by
 refine ⟨s',sh,hO,?_⟩
 cases hb:L7 ty s' rs with
 | none=>rw [hb] at h;cases h
 | some vs=>
  rw [hb] at h
  obtain ⟨p,e1,q1⟩:=NS hb
  rw [e1]
  simp only [Option.map_some,WR] at h
  match vs,h with
  | [],h=>exact ⟨q1,h.symm⟩
  | [v],h=>exact ⟨q1,h⟩
  | v::v'::l,h=>exact ⟨q1,h.symm⟩
theorem pL {ty:Nat->Ty} {rs:List ResultVar} {r:AV} {O1:List (Option Ob)} (h:RL nk ty rs r O1 s):PQ (J1 nk ty rs r O1) .ret s:=⟨h.out⟩
theorem pL' {ty:Nat->Ty} {rs:List ResultVar} {r:AV} {O1:List (Option Ob)} (h:RL nk ty rs r O1 s):PQ (J1 nk ty rs r O1) .normal s:=⟨h.out⟩
theorem fl {P:Program} {fn:Func} {f:FuncId} {args:List AV} {O0 O1:List (Option Ob)} {nb:Nat} {r:AV} (hfol:P.follows .mixedOrders=true) (hΓ:CG P Γ) (hf:P.funcs[f]? = some fn) (h:WP Γ (AM fn) [] (J1 nb Γ.ty fn.results.toList r O1) s)
  (hb:fn.body=some (AM fn):=by kernel_rfl) (hnm:(fn.name == "runtime.NumGoroutine")=false:=by kernel_rfl) (hnt:Γ.nt=⟨fn.ntmps,[],nb,Γ.nt.qf⟩:=by kernel_rfl) (hlen:Nat.ble args.length fn.ntmps=true:=by kernel_rfl) (hs:(⟨(List.range args.length).zip args,O0⟩:St)=s:=by kernel_rfl) (hrd:Γ.rd=false:=by kernel_rfl):Ba P f args O0 nb r O1:=
 Sa hfol hΓ hrd hf hb hnm hnt hlen hs h.out
theorem lt (ord:List Nat) {f:FuncId} {ys:List AV} {O0 O1:List (Option Ob)} {nb:Nat} {r:AV} (hr:Γ.lent f ys O0 nb r O1) (hk:RF Γ C p (i+1) Q ((NT Γ (nav p C) i ord nb r O1 s).getD s)) (hc:IW (nav p C) i s=some (f,((IW (nav p C) i s).getD (0,[],[])).2.1,ord):=by kernel_rfl)
  (hxs:((IW (nav p C) i s).getD (0,[],[])).2.1.map (C7 ord)=ys:=by kernel_rfl) (hO:BP s.objs ord=O0:=by kernel_rfl) (hn:(NT Γ (nav p C) i ord nb r O1 s).isSome=true:=by kernel_rfl):RF Γ C p i Q s:=⟨lentS hc hxs hO hr (A7 hn) hk.out⟩
theorem leM {enc:α->List D} {xs:List α}:0+xs.length<=(xs.map enc).length:=by simp
theorem G0 {a b:Nat} {u:Unit} (h:Dl (decide (a=b))=some u):a=b:=of_decide_eq_true (NY h)
def D.flatB:D->Bool
 | .sl es=>es.isEmpty
 | _=>true
theorem U5 {enc:α->List D} {xs:List α} (h:∀ a,(enc a).all D.flatB=true):∀ e∈xs.map enc,∀ x∈e,D.flat x:=by
 intro e he x hx
 simp only [WC] at he
 obtain ⟨a,_,rfl⟩:=he
 have:=Wv.1 (h a) x hx
 cases x<;>first|trivial|exact List.isEmpty_iff.1 this
end Go.AI
end
section
namespace Go.AI
variable {P:Program} {F F':Nat->Option Obj} {ρ ρ':Nat->Option Loc} {N:Nat->Prop} {H0 F0:Nat->Option Obj} {O objs:List (Option Ob)} {w:World} {w0:W0} {Γ:Nat->Ty} {nt:Slt} {o:Oper} {st:St}
theorem AH.one {x:D} {v:Value} (h:AH F x v):v.oneCell'=true:=(FE (F:=F) (ρ:=noR) (.d x v h) rfl).1
def Tq (P:Program) (t:TypeId) (name:String) (f:FuncId):Bool:=
 match P.info? t,P.underlying t with
 | some i,some d=>(match i.methods.find? (·.name==name) with
  | some m=>m.path.isEmpty&&(match m.func with|some (f',b)=>Nat.beq f' f&&!b|none=>false)
  | none=>false)&&(match d with | .pointer _=>false|_=>true)
 | _,_=>false
theorem Qt {t:TypeId} {name:String} {f:FuncId} (h:Tq P t name f=true) (v:Value) (w:World):∀ n,(method (n+1) t v name).run P w=.ok (f,v) w:=by
 intro n
 unfold Tq at h
 split at h
 ·rename_i i d hi hd
  simp only [WI] at h
  obtain ⟨h1,h2⟩:=h
  split at h1
  ·rename_i m hm
   simp only [WI] at h1
   obtain ⟨hp,hf⟩:=h1
   have hp:m.path.toList=[]:=by simpa using hp
   split at hf
   ·rename_i f' b hmf
    simp only [WI,Bool.not_eq_true'] at hf
    obtain ⟨e1,rfl⟩:=hf
    have e1:=WO e1
    subst e1
    have hpe:m.path.isEmpty=true:=by simpa using hp
    have hrec:(receiverAt t (.val v) false (some ((name.splitOn ".").getLastD name))).run P w=.ok v w:=by
     simp only [receiverAt,Ws,run_underlying hd,Wq]
     cases d with
     | pointer e=>cases h2
     | _=>rfl
    unfold method
    simp only [Ws,run_typeInfo w hi,Wq,hm,hp,follow,Wt,hmf,hpe,if_true,hrec]
   ·cases hf
  ·cases h1
 ·cases h
def HZ (ev:Operand->AV):Op->Option ((Nat×String)⊕FuncId)×List AV
 | .call ⟨.value x,args,_⟩=>match ev x with
  | .clo f l=>(some (.inr f),args.toList.map ev++l)
  | _=>(none,[])
 | .call ⟨.invoke x m,args,_⟩=>match ev x with
  | .ifc t v=>(some (.inl (t,m)),v::args.toList.map ev)
  | _=>(none,[])
 | _=>(none,[])
def Tr (P:Program) (c:Option ((Nat×String)⊕FuncId)) (f:FuncId):Bool:=
 match c with
 | some (.inl (t,m))=>Tq P t m f
 | some (.inr f')=>Nat.beq f' f
 | none=>false
theorem Qu {f:FuncId} {c:Option ((Nat×String)⊕FuncId)} {xs:List AV} {nb:Nat} {r:AV} {O1:List (Option Ob)} (hc:HZ (Ae st.env) o.op=(c,xs)) (hm:Tr P c f=true)
  (hcall:Ba P f (xs.map (C7 (Ah st.objs xs))) (BP st.objs (Ah st.objs xs)) nb r O1) (hnb:nb<=(Ah st.objs xs).length) (hnb1:nb<=O1.length) (hord:∀ k∈Ah st.objs xs,k<st.objs.length) :
  Js P nt o true st ⟨putA o.dst false true (E8 (BQ (Ah st.objs xs) st.objs.length nb) r) st.env,Bg st.objs (Ah st.objs xs) nb O1⟩:=by
 intro N H0 F0 w0 a w _ hI hdst K Qw hK
 obtain ⟨F,ρ,hS,hSl,hn,hdf⟩:=hI
 have hk:∀ v w' F' ρ'',FLe F F'->RLe ρ ρ''->Sim N H0 F0 F' ρ'' (Bg st.objs (Ah st.objs xs) nb O1) w'.heap->Ad F' ρ'' (E8 (BQ (Ah st.objs xs) st.objs.length nb) r) v->Mu w w'->K (a.put o.dst v) w':=
  λ v w' F' ρ'' hF hρ hS' hv hmu=>hK _ _ ⟨F',ρ'',hS',(hSl.mono hF hρ).putA hn hdst hv,hn.put hdst,by rw [AC];exact ⟨hdf.1.mono hF,hdf.2.1.trans hmu,hdf.2.2.mono hρ⟩⟩
 have hev:∀ x,Ad F ρ (Ae st.env x) (a.eval x):=Ap hSl
 unfold HZ at hc
 split at hc
 ·rename_i x args ts hop
  split at hc
  ·rename_i f' l hx
   cases hc
   have e1:=WO hm
   subst e1
   have hxr:=hev x
   rw [hx] at hxr
   generalize hxv:a.eval x=xv at hxr
   cases hxr with
   | clo _ _ vs hl hr=>
    have hcr0:=Db (args:=args) (a:=a) (λ x _=>hev x)
    refine EH (vs:=args.map a.eval++vs) (λ fn c hf hb hnm=>?_) hS ⟨by simp [hl],λ i y v hy hv=>?_⟩ hcall hnb hnb1 hord hk
    ·simp only [execOp,hop,resolve,hxv,Deferred.ofValue,Ws,Wt,Wq,invoke,callFunc,run_program,hf,hnm,hb,WS,if_false,Option.isNone_some,Array.empty_append]
    ·rw [Array.toList_append] at hv
     have hl0:=hcr0.1
     by_cases hi:i<(args.toList.map (Ae st.env)).length
     ·rw [WQ hi] at hy
      rw [WQ (by omega)] at hv
      exact hcr0.2 i y v hy hv
     ·rw [WW (by omega)] at hy
      rw [WW (by omega)] at hv
      exact hr _ y v hy (by rw [hl0];simpa using hv)
  ·cases hc;cases hm
 ·rename_i x m args ts hop
  split at hc
  ·rename_i t v0 hx
   cases hc
   have hxr:=hev x
   rw [hx] at hxr
   generalize hxv:a.eval x=xv at hxr
   cases hxr with
   | ifc _ _ y hy=>
    have hcr0:=Db (args:=args) (a:=a) (λ x _=>hev x)
    refine EH (vs:=#[y]++args.map a.eval) (λ fn c hf hb hnm=>?_) hS ⟨by simp,λ i z v hz hv=>?_⟩ hcall hnb hnb1 hord hk
    ·obtain ⟨n,hn'⟩:∃ n,P.types.size+Made.depth=n+1:=⟨P.types.size+(Made.depth-1),by simp [Made.depth]⟩
     have hmet:=Qt hm y w n
     rw [← hn'] at hmet
     have hex:(#[Value.iface t y]++args.map a.eval).extract 1 (#[Value.iface t y]++args.map a.eval).size=args.map a.eval:=by
      apply Array.ext'
      simp [Array.toList_extract]
      exact List.take_of_length_le (by simp)
     have h0:(#[Value.iface t y]++args.map a.eval)[0]? = some (Value.iface t y):=by rw [Array.getElem?_append_left (by simp)];rfl
     simp only [execOp,hop,resolve,hxv,Ws,Wt,Wq,invoke,h0,hex,callMethod,Ws,run_program,Wq,hmet,callFunc,hf,hnm,hb,WS,if_false,Option.isNone_some,Wt]
    ·rw [Array.toList_append] at hv
     cases i with
     | zero=>simp at hz hv;subst hz;subst hv;exact hy
     | succ i=>exact hcr0.2 i z v (by simpa using hz) (by simpa using hv)
  ·cases hc;cases hm
 ·cases hc;cases hm
def Nk:TK->Bool
 | .other=>false
 | _=>true
theorem O2 (hΓ:Ez P Γ) {t:TypeId} {x:Operand} (hop:o.op=.makeInterface t x) (hok:(Γ t).ok=true) (hk:Nk (Γ t).kind=true):Js P nt o true st ⟨putA o.dst false true (.ifc t (Ae st.env x)) st.env,st.objs⟩:=by
 intro N H0 F0 w0 a w _ hI hdst K Qw hK
 obtain ⟨F,ρ,hS,hSl,hn,hdf⟩:=hI
 obtain ⟨d,hd,_,hf⟩:=(hΓ t hok).desc
 have hni:∀ l,d≠.interface l:=λ l e=>by
  subst e
  cases hkk:(Γ t).kind<;>rw [hkk] at hf hk<;>simp [Dx,Nk] at hf hk
 have hr:(execOp a.eval o).run P w=.ok (.value (.iface t (a.eval x))) w:=by
  simp only [execOp,hop,Instr.makeInterface,Ws,run_underlying hd,Wq]
  cases d with
  | interface l=>exact absurd rfl (hni l)
  | _=>rfl
 unfold Oper.wp
 rw [hr,Oper.upon_value]
 exact hK _ _ ⟨F,ρ,hS,hSl.putA hn hdst (.ifc _ _ _ (Ap hSl x)),hn.put hdst,by rw [AC];exact hdf⟩
theorem Qv {f:FuncId} {cap:Array Operand} (hop:o.op=.makeFunc (.func f) #[] cap):Js P nt o true st ⟨putA o.dst false true (.clo f (cap.toList.map (Ae st.env))) st.env,st.objs⟩:=by
 intro N H0 F0 w0 a w _ hI hdst K Qw hK
 obtain ⟨F,ρ,hS,hSl,hn,hdf⟩:=hI
 have hr:(execOp a.eval o).run P w=.ok (.value (.func (.func f) #[] (cap.map a.eval))) w:=by
  simp only [execOp,hop,Instr.makeFunc,Ws,Wt,Wq,List.map_toArray,List.map_nil]
 have hc:=Db (args:=cap) (a:=a) λ x _=>Ap hSl x
 unfold Oper.wp
 rw [hr,Oper.upon_value]
 exact hK _ _ ⟨F,ρ,hS,hSl.putA hn hdst (.clo f _ _ (by simp) λ i x v hx hv=>hc.2 i x v hx (by simpa using hv)),hn.put hdst,by rw [AC];exact hdf⟩
end Go.AI
end
section
namespace Go.AI
variable {P:Program} {Γ:Cx} {C:Code} {p:List Nat} {Q:Ex->St->Prop} {s s':St} {K:St->Prop} {i:Nat}
variable {α β ζ:Type}
structure XOK (P:Program) (Γ:Cx):Prop where
 ty:Ez P Γ.ty
 ext:Γ.ext=Gl P
def Qx (Γ:Cx) (c:Code) (o:Oper):Bool:=!Gv c&&o.guard.isNone&&AZ Γ.nt o.dst&&ndB o.op
theorem Fr (hX:XOK P Γ) {o:Oper} (ho:(Az (nav p C))[i]? = some o) (h0:Qx Γ (nav p C) o=true) (hx:Js P Γ.nt o true s s') (hk:RF Γ C p (i+1) Q s'):RF Γ C p i Q s:=by
 refine ⟨?_⟩
 have hk:=hk.out
 unfold Ay at hk ⊢
 simp only [Qx,WI,Bool.not_eq_true'] at h0
 obtain ⟨⟨⟨h1,h2⟩,h3⟩,h4⟩:=h0
 rw [BV ho]
 show As _ _ _ _ _ _
 have hgN:o.guard=none:=by simpa using h2
 unfold As
 rw [hgN]
 simp only [AP,h3,Wy,cond_false]
 exact ⟨λ _=>.inr (.inr ⟨h1,.inl ⟨s',by rw [hX.ext];exact hx.ok h4,hk⟩⟩),λ h=>by cases h⟩
def nxI (Γ:Cx) (c:Code) (i:Nat) (s:St):Option St:=
 match (Az c)[i]? with
 | some o=>bif Qx Γ c o then (match o.op with
  | .makeInterface t x=>bif (Γ.ty t).ok&&Nk (Γ.ty t).kind then some ⟨putA o.dst false true (.ifc t (Ae s.env x)) s.env,s.objs⟩ else none
  | .makeFunc (.func f) first cap=>bif first.toList.isEmpty then some ⟨putA o.dst false true (.clo f (cap.toList.map (Ae s.env))) s.env,s.objs⟩ else none
  | _=>none) else none
 | none=>none
theorem xm (hX:XOK P Γ) (hk:RF Γ C p (i+1) Q ((nxI Γ (nav p C) i s).getD s)) (h:(nxI Γ (nav p C) i s).isSome=true:=by kernel_rfl):RF Γ C p i Q s:=by
 have h:=A7 (d:=s) h
 generalize (nxI Γ (nav p C) i s).getD s=s' at h hk
 unfold nxI at h
 split at h
 ·rename_i o ho
  obtain ⟨h0,h⟩:=Am h
  split at h
  ·rename_i t x hop
   obtain ⟨h1,h⟩:=Am h
   simp only [WI] at h1
   cases h
   exact Fr hX ho h0 (O2 hX.ty hop h1.1 h1.2) hk
  ·rename_i f first cap hop
   obtain ⟨h1,h⟩:=Am h
   cases h
   have:first=#[]:=by have:=List.isEmpty_iff.1 h1;simpa using this
   subst this
   exact Fr hX ho h0 (Qv hop) hk
  ·cases h
 ·cases h
def Ju (c:Code) (i:Nat) (s:St):Option ((Option ((Nat×String)⊕FuncId)×List AV)×List Nat):=
 match (Az c)[i]? with
 | some o=>some (HZ (Ae s.env) o.op,Ah s.objs (HZ (Ae s.env) o.op).2)
 | none=>none
def nxC (Γ:Cx) (c:Code) (i:Nat) (ord:List Nat) (nb:Nat) (r:AV) (O1:List (Option Ob)) (s:St):Option St:=
 match (Az c)[i]? with
 | some o=>bif Qx Γ c o&&Nat.ble nb ord.length&&Nat.ble nb O1.length&&ord.all (λ k=>Nat.blt k s.objs.length) then
   some ⟨putA o.dst false true (E8 (BQ ord s.objs.length nb) r) s.env,Bg s.objs ord nb O1⟩ else none
 | none=>none
theorem xc (hX:XOK P Γ) (ord:List Nat) {f:FuncId} {ys:List AV} {O0 O1:List (Option Ob)} {nb:Nat} {r:AV} (hr:Ba P f ys O0 nb r O1) (hk:RF Γ C p (i+1) Q ((nxC Γ (nav p C) i ord nb r O1 s).getD s))
  (hc:Ju (nav p C) i s=some (((Ju (nav p C) i s).getD ((none,[]),[])).1,ord):=by kernel_rfl) (hm:Tr P ((Ju (nav p C) i s).getD ((none,[]),[])).1.1 f=true:=by kernel_rfl)
  (hxs:((Ju (nav p C) i s).getD ((none,[]),[])).1.2.map (C7 ord)=ys:=by kernel_rfl) (hO:BP s.objs ord=O0:=by kernel_rfl) (hn:(nxC Γ (nav p C) i ord nb r O1 s).isSome=true:=by kernel_rfl):RF Γ C p i Q s:=by
 generalize ((Ju (nav p C) i s).getD ((none,[]),[])).1=cx at hc hm hxs
 have hn:=A7 (d:=s) hn
 generalize (nxC Γ (nav p C) i ord nb r O1 s).getD s=s' at hn hk
 unfold Ju at hc
 unfold nxC at hn
 split at hn
 ·rename_i o ho
  rw [ho] at hc
  simp only [WR,Prod.mk.injEq] at hc
  obtain ⟨hc,hord⟩:=hc
  rw [hc] at hord
  obtain ⟨h0,hn⟩:=Am hn
  simp only [WI] at h0
  obtain ⟨⟨⟨h1,h2⟩,h3⟩,h4⟩:=h0
  cases hn
  subst hord
  subst hxs
  subst hO
  refine Fr hX ho h1 (Qu (c:=cx.1) (xs:=cx.2) (by rw [hc]) hm hr (WV h2) (WV h3) λ k hk=>?_) hk
  have:=WV (Wv.1 h4 k hk)
  omega
 ·cases hn
end Go.AI
end
section
namespace Go.AI
variable {P:Program} {nt:Slt} {o:Oper} {st:St}
variable {Γ:Cx} {C:Code} {p:List Nat} {Q:Ex->St->Prop} {s s':St} {i:Nat} {α:Type}
section
variable {N:Nat->Prop} {H0 F0 F:Nat->Option Obj} {ρ:Nat->Option Loc} {O:List (Option Ob)} {nk:Nat}
theorem Sim.reob {h:Array Obj} (hS:Sim N H0 F0 F ρ O h) {k:Nat} {ob ob':Ob} (ho:obA O k=some ob) (hr:∀ L,AQ F ρ h L ob->AQ F ρ h L ob') (hn:∀ sz es,ob'=.narr sz es->∀ (i:Nat) (e:List AV) (j isz:Nat) (xs:List (List D)),es[i]? = some e->¬ e[j]? = some (.own isz xs)):Sim N H0 F0 F ρ (O.set k (some ob')) h:=by
 obtain ⟨σ,hσ⟩:=hS.inn
 refine hS.retable (by simp) (λ q L ob1 hq hob=>?_) ⟨σ,hσ.new,λ k' c M q L ob1 hM hq hob=>?_,hσ.sep,λ q L sz' es2 hq hob i e' j isz xs hi hj cs t fr v hb hv=>?_⟩
 ·by_cases e1:q=k
  ·subst e1
   rw [AA ho] at hob
   cases hob
   exact ⟨_,ho,.inr (hr L (hS.obj q L _ hq ho).1)⟩
  ·rw [Aw e1] at hob;exact ⟨ob1,hob,.inl rfl⟩
 ·by_cases e1:q=k
  ·subst e1;exact hσ.obj k' c M q L _ hM hq ho
  ·rw [Aw e1] at hob;exact hσ.obj k' c M q L ob1 hM hq hob
 ·by_cases e1:q=k
  ·subst e1
   rw [AA ho] at hob
   cases hob
   exact absurd hj (hn _ _ rfl i e' j isz xs hi)
  ·rw [Aw e1] at hob;exact hσ.rep q L sz' es2 hq hob i e' j isz xs hi hj cs t fr v hb hv
end
end Go.AI
end
section
namespace Go.AI
variable {P:Program} {F F':Nat->Option Obj} {ρ ρ':Nat->Option Loc} {N:Nat->Prop} {H0 F0:Nat->Option Obj} {O objs:List (Option Ob)} {w:World} {w0:W0}
def Ma (P:Program) (args:List AV) (objs:List (Option Ob)) (nb:Nat) (j:Nat) (objs1:List (Option Ob)):Prop:=
 ∃ d ts vs,obA objs 0=some (.lp d ts vs 0)/\args.length=d.ps.length /\
 ∀ (N:Nat->Prop) (F:Nat->Option Obj) (ρ:Nat->Option Loc) (w:World) (xs:Array Value) (L:Loc) (rc:Loop),Sim N (λ b=>w.heap[b]?) F F ρ objs w.heap->ρ 0=some L->w.heap[L.b]? = some (.loop rc)->CR F ρ args xs.toList ->
  RoundIn Fence.wide 0 P L.b rc.fn ((rc.params.zip xs).foldl (λ tmps (t,a)=>tmps.setIfInBounds t a) rc.tmps) rc.assign rc.body w λ e w'=>∃ v F' ρ',e=.returned v/\Sim N (λ b=>w.heap[b]?) F F' ρ' objs1 w'.heap/\(∀ i,i<nb->∀ L,ρ i=some L->ρ' i=some L)/\Ad F' ρ' (.d (.bool (Nat.beq j 0))) v/\Mu w w'
def Nl (objs:List (Option Ob)) (j:Nat):Option (List (Option Ob)):=
 match obA objs 0 with
 | some (.lp d ts vs _)=>some (objs.set 0 (some (.lp d ts vs j)))
 | _=>none
def exJ (js:List Code):Ex->Nat->Prop
 | .normal,0=>True
 | .ret,i+2=>js[i]? = some .ret
 | .exit k,i+2=>js[i]? = some (.exit k)
 | _,_=>False
def Ts (Γ:Cx) (body:Code) (nb:Nat) (Q:Ex->St->Prop):Ex->St->Prop
 | .normal,s=>∃ s' O' js,Au nb s s'/\lpJ s'.objs 0=some (js,0)/\Nl s'.objs 1=some O'/\wpA Γ body Q ⟨s'.env,O'⟩
 | _,_=>False
def Tt (nb:Nat) (js:List Code) (j:Nat) (objs1:List (Option Ob)) (e:Ex) (s:St):Prop:=exJ js e j/\∃ s',Au nb s s'/\lpJ s'.objs 0=some (js,1)/\Nl s'.objs j=some objs1
theorem Sim.setlp {h:Array Obj} (hS:Sim N H0 F0 F ρ O h) {L:Loc} {rc rc':Loop} {d:Hg} {ts:List Nat} {vs:List AV} {j j':Nat} (hL:ρ 0=some L) (ho:obA O 0=some (.lp d ts vs j)) (hr:h[L.b]? = some (.loop rc)) (h1:rc'.params=rc.params) (h2:rc'.assign=rc.assign) (h3:rc'.body=rc.body) (h4:rc'.tmps=rc.tmps)
  (h5:SZ d j' rc'.state rc'.pending):Sim N H0 F0 F ρ (O.set 0 (some (.lp d ts vs j'))) (h.setIfInBounds L.b (.loop rc')):=by
 obtain ⟨⟨r,g1,g2,g3,g4,g5,g6,g7⟩,hN,hF⟩:=hS.obj 0 L _ hL ho
 rw [hr] at g1
 cases g1
 have hl:=Aq ho
 have:=hS.rewrite (k':=0) (L':=L) (x:=.loop rc') (O':=O.set 0 (some (.lp d ts vs j'))) hL ho (by rw [A0 hL];exact RLe.refl _) rfl (λ i ob' hi hob'=>by
   rw [AU,if_neg (λ hh=>hi hh.1)] at hob';exact ⟨hob',hi⟩) (by simp) (by simpa using hl) (λ ob' hob'=>by
   rw [AU,if_pos ⟨rfl,hl⟩] at hob'
   cases hob'
   rw [A0 hL]
   exact ⟨rc',by rw [Br,if_pos ⟨rfl,Af hr⟩],by rw [h1];exact g2,by rw [h2];exact g3,by rw [h3];exact g4,by rw [h4];exact g5,h5,λ t=>by rw [h4];exact g7 t⟩) (λ ob' hob'=>by
   rw [AU,if_pos ⟨rfl,hl⟩] at hob'
   cases hob';rfl)
 rwa [A0 hL] at this
theorem N3 {j j0:Nat} {O':List (Option Ob)} {js:List Code} (h:Nl O j=some O') (hj:lpJ O 0=some (js,j0)):∃ d ts vs,obA O 0=some (.lp d ts vs j0)/\d.js=js/\O'=O.set 0 (some (.lp d ts vs j)):=by
 obtain ⟨d,ts,vs,h1,h2⟩:=PU hj
 unfold Nl at h
 rw [h1] at h
 cases h
 exact ⟨d,ts,vs,h1,h2,rfl⟩
def Tu (ps:List Nat) (args:List AV) (env:List (Nat×AV)):List (Nat×AV):=(ps.zip args).foldl (λ e p=>p::e) env
theorem Nm:∀ (ps:List Nat) (args:List AV) (xs:List Value) (env:List (Nat×AV)) (tmps:Array Value),args.length=ps.length->(∀ p∈ps,p<tmps.size)->CR F ρ args xs->A3 F ρ env tmps ->
  A3 F ρ (Tu ps args env) ((ps.zip xs).foldl (λ tmps (p:Nat×Value)=>tmps.setIfInBounds p.1 p.2) tmps)/\((ps.zip xs).foldl (λ tmps (p:Nat×Value)=>tmps.setIfInBounds p.1 p.2) tmps).size=tmps.size:=by
 intro ps
 induction ps with
 | nil=>intro args xs env tmps _ _ _ hS;exact ⟨hS,rfl⟩
 | cons p ps ih=>
  intro args xs env tmps hl hp hc hS
  match args,xs,hl,hc with
  | [],_,hl,_=>simp at hl
  | x::args,[],_,hc=>have:=hc.1;simp at this
  | x::args,v::xs,hl,hc=>
   have hx:Ad F ρ x v:=hc.2 0 x v rfl rfl
   have:=ih args xs ((p,x)::env) (tmps.setIfInBounds p v) (by simpa using hl) (λ q hq=>by simpa using hp q (List.mem_cons_of_mem _ hq)) ⟨by have:=hc.1;simpa using this,λ i a u ha hu=>hc.2 (i+1) a u (by simpa using ha) (by simpa using hu)⟩ (by
    intro t
    rw [AK]
    by_cases e:p=t
    ·subst e;rw [if_pos rfl];simp [hp p List.mem_cons_self,hx]
    ·rw [if_neg e]
     have:=hS t
     simpa [WB e] using this)
   exact ⟨this.1,by rw [List.zip_cons_cons,List.foldl_cons,this.2];simp⟩
theorem Qy (ps:Array Nat) (xs:Array Value) (tmps:Array Value):(ps.zip xs).foldl (λ tmps (t,a)=>tmps.setIfInBounds t a) tmps=(ps.toList.zip xs.toList).foldl (λ tmps (p:Nat×Value)=>tmps.setIfInBounds p.1 p.2) tmps:=by
 rw [← Array.foldl_toList,Array.toList_zip]
theorem Qz {Γ:Cx} (hfol:P.follows .mixedOrders=true) (hΓ:CG P Γ) (hrd:Γ.rd=true) {d:Hg} {ts:List Nat} {vs args:List AV} {nb j:Nat} {objs1:List (Option Ob)} (h0:obA objs 0=some (.lp d ts vs 0)) (hlen:args.length=d.ps.length) (hps:(d.ps.all λ p=>Nat.blt p d.n)=true) (hnb:Nat.ble 1 nb=true) (hnt:Γ.nt=⟨d.n,[],nb,Γ.nt.qf⟩)
  (h:wpA Γ d.asg (Ts Γ d.body nb (Tt nb d.js j objs1)) ⟨Tu d.ps args (ts.zip vs),objs⟩):Ma P args objs nb j objs1:=by
 refine ⟨d,ts,vs,h0,hlen,λ N F ρ w xs L rc hS hL hrc hcr=>?_⟩
 have hnb:=WV hnb
 obtain ⟨⟨r,g1,g2,g3,g4,g5,g6,g7⟩,hN0,hF0⟩:=hS.obj 0 L _ hL h0
 rw [hrc] at g1
 cases g1
 rw [Qy,g2]
 obtain ⟨hsl,hsz⟩:=Nm (F:=F) (ρ:=ρ) d.ps args xs.toList (ts.zip vs) rc.tmps hlen (λ p hp=>by
  have:=Wv.1 hps p hp
  have:=WV this
  omega) hcr g7
 have hrk:RK ⟨w,λ _=>none,λ i=>if i<nb then ρ i else none⟩ Γ.nt ρ:=λ i M hi=>by
  simp only at hi
  split at hi
  ·rename_i hlt;exact ⟨by rw [hnt];exact hlt,hi⟩
  ·cases hi
 refine roundIn_of_wpIn trivial (wpIn_mono (Gs (rd:=some L.b) (w0:=⟨w,λ _=>none,λ i=>if i<nb then ρ i else none⟩) hfol hΓ hrd rc.assign _ _ _ w (by rw [g3];exact h) ⟨F,ρ,hS,hsl,⟨by rw [hsz,g5,hnt],λ t v ht=>by cases ht⟩,Dfr.nil,Mu.refl w,hrk⟩) λ e a1 w1 hp=>?_)
 obtain ⟨e',st',rfl,hq,hI⟩:=hp
 cases e' with
 | exit i=>exact hq.elim
 | ret=>exact hq.elim
 | normal=>
  obtain ⟨s',O',js,hsh,hj,hO',hw⟩:=hq
  obtain ⟨F1,ρ1,hS1,hSl1,hn1,hd1,hmu1,hrk1⟩:=Bp (by rw [hnt]) hsh hI
  obtain ⟨d1,ts1,vs1,q1,_,rfl⟩:=N3 hO' hj
  have hL1:ρ1 0=some L:=(hrk1 0 L (by simp only;rw [if_pos (by omega)];exact hL)).2
  obtain ⟨⟨r1,k1,k2,k3,k4,k5,k6,k7⟩,_,_⟩:=hS1.obj 0 L _ hL1 q1
  have hst1:r1.state=.ready/\r1.pending=none:=by
   rcases k6 with ⟨_,h2,h3⟩|⟨h2,_⟩|⟨c,h2,_⟩
   ·exact ⟨h2,h3⟩
   ·omega
   ·omega
  refine ⟨_,run_beginRound k1 hst1.1,?_⟩
  have hS2:=hS1.setlp (rc':={ r1 with state:=.busy }) (j':=1) hL1 q1 k1 rfl rfl rfl rfl (.inr (.inl ⟨rfl,rfl,hst1.2⟩))
  refine wpIn_mono (Gs (rd:=some L.b) (w0:=⟨w,λ _=>none,λ i=>if i<nb then ρ i else none⟩) hfol hΓ hrd rc.body _ ⟨s'.env,s'.objs.set 0 (some (.lp d1 ts1 vs1 1))⟩ a1 (w1.putObj L.b (.loop { r1 with state:=.busy })) (by rw [g4];exact hw) ⟨F1,ρ1,hS2,hSl1,hn1,hd1,hmu1.trans ⟨rfl,rfl,by simp,rfl,Wz _⟩,hrk1⟩) λ e a2 w2 hp=>?_
  obtain ⟨e',st2,rfl,⟨hex,s2,hsh2,hj2,hO2⟩,hI2⟩:=hp
  obtain ⟨F3,ρ3,hS3,hSl3,hn3,hd3,hmu3,hrk3⟩:=Bp (by rw [hnt]) hsh2 hI2
  obtain ⟨d2,ts2,vs2,q2,hjs,rfl⟩:=N3 hO2 hj2
  have hL3:ρ3 0=some L:=(hrk3 0 L (by simp only;rw [if_pos (by omega)];exact hL)).2
  obtain ⟨⟨r2,m1,m2,m3,m4,m5,m6,m7⟩,_,_⟩:=hS3.obj 0 L _ hL3 q2
  have hkeep:∀ i,i<nb->∀ M,ρ i=some M->ρ3 i=some M:=λ i hi M hM=>(hrk3 i M (by simp only;rw [if_pos hi];exact hM)).2
  have fin:∀ (jump:Option Code) (hl:SZ d2 j (if jump.isNone then .ready else .done) jump) (hb:jump.isNone=Nat.beq j 0),∃ v w',(Instr.endRound L.b jump).run P w2=.ok v w'/\∃ v' F' ρ',Ending.returned v=.returned v'/\Sim N (λ b=>w.heap[b]?) F F' ρ' (s2.objs.set 0 (some (.lp d2 ts2 vs2 j))) w'.heap/\(∀ i,i<nb->∀ L,ρ i=some L->ρ' i=some L)/\Ad F' ρ' (.d (.bool (Nat.beq j 0))) v'/\Mu w w':=by
   intro jump hl hb
   have hS4:=hS3.setlp (rc':={ r2 with state:=if jump.isNone then .ready else .done,pending:=jump }) (j':=j) hL3 q2 m1 rfl rfl rfl rfl hl
   exact ⟨_,_,run_endRound jump m1,.bool jump.isNone,F3,ρ3,rfl,hS4,hkeep,by rw [hb];exact .mkBool _,hmu3.trans ⟨rfl,rfl,by simp,rfl,Wz _⟩⟩
  cases e' with
  | normal=>
   match j,hex with
   | 0,_=>exact fin none (.inl ⟨rfl,rfl,rfl⟩) rfl
  | ret=>
   match j,hex with
   | i+2,hex=>exact fin (some .ret) (.inr (.inr ⟨.ret,by omega,by rw [hjs];exact hex,rfl,rfl⟩)) rfl
  | exit k=>
   match j,hex with
   | i+2,hex=>exact fin (some (.exit k)) (.inr (.inr ⟨.exit k,by omega,by rw [hjs];exact hex,rfl,rfl⟩)) rfl
theorem Sl {nt:Slt} {o:Oper} {st:St} {x:Operand} {args:Array Operand} {tys:Array TypeId} {k nb j:Nat} {O1:List (Option Ob)} (hop:o.op=.call ⟨.value x,args,tys⟩) (hgob:CF true (o.op.operands.toList.map (Ae st.env))) (hx:unG (Ae st.env x)=.yld k)
  (hcall:Ma P ((args.toList.map (λ y=>unG (Ae st.env y))).map (C7 (Ah st.objs (.yld k::args.toList.map (λ y=>unG (Ae st.env y)))))) (BP st.objs (Ah st.objs (.yld k::args.toList.map (λ y=>unG (Ae st.env y))))) nb j O1)
  (h0:(Ah st.objs (.yld k::args.toList.map (λ y=>unG (Ae st.env y))))[0]? = some k) (hnb:nb<=(Ah st.objs (.yld k::args.toList.map (λ y=>unG (Ae st.env y)))).length) (hnb1:nb<=O1.length) (hord:∀ i∈Ah st.objs (.yld k::args.toList.map (λ y=>unG (Ae st.env y))),i<st.objs.length) :
  Gl P nt o true st ⟨putA o.dst false true (.d (.bool (Nat.beq j 0))) st.env,Bg st.objs (Ah st.objs (.yld k::args.toList.map (λ y=>unG (Ae st.env y)))) nb O1⟩:=by
 intro N H0 F0 w0 a w _ hI hdst rd n K Qw _ hK
 obtain ⟨F,ρ,hS,hSl,hn,hdf⟩:=hI
 have hev:∀ y∈o.op.operands.toList,Ad F ρ (unG (Ae st.env y)) (a.eval y):=λ y hy=>AT rfl _ hgob _ (List.mem_map_of_mem hy) _ (Ap hSl y)
 have hxr:=hev x (by rw [hop];simp [Op.operands,Call.operands])
 rw [hx] at hxr
 generalize hxv:a.eval x=xv at hxr
 cases hxr with
 | yld _ L hL=>
  obtain ⟨d,ts,vs,hd0,hlen,hcall⟩:=hcall
  obtain ⟨k',ob0,hk',hob,hlp⟩:=Dy hd0
  rw [h0] at hk'
  cases hk'
  obtain ⟨rc,hrc,hps⟩:∃ rc,w.heap[L.b]? = some (.loop rc)/\rc.params.toList=d.ps:=by
   obtain ⟨hrep,_,_⟩:=hS.obj k L _ hL hob
   cases ob0 with
   | lp d' ts' vs' j'=>
    simp only [Jo,Ob.lp.injEq] at hlp
    obtain ⟨rfl,_⟩:=hlp
    obtain ⟨rc,q1,q2,_⟩:=hrep
    exact ⟨rc,q1,q2⟩
   | cut k1 sz1 xs1=>
    simp only [Jo,Ke] at hlp
    split at hlp<;>cases hlp
   | _=>simp [Jo] at hlp
  have hargs:=Db (args:=args) (a:=a) (ev:=λ y=>unG (Ae st.env y)) (λ y hy=>hev y (by rw [hop];simp [Op.operands,Call.operands];exact .inr (by simpa using hy)))
  have hsz:(args.map a.eval).size=rc.params.size:=by
   have:rc.params.size=d.ps.length:=by rw [← hps];simp
   rw [this,← hlen];simp
  have hy:=run_yield (P:=P) (args:=args.map a.eval) hrc hsz
  obtain ⟨T,hT⟩:∃ T,((rc.params.zip (args.map a.eval)).foldl (λ tmps (t,a)=>tmps.setIfInBounds t a) rc.tmps)=T:=⟨_,rfl⟩
  rw [hT] at hy
  have hex:(execOp a.eval o).run P w=.ok (.round L.b rc.fn T rc.assign rc.body) w:=by
   simp only [execOp,hop,resolve,hxv,Deferred.ofValue,Ws,Wt,Wq,invoke,Array.empty_append]
   exact hy
  refine ⟨λ _ _=>trivial,?_⟩
  rw [Oper.semAt_plain _ _ _ (by rw [hop];intro c e;cases e),hex]
  refine ⟨(by intro h;cases h),?_⟩
  have hr:RoundIn Fence.wide 0 P L.b rc.fn T rc.assign rc.body w λ
    | .returned v,w''=>K (a.put o.dst v) w''
    | .panicked chain,w''=>Qw (.panic chain) a w''
    | .outgrown,_=>LetsOut Qw:=by
   refine PS (X:=λ _ R=>RoundIn Fence.wide 0 P L.b rc.fn T rc.assign rc.body w R) (λ _ _ _ h hr=>h.mono hr) (vs:=#[.func (.yield L.b) #[] #[]]++args.map a.eval) (xs:=.yld k::args.toList.map (λ y=>unG (Ae st.env y))) (r:=.d (.bool (Nat.beq j 0))) hS ?_ (λ N F ρ' hρ' hS' hcr=>?_) hnb hnb1 hord (λ v w' F' ρ'' hF hρ hS' hv hmu=>?_)
   ·refine ⟨by simp,λ i y v hy hv=>?_⟩
    cases i with
    | zero=>simp at hy hv;subst hy;subst hv;exact .yld _ _ hL
    | succ i=>exact hargs.2 i y v (by simpa using hy) (by simpa [Array.getElem?_append] using hv)
   ·rw [← hT]
    refine hcall N F ρ' w _ L rc hS' ?_ hrc ⟨by simp,λ i y v hy hv=>hcr.2 (i+1) y v (by simpa using hy) (by simpa [Array.getElem?_append] using hv)⟩
    rw [hρ']
    unfold gcR
    rw [h0];exact hL
   ·exact hK _ _ ⟨F',ρ'',hS',(hSl.mono hF hρ).putA hn hdst hv,hn.put hdst,by rw [AC];exact ⟨hdf.1.mono hF,hdf.2.1.trans hmu,hdf.2.2.mono hρ⟩⟩
  exact ⟨hr.1,λ c cs _=>hr.2 c cs (room_wide _)⟩
end Go.AI
end
section
namespace Go.AI
variable {P:Program} {Γ:Cx} {C:Code} {p:List Nat} {Q:Ex->St->Prop} {s s':St} {K:St->Prop} {i nk:Nat}
variable {α β ζ:Type}
def lpd (C:Code) (p:List Nat) (n:Nat) (ps:List Nat) (js:List Code):Hg:=⟨n,ps,nav (p++[0]) C,nav (p++[1]) C,js⟩
structure JQ (Q:Ex->St->Prop) (js:List Code) (j:Nat) (s:St):Prop where
 out:MG Q js j s
theorem jz {js:List Code} (h:PQ Q .normal s):JQ Q js 0 s:=⟨h.out⟩
def rgV (Γ:Cx) (c:Code) (js:List Code) (ts:List Nat) (s:St):Option (FuncId×List AV×List (Option Ob)×List Nat):=
 match c with
 | .rangeFunc g ps asg body=>match Ae s.env g with
  | .clo f caps=>some (f,.yld s.objs.length::caps,rgO Γ ps asg body js ts s,Ah (rgO Γ ps asg body js ts s) (.yld s.objs.length::caps))
  | _=>none
 | _=>none
def rgB (Γ:Cx) (ord:List Nat) (nb:Nat) (O O1:List (Option Ob)):Bool:=!Γ.rd&&Nat.ble nb ord.length&&Nat.ble nb O1.length&&ord.all (λ k=>Nat.blt k O.length)
theorem wsh (hs:Au Γ.nt.nk s s') (hk:WP Γ C p Q s') (h:(match nav p C with | .rangeFunc _ _ _ _=>true|_=>false)=true:=by kernel_rfl):WP Γ C p Q s:=by
 refine ⟨?_⟩
 have hk:=hk.out
 split at h
 ·rename_i g ps a b he
  rw [he] at hk ⊢
  obtain ⟨s2,h1,h2⟩:=hk
  exact ⟨s2,.trans hs h1,h2⟩
 ·cases h
def QA (c:Code) (i:Nat) (s:St):Option (Nat×List AV×List Nat):=
 match (Az c)[i]? with
 | some o=>match o.op with
  | .call ⟨.value x,args,_⟩=>match unG (Ae s.env x) with
   | .yld k=>some (k,args.toList.map (λ y=>unG (Ae s.env y)),Ah s.objs (.yld k::args.toList.map (λ y=>unG (Ae s.env y))))
   | _=>none
  | _=>none
 | none=>none
def Sn (Γ:Cx) (c:Code) (o:Oper):Bool:=!Gv c&&AZ Γ.nt o.dst&&ndB o.op
def nxY (Γ:Cx) (c:Code) (i:Nat) (g:Bool) (ord:List Nat) (nb j:Nat) (O1:List (Option Ob)) (s:St):Option St:=
 match (Az c)[i]? with
 | some o=>bif Sn Γ c o&&Nat.ble nb ord.length&&Nat.ble nb O1.length&&ord.all (λ k=>Nat.blt k s.objs.length) then
   some ⟨putA o.dst o.guard.isSome g (.d (.bool (Nat.beq j 0))) s.env,Bg s.objs ord nb O1⟩ else none
 | none=>none
def gY (c:Code) (i:Nat) (s:St):Option Bool:=match (Az c)[i]? with
 | some o=>AP (Az c) s.env o.guard
 | none=>none
theorem J7 (hX:XOK P Γ) {o:Oper} {g:Bool} (ho:(Az (nav p C))[i]? = some o) (h0:Sn Γ (nav p C) o=true) (hg:gY (nav p C) i s=some g) (hgt:g=true) (hx:Gl P Γ.nt o g s s') (hk:RF Γ C p (i+1) Q s'):RF Γ C p i Q s:=by
 refine ⟨?_⟩
 have hk:=hk.out
 unfold Ay at hk ⊢
 simp only [Sn,WI,Bool.not_eq_true'] at h0
 obtain ⟨⟨h1,h3⟩,h4⟩:=h0
 rw [BV ho]
 show As _ _ _ _ _ _
 unfold As
 have hga:AP (Az (nav p C)) s.env o.guard=some g:=by
  unfold gY at hg
  rw [ho] at hg
  exact hg
 rw [hga]
 simp only [h3,Wy,cond_false]
 exact ⟨λ _=>.inr (.inr ⟨h1,.inl ⟨s',by rw [hX.ext];exact hx,hk⟩⟩),λ h=>by rw [hgt] at h;cases h⟩
theorem Nn {nt:Slt} {o:Oper} {st:St} {v:AV} {O1:List (Option Ob)} {g:Bool} (h:Gl P nt o true st ⟨putA o.dst false true v st.env,O1⟩):Gl P nt o g st ⟨putA o.dst o.guard.isSome g v st.env,O1⟩:=by
 intro N H0 F0 w0 a w hg hI hdst rd n K Qw hqr hK
 subst hg
 refine h N H0 F0 w0 a w rfl hI hdst rd n K Qw hqr λ a' w' hI'=>hK a' w' ?_
 obtain ⟨F,ρ,hS,hSl,hrest⟩:=hI'
 refine ⟨F,ρ,hS,?_,hrest⟩
 cases hgs:o.guard.isSome with
 | false=>exact hSl
 | true=>
  cases hd:o.dst with
  | none=>rw [hd] at hSl;exact hSl
  | some d=>
   rw [hd] at hSl
   intro t
   have:=hSl t
   simp only [putA,cond_true,cond_false,AK] at this ⊢
   split
   ·rename_i e;rw [if_pos e] at this;exact .gvT _ _ this
   ·rename_i e;rw [if_neg e] at this;exact this
theorem xy (hX:XOK P Γ) {g:Bool} (hgt:g=true) {gs:List Bool} (hi:CJ g gs) (ord:List Nat) {ys:List AV} {O0 O1 raw0:List (Option Ob)} {nb j:Nat} (hr:Ma P ys O0 nb j O1) (hp0:raw0=O0) (hk:RF Γ C p (i+1) Q ((nxY Γ (nav p C) i g ord nb j O1 s).getD s)) (hg:gY (nav p C) i s=some g:=by kernel_rfl) (hgs:CK (nav p C) i s=gs:=by kernel_rfl)
  (hc:QA (nav p C) i s=some (ord.headD 0,((QA (nav p C) i s).getD (0,[],[])).2.1,ord):=by kernel_rfl) (hxs:((QA (nav p C) i s).getD (0,[],[])).2.1.map (C7 ord)=ys:=by kernel_rfl) (hO:BP s.objs ord=raw0:=by kernel_rfl)
  (hn:(nxY Γ (nav p C) i g ord nb j O1 s).isSome=true:=by kernel_rfl) (hl:Nat.ble 1 ord.length=true:=by kernel_rfl):RF Γ C p i Q s:=by
 generalize ((QA (nav p C) i s).getD (0,[],[])).2.1=xs at hc hxs
 have hn:=A7 (d:=s) hn
 generalize (nxY Γ (nav p C) i g ord nb j O1 s).getD s=s' at hn hk
 subst hp0
 unfold QA at hc
 unfold nxY at hn
 split at hn
 ·rename_i o ho
  rw [ho] at hc
  simp only at hc
  obtain ⟨h0,hn⟩:=Am hn
  simp only [WI] at h0
  obtain ⟨⟨⟨h1,h2⟩,h3⟩,h4⟩:=h0
  cases hn
  split at hc
  ·rename_i x args ts hop
   split at hc
   ·rename_i k hx
    simp only [WR,Prod.mk.injEq] at hc
    obtain ⟨hk0,rfl,hord⟩:=hc
    subst hxs
    subst hO
    have hgob:CF true (o.op.operands.toList.map (Ae s.env)):=by
     subst hgs
     unfold CK at hi
     rw [ho] at hi
     rw [← hgt]
     exact Eg hi
    have h00:(Ah s.objs (.yld k::args.toList.map (λ y=>unG (Ae s.env y))))[0]? = some k:=by
     rw [hord,hk0]
     have:=WV hl
     cases ord with
     | nil=>simp at this
     | cons y l=>rfl
    refine J7 hX ho h1 hg hgt (hord▸Nn (Sl hop hgob hx (by rw [hord];exact hr) h00 (by rw [hord];exact WV h2) (WV h3) λ k hk=>?_)) hk
    rw [hord] at hk
    have:=WV (Wv.1 h4 k hk)
    omega
   ·cases hc
  ·cases hc
 ·cases hn
def DG (m:Nat):Code->Code
 | .region id ops _=>.region id (ops.toList.take m).toArray false
 | c=>c
def QB (Γ:Cx) (c:Code) (m:Nat) (Q:Ex->St->Prop):Ex->St->Prop:=λ _ s=>phX Γ (B2 c) (Q .normal) ((B2 c).size-(m+1)) (m+1) s
def U6 (Γ:Cx) (c:Code) (b x m:Nat) (s0:St) (Q:Ex->St->Prop):Ex->St->Prop:=λ e s=>S4 Γ.ty (B2 c) b x m s0.env s.env s0.objs s.objs/\∃ F,(B2 c)[m]? = some F/\As Γ false (B2 c).toList F (QB Γ c m Q e) s
theorem rx (x m:Nat) (hs:Au Γ.nt.nk s s') (hk:RF (cxX Γ (B2 (nav p C)) x) (DG m (nav p C)) [] 0 (U6 Γ (nav p C) 0 x m s' Q) s') (h:(FQ (nav p C)&&Gv (nav p C))=true:=by kernel_rfl) (hb:Ib (B2 (nav p C)) 0 x m=true:=by kernel_rfl):WP Γ C p Q s:=by
 refine ⟨?_⟩
 have hk:=hk.out
 generalize nav p C=c at *
 cases c with
 | region id ops d=>
  simp only [FQ,Gv,Bool.true_and] at h
  subst h
  exact ⟨s',hs,.inr (.inl ⟨rfl,ops.size-(m+1)+1,.inr ⟨x,m,Nat.zero_le _,hb,hk⟩⟩)⟩
 | _=>cases h
theorem No {ops:List Oper} {m:Nat} {env:List (Nat×AV)} {g:Option (Nat×Bool)} {v:Bool} (h:AP (ops.take m) env g=some v):AP ops env g=some v:=by
 unfold AP at h ⊢
 split at h
 ·exact h
 ·rename_i j want
  rcases WA j m with hj|hj
  ·rw [WY hj] at h;exact h
  ·rw [List.getElem?_eq_none (by rw [List.length_take];omega)] at h;cases h
theorem I0 {ops:List Oper} {m:Nat} {o:Oper} {Q:St->Prop} (h:As Γ false (ops.take m) o Q s):As Γ false ops o Q s:=by
 unfold As at h ⊢
 split at h
 ·exact h.elim
 ·rename_i g hg
  rw [No hg];exact h
theorem mx {c:Code} {b x m:Nat} {s0:St} (hk:RF Γ (DG (m+1) c) [] m (QB Γ c m Q) s) (hi:Nat.ble (Az (DG m c)).length i=true:=by kernel_rfl) (h:FQ c=true:=by kernel_rfl) (hm:Nat.blt m (B2 c).size=true:=by kernel_rfl)
  (h1:ldL Γ.ty (B2 c) b x m s0.env s.env s0.objs=ldL Γ.ty (B2 c) b x m s0.env s.env s.objs:=by kernel_rfl) (h2:(ldL Γ.ty (B2 c) b x m s0.env s.env s0.objs).all Option.isSome=true:=by kernel_rfl):RF (cxX Γ (B2 c) x) (DG m c) [] i (U6 Γ c b x m s0 Q) s:=by
 refine ⟨IQ i hi ⟨⟨h1,h2⟩,?_⟩⟩
 have hk:=hk.out
 have hm:=WV hm
 cases c with
 | region id ops d=>
  simp only [B2] at hm ⊢
  have hg:=WM (show m<ops.size by omega)
  refine ⟨ops[m],hg,?_⟩
  have hk:D2 Γ false (ops.toList.take (m+1)) ((ops.toList.take (m+1)).drop m) (QB Γ (.region id ops d) m Q .normal) s:=hk
  rw [show (ops.toList.take (m+1)).drop m=[ops[m]] by
   rw [List.drop_take,List.drop_eq_getElem_cons (by simp;omega)]
   simp] at hk
  exact I0 hk
 | _=>cases h
theorem nz {c:Code} {m:Nat} (hk:PQ Q .normal s) (hi:Nat.ble (Az (DG (m+1) c)).length i=true:=by kernel_rfl) (hm:Nat.beq (B2 c).size (m+1)=true:=by kernel_rfl):RF Γ (DG (m+1) c) [] i (QB Γ c m Q) s:=by
 refine ⟨IQ i hi ?_⟩
 unfold QB
 have hm:=WO hm
 rw [hm,Nat.sub_self]
 exact ⟨hm.symm,hk.out⟩
def C1 (ev:Operand->AV):Op->Option FuncId×List AV
 | .call ⟨.value (.func f),args,_⟩=>(some f,args.toList.map ev)
 | .call ⟨.value x,args,_⟩=>match ev x with
  | .clo f l=>(some f,args.toList.map ev++l)
  | _=>(none,[])
 | _=>(none,[])
theorem Jv {ev ev':Operand->AV} {op:Op} (h:∀ y∈op.operands.toList,ev y=ev' y):C1 ev op=C1 ev' op:=by
 cases op with
 | call c=>
  obtain ⟨callee,args,ts⟩:=c
  cases callee with
  | value x=>
   have ha:args.toList.map ev=args.toList.map ev':=List.map_congr_left λ y hy=>h y (by simp [Op.operands,Call.operands];exact .inr (by simpa using hy))
   have hx:=h x (by simp [Op.operands,Call.operands])
   cases x<;>simp only [C1,ha,hx]
  | _=>rfl
 | _=>rfl
theorem O3 {nt:Slt} {o:Oper} {st:St} {f:FuncId} {xs:List AV} {nb:Nat} {r:AV} {O1:List (Option Ob)} (hgob:CF true (o.op.operands.toList.map (Ae st.env))) (hc:C1 (λ y=>unG (Ae st.env y)) o.op=(some f,xs))
  (hcall:Ba P f (xs.map (C7 (Ah st.objs xs))) (BP st.objs (Ah st.objs xs)) nb r O1) (hnb:nb<=(Ah st.objs xs).length) (hnb1:nb<=O1.length) (hord:∀ k∈Ah st.objs xs,k<st.objs.length) :
  Js P nt o true st ⟨putA o.dst false true (E8 (BQ (Ah st.objs xs) st.objs.length nb) r) st.env,Bg st.objs (Ah st.objs xs) nb O1⟩:=by
 intro N H0 F0 w0 a w _ hI hdst K Qw hK
 obtain ⟨F,ρ,hS,hSl,hn,hdf⟩:=hI
 have hk:∀ v w' F' ρ'',FLe F F'->RLe ρ ρ''->Sim N H0 F0 F' ρ'' (Bg st.objs (Ah st.objs xs) nb O1) w'.heap->Ad F' ρ'' (E8 (BQ (Ah st.objs xs) st.objs.length nb) r) v->Mu w w'->K (a.put o.dst v) w':=
  λ v w' F' ρ'' hF hρ hS' hv hmu=>hK _ _ ⟨F',ρ'',hS',(hSl.mono hF hρ).putA hn hdst hv,hn.put hdst,by rw [AC];exact ⟨hdf.1.mono hF,hdf.2.1.trans hmu,hdf.2.2.mono hρ⟩⟩
 have hev:∀ y∈o.op.operands.toList,Ad F ρ (unG (Ae st.env y)) (a.eval y):=λ y hy=>AT rfl _ hgob _ (List.mem_map_of_mem hy) _ (Ap hSl y)
 unfold C1 at hc
 split at hc
 ·rename_i f' args ts hop
  cases hc
  exact LF (ev:=λ y=>unG (Ae st.env y)) hop hS (λ y hy=>hev y (by rw [hop];simp [Op.operands,Call.operands];exact .inr (by simpa using hy))) hcall hnb hnb1 hord hk
 ·rename_i x args ts _ hop
  split at hc
  ·rename_i f' l hx
   have hx:unG (Ae st.env x)=.clo f' l:=hx
   cases hc
   have hxr:=hev x (by rw [hop];simp [Op.operands,Call.operands])
   rw [hx] at hxr
   generalize hxv:a.eval x=xv at hxr
   cases hxr with
   | clo _ _ vs hl hr=>
    have hcr0:=Db (args:=args) (a:=a) (ev:=λ y=>unG (Ae st.env y)) (λ y hy=>hev y (by rw [hop];simp [Op.operands,Call.operands];exact .inr (by simpa using hy)))
    refine EH (vs:=args.map a.eval++vs) (λ fn c hf hb hnm=>?_) hS ⟨by simp [hl],λ i y v hy hv=>?_⟩ hcall hnb hnb1 hord hk
    ·simp only [execOp,hop,resolve,hxv,Deferred.ofValue,Ws,Wt,Wq,invoke,callFunc,run_program,hf,hnm,hb,WS,if_false,Option.isNone_some,Array.empty_append]
    ·rw [Array.toList_append] at hv
     have hl0:=hcr0.1
     by_cases hi:i<(args.toList.map (λ y=>unG (Ae st.env y))).length
     ·rw [WQ hi] at hy
      rw [WQ (by omega)] at hv
      exact hcr0.2 i y v hy hv
     ·rw [WW (by omega)] at hy
      rw [WW (by omega)] at hv
      rw [← hl0] at hv
      exact hr _ y v hy (by simpa using hv)
  ·cases hc
 ·cases hc
def Jw (c:Code) (i:Nat) (s:St):Option ((Option FuncId×List AV)×List Nat):=
 match (Az c)[i]? with
 | some o=>some (C1 (λ y=>unG (Ae s.env y)) o.op,Ah s.objs (C1 (λ y=>unG (Ae s.env y)) o.op).2)
 | none=>none
def nxS (Γ:Cx) (ops:Array Oper) (x:Nat) (c:Code) (i:Nat) (g:Bool) (ord:List Nat) (nb:Nat) (r:AV) (O1:List (Option Ob)) (s:St):Option St:=
 match (Az c)[i]? with
 | some o=>bif !Gv c&&Nat.beq i x&&Nat.blt x ops.size.pred&&AZ Γ.nt o.dst&&Nat.ble nb ord.length&&Nat.ble nb O1.length&&ord.all (λ k=>Nat.blt k s.objs.length) then
   some ⟨putA o.dst o.guard.isSome g (E8 (BQ ord s.objs.length nb) r) s.env,Bg s.objs ord nb O1⟩ else none
 | none=>none
theorem xs {c:Code} {x m:Nat} (hX:XOK P Γ) {g:Bool} (hgt:g=true) {gs:List Bool} (hi:CJ g gs) (ord:List Nat) {f:FuncId} {ys:List AV} {O0 O1 raw0:List (Option Ob)} {nb:Nat} {r:AV} (hr:Ba P f ys O0 nb r O1) (hp0:raw0=O0)
  (hk:RF (cxX Γ (B2 c) x) (DG m c) [] (i+1) Q ((nxS Γ (B2 c) x (DG m c) i g ord nb r O1 s).getD s)) (hreg:FQ c=true:=by kernel_rfl) (hg:gY (DG m c) i s=some g:=by kernel_rfl) (hgs:CK (DG m c) i s=gs:=by kernel_rfl)
  (hc:Jw (DG m c) i s=some ((some f,((Jw (DG m c) i s).getD ((none,[]),[])).1.2),ord):=by kernel_rfl) (hxs:((Jw (DG m c) i s).getD ((none,[]),[])).1.2.map (C7 ord)=ys:=by kernel_rfl) (hO:BP s.objs ord=raw0:=by kernel_rfl)
  (hn:(nxS Γ (B2 c) x (DG m c) i g ord nb r O1 s).isSome=true:=by kernel_rfl):RF (cxX Γ (B2 c) x) (DG m c) [] i Q s:=by
 generalize ((Jw (DG m c) i s).getD ((none,[]),[])).1.2=zs at hc hxs
 have hn:=A7 (d:=s) hn
 generalize (nxS Γ (B2 c) x (DG m c) i g ord nb r O1 s).getD s=s' at hn hk
 subst hp0
 unfold Jw at hc
 unfold nxS at hn
 split at hn
 ·rename_i o ho
  rw [ho] at hc
  simp only [WR,Prod.mk.injEq] at hc
  obtain ⟨hc,hord⟩:=hc
  rw [hc] at hord
  simp only at hord
  obtain ⟨h0,hn⟩:=Am hn
  simp only [WI] at h0
  obtain ⟨⟨⟨⟨⟨⟨h1,h2⟩,h3⟩,h4⟩,h5⟩,h6⟩,h7⟩:=h0
  cases hn
  subst hord
  subst hxs
  subst hO
  have hix:=WO h2
  subst hix
  have hox:(B2 c)[i]? = some o:=by
   cases c with
   | region id ops d=>
    simp only [DG,Az,List.getElem?_take] at ho
    split at ho
    ·show ops[i]? = some o
     simpa using ho
    ·cases ho
   | _=>cases hreg
  have hgob:CF true (o.op.operands.toList.map (Ae s.env)):=by
   subst hgs
   unfold CK at hi
   rw [ho] at hi
   rw [← hgt]
   exact Eg hi
  refine ⟨?_⟩
  have hk:=hk.out
  unfold Ay at hk ⊢
  simp only [nav] at hk ⊢
  rw [BV ho]
  show As _ _ _ _ _ _
  unfold As
  have hga:AP (Az (DG m c)) s.env o.guard=some g:=by
   unfold gY at hg
   rw [ho] at hg
   exact hg
  rw [hga]
  have h4:AZ (cxX Γ (B2 c) i).nt o.dst=true:=h4
  simp only [h4,Wy,cond_false]
  refine ⟨λ _=>.inr (.inr ⟨by simpa using h1,.inl ⟨_,⟨hox,_,_,rfl,λ env he=>?_⟩,hk⟩⟩),λ h=>by rw [hgt] at h;cases h⟩
  rw [hX.ext]
  have hgob':CF true (o.op.operands.toList.map (Ae env)):=by
   rw [List.map_congr_left he];exact hgob
  have hc':C1 (λ y=>unG (Ae env y)) o.op=(some f,zs):=by
   rw [Jv (ev':=λ y=>unG (Ae s.env y)) λ y hy=>by rw [he y hy]]
   exact hc
  have hnd:ndB o.op=true:=by
   cases hop:o.op with
   | defer d=>rw [hop] at hc;cases hc
   | _=>rfl
  exact Nn (st:=⟨env,s.objs⟩) ((O3 (st:=⟨env,s.objs⟩) hgob' hc' hr (WV h5) (WV h6) λ k hk=>by
   exact WV (Wv.1 h7 k hk)).ok hnd)
 ·cases hn
theorem aq {js:List Code} (hk:WP Γ C (p++[1]) Q ⟨s.env,(Nl s.objs 1).getD []⟩) (h1:lpJ s.objs 0=some (js,0):=by kernel_rfl) (h2:(Nl s.objs 1).isSome=true:=by kernel_rfl):PQ (Ts Γ (nav (p++[1]) C) nk Q) .normal s:=⟨⟨s,_,js,.refl s,h1,A7 (d:=[]) h2,hk.out⟩⟩
theorem rq {js:List Code} {j:Nat} {O1:List (Option Ob)} {e:Ex} (sh:Au nk s s') (h:exJ js e j:=by first|exact trivial|exact rfl) (h1:lpJ s'.objs 0=some (js,1):=by kernel_rfl) (h2:Nl s'.objs j=some O1:=by kernel_rfl):PQ (Tt nk js j O1) e s:=⟨⟨h,s',sh,h1,h2⟩⟩
def U7 (objs:List (Option Ob)):Option (Hg×List Nat×List AV×Nat):=match obA objs 0 with
 | some (.lp d ts vs j)=>some (d,ts,vs,j)
 | _=>none
theorem fk (n:Nat) (ps:List Nat) (js:List Code) {ts:List Nat} {vs args:List AV} {nb j:Nat} {O0 O1:List (Option Ob)} (s:St) (hfol:P.follows .mixedOrders=true) (hΓ:CG P Γ) (h:WP Γ C (p++[0]) (Ts Γ (nav (p++[1]) C) nb (Tt nb js j O1)) s)
  (h0:U7 O0=some (lpd C p n ps js,ts,vs,0):=by kernel_rfl) (hlen:Nat.beq args.length ps.length=true:=by kernel_rfl) (hps:(ps.all λ q=>Nat.blt q n)=true:=by kernel_rfl) (hnb:Nat.ble 1 nb=true:=by kernel_rfl) (hnt:Γ.nt=⟨n,[],nb,Γ.nt.qf⟩:=by kernel_rfl) (hrd:Γ.rd=true:=by kernel_rfl)
  (hs:(⟨Tu ps args (ts.zip vs),O0⟩:St)=s:=by kernel_rfl):Ma P args O0 nb j O1:=by
 have ho:obA O0 0=some (.lp (lpd C p n ps js) ts vs 0):=by
  unfold U7 at h0
  split at h0
  ·rename_i he;cases h0;exact he
  ·cases h0
 exact Qz (d:=lpd C p n ps js) hfol hΓ hrd ho (WO hlen) hps hnb hnt (by
  show wpA Γ (nav (p++[0]) C) _ _
  rw [← hs] at h
  exact h.out)
end Go.AI
end
section
namespace Go.AI
variable {P:Program} {F F':Nat->Option Obj} {ρ ρ':Nat->Option Loc} {N:Nat->Prop} {H0 F0:Nat->Option Obj} {O objs:List (Option Ob)} {w:World} {w0:W0} {nt:Slt} {o:Oper} {st:St}
theorem Mb (es:Array MapEntry):leftOf es #[]=es:=by
 unfold leftOf
 exact Array.filter_eq_self.2 λ x _=>by simp
theorem O4 {Γ:Nat->Ty} (hΓ:Ez P Γ) {t:TypeId} {x:Operand} {k:Nat} {ks:List TK} {ka va ka' va':Bool} {vz:List D} {ents:List (List D×List D)} (hop:o.op=.range t x) (hok:(Γ t).ok=true) (hkind:(Γ t).kind=.map ks ka' va' vz) (hx:Ae st.env x=.mp k) (ho:obA st.objs k=some (.map ka va ents)) :
  Js P nt o true st ⟨putA o.dst false true (.ptr st.objs.length 0) st.env,st.objs.set k none++[some (.iter ka va none ents)]⟩:=by
 intro N H0 F0 w0 a w _ hI hdst K Qw hK
 obtain ⟨F,ρ,hS,hSl,hn,hdf⟩:=hI
 obtain ⟨d,hd,_,hkd⟩:=(hΓ t hok).desc
 rw [hkind] at hkd
 obtain ⟨kt,et,i,z,rfl,_⟩:=hkd
 have hxr:=Ap hSl x
 rw [hx] at hxr
 generalize hxv:a.eval x=xv at hxr
 cases hxr with
 | mp _ L hL=>
  obtain ⟨⟨es,clock,g1,gb,g2,g3⟩,gN,gF⟩:=hS.obj k L _ hL ho
  have hS1:=hS.freeze [k] (λ j hj=>by rw [List.mem_singleton.1 hj];exact ⟨_,ho⟩)
  have hFle:=CH hS [k]
  have hFb:D4 F ρ w.heap [k] L.b=some (.map es clock):=by rw [FF (List.mem_singleton_self k) hL];exact g1
  generalize D4 F ρ w.heap [k]=F1 at hS1 hFle hFb
  have hrm:rmA st.objs [k]=st.objs.set k none:=rfl
  rw [hrm] at hS1
  have hS2:=hS1.grow [some (Ob.iter ka va none ents)]
  have hlen:(st.objs.set k none).length=st.objs.length:=by simp
  have hfresh:ρ st.objs.length=none:=by
   cases hr:ρ st.objs.length with
   | none=>rfl
   | some M=>have:=hS.dom _ M hr;omega
  have hob:obA (st.objs.set k none++[some (Ob.iter ka va none ents)]) st.objs.length=some (.iter ka va none ents):=by
   rw [Al,if_neg (by omega),hlen,Nat.sub_self];rfl
  have hS3:=hS2.push (L:=⟨w.heap.size,0,0⟩) (x:=.mapIter (some L.b) clock #[] clock) hfresh hob rfl (by
   refine ⟨rfl,L.b,es,clock,clock,#[],clock,hFb,by simp,gb.1,Wz _,Wz _,gb.2,by rw [Mb];exact g2,λ i p q hp hq=>?_,λ p hp=>by cases hp⟩
   rw [Mb] at hq
   exact ⟨(g3 i p q hp hq).1.mono hFle,(g3 i p q hp hq).2.mono hFle⟩) rfl
  have hr:(execOp a.eval o).run P w=.ok (.value (.pointer (some ⟨w.heap.size,0,none⟩))) (w.alloc (.mapIter (some L.b) clock #[] clock)):=by
   simp only [execOp,hop,hxv,run_range_map w t kt et L.b es clock hd g1,Ws,Wq,Wt]
  unfold Oper.wp
  rw [hr,Oper.upon_value]
  have hle:RLe ρ (upR ρ st.objs.length ⟨w.heap.size,0,0⟩):=BI hfresh
  refine hK _ _ ⟨F1,_,hS3,(hSl.mono hFle hle).putA hn hdst ?_,hn.put hdst,by rw [AC];exact ⟨hdf.1.mono hFle,hdf.2.1.trans ⟨rfl,rfl,by simp,rfl,Wz _⟩,hdf.2.2.mono hle⟩⟩
  exact .ptr _ 0 ⟨w.heap.size,0,0⟩ (An _ _ _)
def VT (o:Oper) (k:Nat) (ka va:Bool) (left:List (List D×List D)) (st:St) (st':St):Prop:=
 (left=[]/\st'=⟨putA o.dst false true (.tup [.d (.bool false)]) st.env,st.objs⟩) \/
 ∃ l1 e l2,left=l1++e::l2/\st'=⟨putA o.dst false true (.tup [.d (.bool true),.top,.top]) st.env,st.objs.set k (some (.iter ka va (some e) (l1++l2)))⟩
theorem Mc {es:Array MapEntry} {seen:Array Nat} {e:MapEntry} (hn:(es.toList.map (·.born)).Nodup) (he:e∈(leftOf es seen).toList):∃ l1 l2,(leftOf es seen).toList=l1++e::l2/\(leftOf es (seen.push e.born)).toList=l1++l2:=by
 have h1:(leftOf es (seen.push e.born)).toList=(leftOf es seen).toList.filter λ x=>!(x.born==e.born):=by
  unfold leftOf
  simp only [Array.toList_filter,List.filter_filter]
  refine List.filter_congr λ x _=>?_
  rw [contains_push]
  cases seen.contains x.born<;>cases (x.born==e.born)<;>rfl
 rw [h1]
 have hsub:((leftOf es seen).toList.map (·.born)).Nodup:=by
  have:(leftOf es seen).toList.Sublist es.toList:=by unfold leftOf;rw [Array.toList_filter];exact List.filter_sublist
  exact List.Nodup.sublist (this.map _) hn
 generalize (leftOf es seen).toList=l at he hsub
 clear h1 hn
 induction l with
 | nil=>cases he
 | cons x l ih=>
  rw [WG,List.nodup_cons] at hsub
  rcases List.mem_cons.1 he with rfl|he
  ·refine ⟨[],l,rfl,?_⟩
   simp only [List.filter_cons,beq_self_eq_true,Wy,WS,if_false,List.nil_append]
   refine List.filter_eq_self.2 λ y hy=>?_
   have:y.born≠e.born:=λ h=>hsub.1 (by rw [← h];exact List.mem_map_of_mem hy)
   simp [this]
  ·obtain ⟨l1,l2,q1,q2⟩:=ih he hsub.2
   have hne:x.born≠e.born:=λ h=>hsub.1 (by rw [h];exact List.mem_map_of_mem he)
   exact ⟨x::l1,l2,by rw [q1];rfl,by rw [List.filter_cons];simp [hne,q2]⟩
theorem QC {x:Operand} {k:Nat} {ka va:Bool} {cur:Option (List D×List D)} {left:List (List D×List D)} (hop:o.op=.next x false) (hx:Ae st.env x=.ptr k 0) (ho:obA st.objs k=some (.iter ka va cur left)) :
  F6 P nt o st (VT o k ka va left st):=by
 intro N H0 F0 w0 a w hI hdst r n K Qw _ hK
 obtain ⟨F,ρ,hS,hSl,hn,hdf⟩:=hI
 have hxr:=Ap hSl x
 rw [hx] at hxr
 generalize hxv:a.eval x=xv at hxr
 cases hxr with
 | ptr _ _ L hL=>
  obtain ⟨⟨b0,bm,es,clock,since,seen,c0,h1,h2,h3,h4,h4',h5,h6,h7,h8⟩,gN,gF⟩:=hS.obj k L _ hL ho
  have hbm:w.heap[bm]? = some (.map es clock):=hS.frz bm _ h1
  have hpt:(⟨L.b,L.base+0,none⟩:Addr)=⟨L.b,0,none⟩:=by rw [b0]
  refine Cv (by rw [hop];intro c e;cases e) ?_
  unfold Oper.wp
  rcases run_next_at (P:=P) w o.type L.b bm since c0 seen es clock h2 hbm h3 h4 with ⟨he,hr⟩|⟨e,he,w1,hw1,hr⟩
  ·have hx:(execOp a.eval o).run P w=.ok (.value (.tuple #[.bool false])) w:=by
    simp only [execOp,hop,hxv,hpt,hr,Ws,Wq,Wt]
   rw [hx,Oper.upon_value]
   have hl:left=[]:=List.length_eq_zero_iff.1 (by rw [← h6];exact he)
   refine hK _ _ _ (.inl ⟨hl,rfl⟩) ⟨F,ρ,hS,hSl.putA hn hdst ?_,hn.put hdst,by rw [AC];exact hdf⟩
   exact .tup _ _ rfl λ j a u ha hu=>by
    match j with
    | 0=>simp at ha hu;subst ha;subst hu;exact .mkBool _
    | j+1=>simp at ha
  ·have hx:(execOp a.eval o).run P w=.ok (.value (.tuple #[.bool true,e.key,e.val])) (ChangeMaps.setBlock w1 L.b (.mapIter (some bm) since (seen.push e.born) clock)):=by
    simp only [execOp,hop,hxv,hpt,hr,Ws,Wq,Wt]
   rw [hx,Oper.upon_value]
   obtain ⟨m1,m2,e1,e2⟩:=Mc h5 he
   have hlen:left.length=m1.length+(m2.length+1):=by rw [← h6,← Array.length_toList,e1];simp
   obtain ⟨l1,p,l2,hsp,hl1,hl2⟩:∃ l1 p l2,left=l1++p::l2/\l1.length=m1.length/\l2.length=m2.length:=by
    refine ⟨left.take m1.length,left[m1.length],left.drop (m1.length+1),?_,by simp;omega,by simp;omega⟩
    rw [← List.drop_eq_getElem_cons (by omega),List.take_append_drop]
   have hheap:(ChangeMaps.setBlock w1 L.b (.mapIter (some bm) since (seen.push e.born) clock)).heap=w.heap.setIfInBounds L.b (.mapIter (some bm) since (seen.push e.born) clock):=by
    rcases hw1 with rfl|rfl<;>rfl
   have hmu:Mu w (ChangeMaps.setBlock w1 L.b (.mapIter (some bm) since (seen.push e.born) clock)):=by
    rcases hw1 with rfl|rfl
    ·exact ⟨rfl,rfl,by rw [hheap];simp,rfl,Wz _⟩
    ·exact ⟨rfl,rfl,by rw [hheap];simp,rfl,Nat.le_succ _⟩
   have hei:=mem_left he
   have hmid:∀ (i:Nat) (q:List D×List D),(l1++p::l2)[i]? = some q->∀ u:MapEntry,(m1++e::m2)[i]? = some u->KV F ka q.1 u.key/\KV F va q.2 u.val:=λ i q hq u hu=>by
    rw [← hsp] at hq
    rw [← e1] at hu
    exact h7 i q u hq (by simpa using hu)
   have hpe:KV F ka p.1 e.key/\KV F va p.2 e.val:=by
    refine hmid l1.length p (by simp) e (by rw [hl1];simp)
   have hrep:∀ h':Array Obj,h'[L.b]? = some (.mapIter (some bm) since (seen.push e.born) clock)->AQ F ρ h' L (.iter ka va (some p) (l1++l2)):=λ h' hh=>by
    refine ⟨b0,bm,es,clock,since,seen.push e.born,clock,h1,hh,h3,h4',h4',h5,?_,λ i q u hq hu=>?_,λ q hq=>?_⟩
    ·rw [← Array.length_toList,e2];simp;omega
    ·have hu:(m1++m2)[i]? = some u:=by rw [← e2];simpa using hu
     by_cases hi:i<l1.length
     ·rw [WQ hi] at hq
      rw [WQ (by omega)] at hu
      exact hmid i q (by rw [WQ hi];exact hq) u (by rw [WQ (by omega)];exact hu)
     ·rw [WW (by omega)] at hq
      rw [WW (by omega)] at hu
      refine hmid (i+1) q ?_ u ?_
      ·rw [WW (by omega),show i+1-l1.length=(i-l1.length)+1 by omega,List.getElem?_cons_succ];exact hq
      ·rw [WW (by omega),show i+1-m1.length=(i-m1.length)+1 by omega,List.getElem?_cons_succ];exact hu
    ·cases hq
     exact ⟨e,seen,hei.1,rfl,rfl,hpe.1,hpe.2⟩
   have hlt:=hS.loc k L hL
   have hS1:=hS.rewrite (k':=k) (L':=L) (x:=.mapIter (some bm) since (seen.push e.born) clock) (O':=st.objs.set k (some (.iter ka va (some p) (l1++l2)))) hL ho (by rw [A0 hL];exact RLe.refl _) rfl (λ j ob' hj hob'=>by
    rw [AU,if_neg (λ hh=>hj hh.1)] at hob';exact ⟨hob',hj⟩) (by simp) (by simpa using Aq ho) (λ ob' hob'=>by
    rw [AU,if_pos ⟨rfl,Aq ho⟩] at hob'
    cases hob'
    rw [A0 hL]
    exact hrep _ (by rw [Br,if_pos ⟨rfl,hlt⟩])) (λ ob' hob'=>by
    rw [AU,if_pos ⟨rfl,Aq ho⟩] at hob'
    cases hob';rfl)
   rw [A0 hL] at hS1
   refine hK _ _ _ (.inr ⟨l1,p,l2,hsp,rfl⟩) ⟨F,ρ,by rw [hheap];exact hS1,hSl.putA hn hdst ?_,hn.put hdst,by rw [AC];exact ⟨hdf.1,hdf.2.1.trans hmu,hdf.2.2⟩⟩
   exact .tup _ _ rfl λ j a u ha hu=>by
    match j with
    | 0=>simp at ha hu;subst ha;subst hu;exact .mkBool _
    | 1=>simp at ha;subst ha;exact .top _
    | 2=>simp at ha;subst ha;exact .top _
    | j+3=>simp at ha
theorem O5 {x:Operand} {k:Nat} {ka va:Bool} {p:List D×List D} {left:List (List D×List D)} (hop:o.op=.entry x) (hx:Ae st.env x=.ptr k 0) (ho:obA st.objs k=some (.iter ka va (some p) left)) :
  Js P nt o true st ⟨putA o.dst false true (.tup [kvV ka p.1,kvV va p.2]) st.env,st.objs⟩:=by
 intro N H0 F0 w0 a w _ hI hdst K Qw hK
 obtain ⟨F,ρ,hS,hSl,hn,hdf⟩:=hI
 have hxr:=Ap hSl x
 rw [hx] at hxr
 generalize hxv:a.eval x=xv at hxr
 cases hxr with
 | ptr _ _ L hL=>
  obtain ⟨⟨b0,bm,es,clock,since,seen,c0,h1,h2,h3,h4,h4',h5,h6,h7,h8⟩,gN,gF⟩:=hS.obj k L _ hL ho
  obtain ⟨e,s',q1,rfl,rfl,q4,q5⟩:=h8 p rfl
  have hbm:w.heap[bm]? = some (.map es c0):=hS.frz bm _ h1
  have hpt:(⟨L.b,L.base+0,none⟩:Addr)=⟨L.b,0,none⟩:=by rw [b0]
  have hx:(execOp a.eval o).run P w=.ok (.value (.tuple #[e.key,e.val])) w:=by
   simp only [execOp,hop,hxv,hpt,run_entry_at w L.b bm since s' es c0 e h2 hbm q1 h5,Ws,Wq,Wt]
  unfold Oper.wp
  rw [hx,Oper.upon_value]
  refine hK _ _ ⟨F,ρ,hS,hSl.putA hn hdst ?_,hn.put hdst,by rw [AC];exact hdf⟩
  exact .tup _ _ rfl λ j a u ha hu=>by
   match j with
   | 0=>simp at ha hu;subst ha;subst hu;exact q4.val
   | 1=>simp at ha hu;subst ha;subst hu;exact q5.val
   | j+2=>simp at ha
def Tv (o:Oper) (xs:List AV) (nb:Nat) (R:AV->List (Option Ob)->Prop) (st:St) (st':St):Prop:=
 ∃ r O1,R r O1/\st'=⟨putA o.dst false true (E8 (BQ (Ah st.objs xs) st.objs.length nb) r) st.env,Bg st.objs (Ah st.objs xs) nb O1⟩
theorem O6 {f:FuncId} {xs:List AV} {nb:Nat} {R:AV->List (Option Ob)->Prop} (hgob:CF true (o.op.operands.toList.map (Ae st.env))) (hc:C1 (λ y=>unG (Ae st.env y)) o.op=(some f,xs))
  (hcall:BG P f (xs.map (C7 (Ah st.objs xs))) (BP st.objs (Ah st.objs xs)) nb R) (hnb:nb<=(Ah st.objs xs).length) (hnb1:∀ r O1,R r O1->nb<=O1.length) (hord:∀ k∈Ah st.objs xs,k<st.objs.length) :
  F6 P nt o st (Tv o xs nb R st):=by
 intro N H0 F0 w0 a w hI hdst rr n K Qw _ hK
 obtain ⟨F,ρ,hS,hSl,hn,hdf⟩:=hI
 have hk:∀ r O1,R r O1->∀ v w' F' ρ'',FLe F F'->RLe ρ ρ''->Sim N H0 F0 F' ρ'' (Bg st.objs (Ah st.objs xs) nb O1) w'.heap->Ad F' ρ'' (E8 (BQ (Ah st.objs xs) st.objs.length nb) r) v->Mu w w'->K (a.put o.dst v) w':=
  λ r O1 hR v w' F' ρ'' hF hρ hS' hv hmu=>hK _ _ _ ⟨r,O1,hR,rfl⟩ ⟨F',ρ'',hS',(hSl.mono hF hρ).putA hn hdst hv,hn.put hdst,by rw [AC];exact ⟨hdf.1.mono hF,hdf.2.1.trans hmu,hdf.2.2.mono hρ⟩⟩
 have hev:∀ y∈o.op.operands.toList,Ad F ρ (unG (Ae st.env y)) (a.eval y):=λ y hy=>AT rfl _ hgob _ (List.mem_map_of_mem hy) _ (Ap hSl y)
 have hnd:∀ c,o.op≠.defer c:=λ c e=>by rw [e] at hc;cases hc
 unfold C1 at hc
 split at hc
 ·rename_i f' args ts hop
  cases hc
  refine Cv hnd (Hv (vs:=args.map a.eval) (λ fn c hf hb hnm=>?_) hS (Db (ev:=λ y=>unG (Ae st.env y)) λ y hy=>hev y (by rw [hop];simp [Op.operands,Call.operands];exact .inr (by simpa using hy))) hcall hnb hnb1 hord hk)
  simp only [execOp,hop,resolve,Act.eval,Deferred.ofValue,Ws,Wt,Wq,invoke,callFunc,run_program,hf,hnm,hb,WS,if_false,Option.isNone_some,Array.empty_append,Array.append_empty]
 ·rename_i x args ts _ hop
  split at hc
  ·rename_i f' l hx
   have hx:unG (Ae st.env x)=.clo f' l:=hx
   cases hc
   have hxr:=hev x (by rw [hop];simp [Op.operands,Call.operands])
   rw [hx] at hxr
   generalize hxv:a.eval x=xv at hxr
   cases hxr with
   | clo _ _ vs hl hr=>
    have hcr0:=Db (args:=args) (a:=a) (ev:=λ y=>unG (Ae st.env y)) (λ y hy=>hev y (by rw [hop];simp [Op.operands,Call.operands];exact .inr (by simpa using hy)))
    refine Cv hnd (Hv (vs:=args.map a.eval++vs) (λ fn c hf hb hnm=>?_) hS ⟨by simp [hl],λ i y v hy hv=>?_⟩ hcall hnb hnb1 hord hk)
    ·simp only [execOp,hop,resolve,hxv,Deferred.ofValue,Ws,Wt,Wq,invoke,callFunc,run_program,hf,hnm,hb,WS,if_false,Option.isNone_some,Array.empty_append]
    ·rw [Array.toList_append] at hv
     have hl0:=hcr0.1
     by_cases hi:i<(args.toList.map (λ y=>unG (Ae st.env y))).length
     ·rw [WQ hi] at hy
      rw [WQ (by omega)] at hv
      exact hcr0.2 i y v hy hv
     ·rw [WW (by omega)] at hy
      rw [WW (by omega)] at hv
      rw [← hl0] at hv
      exact hr _ y v hy (by simpa using hv)
  ·cases hc
 ·cases hc
end Go.AI
end
section
namespace Go.AI
variable {s:St} {nk:Nat} {α β:Type} {enc:β->List D}
theorem QE {P:Program} {Γ:Nat->Ty} {nt:Slt} {o:Oper} {st:St} (hΓ:Ez P Γ) {s t:TypeId} {x:Operand} {eb:Nat} {es:List (List D)} {ob:Prop} (hop:o.op=.convert s t x) (hs:(Γ s).ok=true) (ht:(Γ t).ok=true) (hks:(Γ s).kind=.slice 1 eb [.int .u8 0]) (hkt:(Γ t).kind=.string)
  (hgob:CF true (o.op.operands.toList.map (Ae st.env))) (hel:Dh st.objs (unG (Ae st.env x))=some (es,ob)) (hob:ob) (hby:∀ e∈es,H5 e):Js P nt o true st ⟨putA o.dst false true (.d (.str (es.map FZ))) st.env,st.objs⟩:=by
 intro N H0 F0 w0 a w _ hI hdst K Qw hK
 obtain ⟨F,ρ,hS,hSl,hn,hdf⟩:=hI
 obtain ⟨d,hd,_,hk⟩:=(hΓ s hs).desc
 obtain ⟨d',hd',_,hk'⟩:=(hΓ t ht).desc
 rw [hks] at hk;rw [hkt] at hk'
 obtain ⟨elem,i,z,rfl,_,_,_,_,_,_,_,hu⟩:=hk
 cases hk'
 have hxr:Ad F ρ (unG (Ae st.env x)) (a.eval x):=AT rfl _ hgob _ (List.mem_map_of_mem (by rw [hop];simp [Op.operands])) _ (Ap hSl x)
 obtain ⟨v,hr,hv⟩:=SH (P:=P) (objs:=st.objs) hS (λ _ _ h=>h) hd (hu rfl) hd' hel hob hby hxr
 have hr:(execOp a.eval o).run P w=.ok (.value v) w:=by
  simp only [execOp,hop,Ws,hr,Wq,Wt]
 unfold Oper.wp
 rw [hr,Oper.upon_value]
 exact hK _ _ ⟨F,ρ,hS,hSl.putA hn hdst hv,hn.put hdst,by rw [AC];exact hdf⟩
def nxV (Γ:Cx) (c:Code) (i:Nat) (g:Bool) (z:List UInt8) (s:St):Option St:=
 match (Az c)[i]? with
 | some o=>bif Sn Γ c o then some ⟨putA o.dst o.guard.isSome g (.d (.str z)) s.env,s.objs⟩ else none
 | none=>none
def cvA (Γ:Cx) (c:Code) (i:Nat) (s:St):Option (AV×Nat):=
 match (Az c)[i]? with
 | some o=>match o.op with
  | .convert a b x=>match (Γ.ty a).kind,(Γ.ty b).kind with
   | .slice 1 eb [.int .u8 0],.string=>bif (Γ.ty a).ok&&(Γ.ty b).ok then some (unG (Ae s.env x),eb) else none
   | _,_=>none
  | _=>none
 | none=>none
theorem xv {Γ:Cx} {P:Program} {C:Code} {p:List Nat} {Q:Ex->St->Prop} {i:Nat} (hX:XOK P Γ) {g:Bool} (hgt:g=true) {gs:List Bool} (hi:CJ g gs) (k:Nat) {bs:List Int} {z:List UInt8} (hz:UT bs=some z) (hk:RF Γ C p (i+1) Q ((nxV Γ (nav p C) i g z s).getD s)) (hg:gY (nav p C) i s=some g:=by kernel_rfl) (hgs:CK (nav p C) i s=gs:=by kernel_rfl)
  (hc:(cvA Γ (nav p C) i s).map Prod.fst=some (.osl k 1 0 bs.length):=by kernel_rfl) (ho:Qp s k=some (1,bs.map λ n=>[D.int .u8 n]):=by kernel_rfl) (hn:(nxV Γ (nav p C) i g z s).isSome=true:=by kernel_rfl):RF Γ C p i Q s:=by
 have hn:=A7 (d:=s) hn
 generalize (nxV Γ (nav p C) i g z s).getD s=s' at hn hk
 obtain ⟨⟨u,eb⟩,hc,hu⟩:=WK.1 hc
 cases hu
 unfold cvA at hc
 unfold nxV at hn
 split at hn
 ·rename_i o hoo
  rw [hoo] at hc
  simp only at hc
  obtain ⟨h0,hn⟩:=Am hn
  cases hn
  split at hc
  ·rename_i a b x hop
   split at hc
   ·rename_i eb' hka hkb
    obtain ⟨h1,hc⟩:=Am hc
    simp only [WI] at h1
    simp only [WR,Prod.mk.injEq] at hc
    obtain ⟨hcx,rfl⟩:=hc
    have hgob:CF true (o.op.operands.toList.map (Ae s.env)):=by
     subst hgs
     unfold CK at hi
     rw [hoo] at hi
     rw [← hgt]
     exact Eg hi
    unfold UT at hz
    split at hz
    ·rename_i hall
     cases hz
     simp only [Wv,WI,decide_eq_true_eq] at hall
     have hby:∀ e∈bs.map λ n=>[D.int .u8 n],H5 e:=λ e he=>by
      simp only [WC] at he
      obtain ⟨n,hn,rfl⟩:=he
      obtain ⟨q1,q2⟩:=hall n hn
      refine ⟨UInt8.ofNat n.toNat,?_⟩
      have:(UInt8.ofNat n.toNat).toNat=n.toNat:=by simp;omega
      rw [this]
      congr 2
      omega
     have hmap:(bs.map λ n=>[D.int .u8 n]).map FZ=bs.map λ n=>UInt8.ofNat n.toNat:=by
      rw [List.map_map];rfl
     have hel:Dh s.objs (unG (Ae s.env x))=some (bs.map λ n=>[D.int .u8 n],0+bs.length<=(bs.map λ n=>[D.int .u8 n]).length):=by
      rw [hcx]
      simp only [Dh,Qq ho,Nat.beq_refl,cond_true]
      rw [Gz]
     have:=QE (P:=P) (Γ:=Γ.ty) (nt:=Γ.nt) (o:=o) (st:=s) hX.ty hop h1.1 h1.2 hka hkb hgob hel (by simp) hby
     rw [hmap] at this
     exact J7 hX hoo h0 hg hgt (Nn (this.ok (by rw [hop];rfl))) hk
    ·cases hz
   ·cases hc
  ·cases hc
 ·cases hn
end Go.AI
end
section
namespace Go.AI
variable {Γ:Cx} {C:Code} {p:List Nat} {Q:Ex->St->Prop} {s s':St} {K:St->Prop} {i:Nat} {nk:Nat}
variable {α β ζ:Type}
def xX {σ:Type} (nk k:Nat) (st:σ->St):σ->Ex->St->Prop:=λ y e s=>e=Ex.exit k/\Au nk s (st y)
def xR {σ:Type} (ty:Nat->Ty) (fn:Func) (r:σ->AV):σ->Ex->St->Prop:=λ y e s=>e=Ex.ret/\RA ty fn.results.toList (r y) s
def xL {σ:Type} (nk:Nat) (ty:Nat->Ty) (fn:Func) (r:σ->AV) (O:σ->List (Option Ob)):σ->Ex->St->Prop:=λ y e s=>e=Ex.ret/\RL nk ty fn.results.toList (r y) (O y) s
def xS {σ τ:Type} (a:σ->Ex->St->Prop) (b:τ->Ex->St->Prop):σ⊕τ->Ex->St->Prop
 | .inl y=>a y
 | .inr y=>b y
variable {σ ρ τ:Type} {st:σ->St} {E:ρ->Ex->St->Prop}
theorem xo {r:ρ} {k nk':Nat} {st':τ->St} {y:τ} (hE:E r=xX nk' k st' y) (h:Au nk' s (st' y)):PQ (A2 nk st E (.inr r)) (.exit k) s:=oe (by rw [hE];exact ⟨rfl,h⟩)
theorem ro {r:ρ} {ty:Nat->Ty} {fn:Func} {f:τ->AV} {y:τ} (hE:E r=xR ty fn f y) (h:RA ty fn.results.toList (f y) s):PQ (A2 nk st E (.inr r)) .ret s:=or (by rw [hE];exact ⟨rfl,h⟩)
theorem lo {r:ρ} {nk':Nat} {ty:Nat->Ty} {fn:Func} {f:τ->AV} {O:τ->List (Option Ob)} {y:τ} (hE:E r=xL nk' ty fn f O y) (h:RL nk' ty fn.results.toList (f y) (O y) s):PQ (A2 nk st E (.inr r)) .ret s:=or (by rw [hE];exact ⟨rfl,h⟩)
theorem lX {body:σ->Option (σ⊕ρ)} {n:Nat} {x:σ} {r:ρ} {k nk':Nat} {st':τ->St} {y:τ} (hb:∀ x z,body x=some z->WP Γ C (p++[0]) (A2 nk' st E z) (st x)) (hr:whl body n x=some r) (hs:Au nk' s (st x)) (hE:E r=xX nk' k st' y)
  (hk:∀ s,Au nk' s (st' y)->PQ Q (.exit k) s) (hn:Γ.nt.nk=nk':=by rfl) (h:IX (nav p C)=true:=by kernel_rfl):WP Γ C p Q s:=by
 subst hn
 exact lp st E hr hs hb (λ e s he=>by rw [hE] at he;obtain ⟨rfl,he⟩:=he;exact hk s he) h
theorem lR {body:σ->Option (σ⊕ρ)} {n:Nat} {x:σ} {r:ρ} {nk':Nat} {ty:Nat->Ty} {fn:Func} {f:τ->AV} {y:τ} (hb:∀ x z,body x=some z->WP Γ C (p++[0]) (A2 nk' st E z) (st x)) (hr:whl body n x=some r) (hs:Au nk' s (st x)) (hE:E r=xR ty fn f y)
  (hk:∀ s,RA ty fn.results.toList (f y) s->PQ Q .ret s) (hn:Γ.nt.nk=nk':=by rfl) (h:IX (nav p C)=true:=by kernel_rfl):WP Γ C p Q s:=by
 subst hn
 exact lp st E hr hs hb (λ e s he=>by rw [hE] at he;obtain ⟨rfl,he⟩:=he;exact hk s he) h
def g0 (c:Code) (i:Nat) (s:St):Bool:=(gAt c i s).getD false
theorem ge (n:Nat) (hk:RF Γ C p (i+n) Q ((gl Γ (nav p C) (g0 (nav p C) i s) n i s).getD ([],s)).2) (h1:(gl Γ (nav p C) (g0 (nav p C) i s) n i s).isSome=true:=by kernel_rfl) (h2:((gl Γ (nav p C) (g0 (nav p C) i s) n i s).getD ([],s)).1=List.replicate ((gl Γ (nav p C) (g0 (nav p C) i s) n i s).getD ([],s)).1.length (g0 (nav p C) i s):=by kernel_rfl):RF Γ C p i Q s:=gc n _ hk h1 h2
theorem sE {g:Bool} {v:AV} {obs:List Ob} {x:Option Eff} (ho:g=true->IZ s x v obs [] none) (hk:RF Γ C p (i+1) Q ((Gw Γ (nav p C) i g v obs s).getD s)) (hg:gAt (nav p C) i s=some g:=by kernel_rfl) (hx:IV Γ (nav p C) i s=x:=by kernel_rfl) (hgs:CK (nav p C) i s=List.replicate (CK (nav p C) i s).length g:=by kernel_rfl) (hn:(Gw Γ (nav p C) i g v obs s).isSome=true:=by kernel_rfl):RF Γ C p i Q s:=
 sG (gs:=CK (nav p C) i s) ho (J6 λ b hb=>by rw [hgs] at hb;exact List.eq_of_mem_replicate hb) hk hg hx rfl hn
theorem oi {a z:ζ} (h:some a=some z):a=z:=Option.some.inj h
theorem tr {s1 s2 s3:St} (h:Au nk s1 s2) (h':Au nk s2 s3):Au nk s1 s3:=Au.trans h h'
theorem sg (ts:List Nat) (h:gcA nk ts s=s':=by kernel_rfl):Au nk s s':=UZ ts h
theorem sn (t k sz:Nat) {n m:Nat} (e:n=m) (h:lkA s.env t=.osl k sz 0 n:=by kernel_rfl):Au nk s ⟨(t,.osl k sz 0 m)::s.env,s.objs⟩:=Ti t k sz 0 n m h e
attribute [irreducible] xL
end Go.AI
end
section
namespace Go.AI
variable {α ε σ ρ ζ ξ:Type}
open Classical in
noncomputable def dem (S:α->Prop) (k:α->Option ζ):Option ζ:=if h:∃ z,(∃ a,S a)/\∀ a,S a->k a=some z then some h.choose else none
theorem Tw {S:α->Prop} {k:α->Option ζ} {z:ζ} (h:dem S k=some z):∀ a,S a->k a=some z:=by
 unfold dem at h
 split at h
 ·rename_i hx
  cases h
  exact hx.choose_spec.2
 ·cases h
theorem Tx {S:α->Prop} {k:α->Option ζ} {z:ζ} (h0:∃ a,S a) (h:∀ a,S a->k a=some z):dem S k=some z:=by
 have hx:∃ z,(∃ a,S a)/\∀ a,S a->k a=some z:=⟨z,h0,h⟩
 unfold dem
 rw [dif_pos hx]
 obtain ⟨a,ha⟩:=h0
 have h1:=hx.choose_spec.2 a ha
 rw [h a ha] at h1
 exact h1.symm
open Classical in
noncomputable def O7 (S:α->Prop) (k:α->Option (ζ->Prop)):Option (ζ->Prop):=if ∀ a,S a->∃ Z,k a=some Z then some λ z=>∃ a Z,S a/\k a=some Z/\Z z else none
theorem KO {S:α->Prop} {k:α->Option (ζ->Prop)} {Z:ζ->Prop} (h:O7 S k=some Z):∀ a,S a->∃ Z',k a=some Z'/\∀ z,Z' z->Z z:=by
 unfold O7 at h
 split at h
 ·rename_i hx
  cases h
  intro a ha
  obtain ⟨Z',hz⟩:=hx a ha
  exact ⟨Z',hz,λ z h=>⟨a,Z',ha,hz,h⟩⟩
 ·cases h
theorem KP {S:α->Prop} {k:α->Option (ζ->Prop)} (h:∀ a,S a->∃ Z,k a=some Z):O7 S k=some λ z=>∃ a Z,S a/\k a=some Z/\Z z:=if_pos h
def Jx (x:ζ):ζ->Prop:=λ y=>y=x
def Dm (F:ε->σ->Option (σ⊕ρ)):List ε->σ->Option (σ⊕ρ)
 | [],x=>some (.inl x)
 | e::l,x=>match F e x with
  | none=>none
  | some (.inl y)=>Dm F l y
  | some (.inr r)=>some (.inr r)
theorem O8 {F:ε->σ->Option (σ⊕ρ)} {e:ε} {l:List ε} {x:σ} {z:σ⊕ρ} (h:Dm F (e::l) x=some z):∃ y,F e x=some y:=by
 unfold Dm at h
 split at h
 ·cases h
 ·rename_i y hy;exact ⟨_,hy⟩
 ·rename_i y hy;exact ⟨_,hy⟩
end Go.AI
end
