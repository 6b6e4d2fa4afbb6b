/- Part 2 of 7 of the proof. -/
import Derived.Test.YtnpikfdkjmebjaaLA
import Derived.RangeFuncRecord
import Derived.LoopNIn
import Derived.OrdersIn
import Derived.TacticsIn
import Derived.OwnWalkIn
import Derived.Scope
import Derived.StillTail
section
namespace Go.AI
variable {P:Program} {Γ:Nat->Ty} {F F':Nat->Option Obj} {ρ ρ':Nat->Option Loc} {N:Nat->Prop} {H0 F0:Nat->Option Obj} {O objs:List (Option Ob)} {w:World}
def noR:Nat->Option Loc:=λ _=>none
def AQ (P:Program) (f:FuncId) (args:List AV) (r:AV):Prop:=
 (∃ fn c,P.funcs[f]? = some fn/\fn.body=some c/\(fn.name == "runtime.NumGoroutine")=false) /\
 ∀ (F:Nat->Option Obj) (w:World) (vs:Array Value),CR F noR args vs.toList->(∀ b o,F b=some o->w.heap[b]?=some o) ->
  Calls P f vs w λ e w'=>∃ v F' ρ,e=.returned v/\Sim (λ b=>w.heap.size<=b) (λ b=>w.heap[b]?) F F' ρ ((BZ true 0 r).2.map some) w'.heap/\Ak F' ρ (BZ true 0 r).1 v/\Mu w w'
def shR (n len:Nat) (ρ ρ':Nat->Option Loc):Nat->Option Loc:=λ k=>if n<=k/\k<n+len then ρ' (k-n)else ρ k
theorem Pq {n len k:Nat} (h:¬(n<=k/\k<n+len)):shR n len ρ ρ' k=ρ k:=by unfold shR;rw[if_neg h]
theorem Xw {n len k:Nat} (h:k<len):shR n len ρ ρ' (k+n)=ρ' k:=by unfold shR;rw[if_pos (by omega)];congr 1;omega
theorem ZO (n:Nat):shR n 0 ρ ρ'=ρ:=by funext k;exact Pq (by omega)
theorem ZP {n k k' sz lo m:Nat} {v:Value} {ρ'':Nat->Option Loc} (hk:k'=k+n) (hρ:∀ k L,ρ' k=some L->ρ'' (k+n)=some L) (h:Ak F' ρ' (.osl k sz lo m) v):Ak F' ρ'' (.osl k' sz lo m) v:=by
 subst hk;cases h with
 | osl _ _ _ _ cap L hL hc hs hz=>exact .osl _ _ _ _ cap L (hρ _ _ hL) hc hs hz
 | osl0=>exact .osl0 _ _ _ _
theorem Jdc {n:Nat} {ρ'':Nat->Option Loc} (hρ:∀ k L,ρ' k=some L->ρ'' (k+n)=some L):∀ (l:List AV) (i:Nat),(Bn true (i+n) l).2=(Bn true i l).2/\(Bn true (i+n) l).1.length=(Bn true i l).1.length /\
  ∀ (j:Nat) a0 a v,(Bn true i l).1[j]?=some a0->(Bn true (i+n) l).1[j]?=some a->Ak F' ρ' a0 v->Ak F' ρ'' a v:=by
 intro l;induction l with
 | nil=>intro i;exact⟨rfl,rfl,λ j a0 a v h=>by simp[Bn]at h⟩
 | cons x l ih=>
  intro i;have key:∀ (y y':AV) (i':Nat),(∀ v,Ak F' ρ' y v->Ak F' ρ'' y' v)->∀ (j:Nat) a0 a v,(y::(Bn true i' l).1)[j]?=some a0->(y'::(Bn true (i'+n) l).1)[j]?=some a->Ak F' ρ' a0 v->Ak F' ρ'' a v:=by
   intro y y' i' hy j a0 a v h1 h2 hr;cases j with
   | zero=>simp at h1 h2;subst h1;subst h2;exact hy v hr
   | succ j=>exact(ih i').2.2 j a0 a v (by simpa using h1) (by simpa using h2) hr
  have hd:∀ x:D,∀ v,Ak F' ρ' (.d x) v->Ak F' ρ'' (.d x) v:=λ x v h=>by cases h with|d _ _ h=>exact .d _ _ h
  cases x with
  | own sz es=>
   obtain⟨h1,h2,h3⟩:=ih (i+1);have e1:i+n+1=i+1+n:=by omega
   refine⟨by simp only[Bn,cond_true,e1,h1],by simp only[Bn,cond_true,e1,List.length_cons,h2],?_⟩;simp only[Bn,cond_true,e1];exact key (.osl i sz 0 es.length) (.osl (i+n) sz 0 es.length) (i+1) λ v hv=>ZP rfl hρ hv
  | d x=>
   obtain⟨h1,h2,h3⟩:=ih i;exact⟨by simp only[Bn,h1],by simp only[Bn,List.length_cons,h2],by simp only[Bn];exact key _ _ i (hd x)⟩
  | _=>
   obtain⟨h1,h2,h3⟩:=ih i;exact⟨by simp only[Bn,h1],by simp only[Bn,List.length_cons,h2],by simp only[Bn];exact key _ _ i (λ v _=>.top v)⟩
theorem Xx {n:Nat} {ρ'':Nat->Option Loc} (hρ:∀ k L,ρ' k=some L->ρ'' (k+n)=some L) (x:AV) (i:Nat):(B6 true (i+n) x).2=(B6 true i x).2/\∀ v,Ak F' ρ' (B6 true i x).1 v->Ak F' ρ'' (B6 true (i+n) x).1 v:=by
 cases x with
 | own sz es=>
  refine⟨rfl,λ v hv=>?_⟩;simp only[B6,cond_true]at hv⊢;exact ZP rfl hρ hv
 | agg l=>
  obtain⟨h1,h2,h3⟩:=Jdc (F':=F') hρ l i;refine⟨h1,λ v hv=>?_⟩;simp only[B6]at hv⊢;cases hv with
  | agg _ vs hl hr=>
   refine .agg _ vs (by rw[h2];exact hl) λ j a v ha hv=>?_;have hj:j<(Bn true i l).1.length:=by rw[← h2];exact Af ha
   exact h3 j _ a v (JlZ hj) ha (hr j _ v (JlZ hj) hv)
 | d x=>exact⟨rfl,λ v hv=>by simp only[B6]at hv⊢;cases hv with|d _ _ h=>exact .d _ _ h⟩
 | _=>exact⟨rfl,λ v _=>.top v⟩
theorem Jdd {n:Nat} {ρ'':Nat->Option Loc} (hρ:∀ k L,ρ' k=some L->ρ'' (k+n)=some L):∀ (l:List AV) (i:Nat),(CY true (i+n) l).2=(CY true i l).2/\(CY true (i+n) l).1.length=(CY true i l).1.length /\
  ∀ (j:Nat) a0 a v,(CY true i l).1[j]?=some a0->(CY true (i+n) l).1[j]?=some a->Ak F' ρ' a0 v->Ak F' ρ'' a v:=by
 intro l;induction l with
 | nil=>intro i;exact⟨rfl,rfl,λ j a0 a v h=>by simp[CY]at h⟩
 | cons x l ih=>
  intro i;obtain⟨g1,g2⟩:=Xx (F':=F') hρ x i;obtain⟨h1,h2,h3⟩:=ih (i+(B6 true i x).2.length);have e1:i+n+(B6 true i x).2.length=i+(B6 true i x).2.length+n:=by omega
  refine⟨by simp only[CY,g1,e1,h1],by simp only[CY,g1,e1,List.length_cons,h2],?_⟩;intro j a0 a v ha0 ha hr;simp only[CY,g1,e1]at ha0 ha;cases j with
  | zero=>simp at ha0 ha;subst ha0;subst ha;exact g2 v hr
  | succ j=>exact h3 j a0 a v (by simpa using ha0) (by simpa using ha) hr
theorem Xy {n:Nat} {ρ'':Nat->Option Loc} (hρ:∀ k L,ρ' k=some L->ρ'' (k+n)=some L) (x:AV):(BZ true n x).2=(BZ true 0 x).2/\∀ v,Ak F' ρ' (BZ true 0 x).1 v->Ak F' ρ'' (BZ true n x).1 v:=by
 have hA:∀ x,(B6 true n x).2=(B6 true 0 x).2/\∀ v,Ak F' ρ' (B6 true 0 x).1 v->Ak F' ρ'' (B6 true n x).1 v:=λ x=>by
  have:=Xx (F':=F') hρ x 0;rwa[Jmd]at this
 cases x with
 | tup l=>
  obtain⟨h1,h2,h3⟩:=Jdd (F':=F') hρ l 0;rw[Jmd]at h1 h2 h3;refine⟨h1,λ v hv=>?_⟩;simp only[BZ]at hv⊢;cases hv with
  | tup _ vs hl hr=>
   refine .tup _ vs (by rw[h2];exact hl) λ j a v ha hv=>?_;have hj:j<(CY true 0 l).1.length:=by rw[← h2];exact Af ha
   exact h3 j _ a v (JlZ hj) ha (hr j _ v (JlZ hj) hv)
 | _=>exact hA _
theorem ZQ (l:List AV):∀ i,∀ ob∈(Bn true i l).2,∃ sz es,ob=.arr sz es:=by
 induction l with
 | nil=>intro i ob h;simp[Bn]at h
 | cons x l ih=>
  intro i ob h;cases x with
  | own sz es=>
   simp only[Bn,cond_true,List.mem_cons]at h;rcases h with h|h
   ·exact⟨sz,es,h⟩
   ·exact ih _ ob h
  | _=>exact ih i ob (by simpa [Bn]using h)
theorem UH (x:AV) (i:Nat):∀ ob∈(B6 true i x).2,∃ sz es,ob=.arr sz es:=by
 intro ob h;cases x with
 | own sz es=>simp[B6]at h;exact⟨sz,es,h⟩
 | agg l=>exact ZQ l i ob h
 | _=>simp[B6]at h
theorem ZR (l:List AV):∀ i,∀ ob∈(CY true i l).2,∃ sz es,ob=.arr sz es:=by
 induction l with
 | nil=>intro i ob h;simp[CY]at h
 | cons x l ih=>
  intro i ob h;simp only[CY,List.mem_append]at h;rcases h with h|h
  ·exact UH x i ob h
  ·exact ih _ ob h
theorem UI (x:AV) (i:Nat):∀ ob∈(BZ true i x).2,∃ sz es,ob=.arr sz es:=by
 cases x with
 | tup l=>exact ZR l i
 | _=>exact UH _ i
theorem Bv.arr_any {h:Array Obj} {L:Loc} {sz:Nat} {es:List (List D)} (H:Bv F ρ h L (.arr sz es)) (ρ':Nat->Option Loc):Bv F ρ' h L (.arr sz es):=H
theorem Dq {obs:List Ob} {k:Nat} {ob:Ob} (h:obA (obs.map some) k=some ob):obs[k]?=some ob:=by
 unfold obA at h;split at h
 ·rename_i o hh;cases h;simp only[Jl3,Jl2]at hh;obtain⟨x,hx,he⟩:=hh;cases he;exact hx
 ·cases h
theorem E9 {obs:List Ob} {k:Nat} {ob:Ob} (h:obs[k]?=some ob):obA (obs.map some) k=some ob:=by
 unfold obA;simp[h]
theorem Sim.join {h h':Array Obj} {Fc:Nat->Option Obj} {n:Nat} (hS:Sim N H0 F0 F ρ O h) {obs:List Ob} (harr:∀ ob∈obs,∃ sz es,ob=.arr sz es) (hS':Sim (λ b=>h.size<=b) (λ b=>h[b]?) Fc F' ρ' (obs.map some) h')
  (hfresh:∀ k,n<=k->k<n+obs.length->ρ k=none) (hO:∀ (i:Nat) ob,obs[i]?=some ob->obA O (n+i)=some ob) (hlen:n+obs.length<=O.length)
  {G:Nat->Option Obj} (hFG:FLe F G) (hold:∀ b o,G b=some o->b<h.size->F b=some o) (hfrz:∀ b o,G b=some o->h.size<=b->h'[b]?=some o)
  (hob:∀ k L ob,ρ' k=some L->obA (obs.map some) k=some ob->Bv G ρ' h' L ob/\G L.b=none) :
  Sim N H0 F0 G (shR n obs.length ρ ρ') O h':=by
 have hdom:∀ k L,shR n obs.length ρ ρ' k=some L->(¬(n<=k/\k<n+obs.length)/\ρ k=some L)\/((n<=k/\k<n+obs.length)/\ρ' (k-n)=some L):=by
  intro k L hk;unfold shR at hk;split at hk
  ·rename_i hl;exact .inr ⟨hl,hk⟩
  ·rename_i hl;exact .inl ⟨hl,hk⟩
 have hρ:RLe ρ (shR n obs.length ρ ρ'):=λ k L hk=>by
  rw[Pq]
  ·exact hk
  ·intro hh;rw[hfresh k hh.1 hh.2]at hk;cases hk
 have hobs:∀ k ob,n<=k->k<n+obs.length->obA O k=some ob->obA (obs.map some) (k-n)=some ob:=λ k ob h1 h2 ho=>by
  have hlt:k-n<obs.length:=by omega
  have:=hO (k-n) _ (JlZ hlt);rw[show n+(k-n)=k by omega,ho]at this;cases this;exact E9 (JlZ hlt)
 have hsz:h.size<=h'.size:=by
  rcases Nat.eq_zero_or_pos h.size with h0|h0
  ·omega
  ·have:=hS'.old (h.size-1) (by omega);rw[Jl4 (show h.size-1<h.size by omega)]at this;have:=Av this;omega
 refine { size:=λ b hb=>hS.size b (by omega),old:=λ b hb=>?_,f0:=hS.f0.trans hFG,fnew:=λ b o hb hN=>?_,frz:=λ b o hb=>?_,loc:=λ k L hk=>?_,dom:=λ k L hk=>?_,obj:=λ k L ob hk ho=>?_,sep:=λ k k' L L' ob ob' hk hk' ho ho' hne=>?_,inn:=?_ }
 ·rw[hS'.old b (by have:=hS.lt_size hb;omega)];exact hS.old b hb
 ·exact hS.fnew b o (hold b o hb (hS.lt_size hN)) hN
 ·by_cases hbl:b<h.size
  ·rw[hS'.old b (by omega)];exact hS.frz b o (hold b o hb hbl)
  ·exact hfrz b o hb (by omega)
 ·rcases hdom k L hk with⟨_,h1⟩|⟨_,h1⟩
  ·have:=hS.loc k L h1;omega
  ·exact hS'.loc _ L h1
 ·rcases hdom k L hk with⟨_,h1⟩|⟨h0,h1⟩
  ·exact hS.dom k L h1
  ·omega
 ·rcases hdom k L hk with⟨h0,h1⟩|⟨h0,h1⟩
  ·obtain⟨g1,g2,g3⟩:=hS.obj k L ob h1 ho;have hlt:=hS.loc k L h1;refine⟨g1.mono hFG hρ (hS'.old _ (by omega)),g2,?_⟩;cases hG':G L.b with
   | none=>rfl
   | some o=>rw[hold _ o hG' hlt]at g3;cases g3
  ·have ho1:=hobs k ob h0.1 h0.2 ho;obtain⟨_,g2,_⟩:=hS'.obj _ L ob h1 ho1;obtain⟨q1,q2⟩:=hob _ L ob h1 ho1;refine⟨?_,hS.size _ g2,q2⟩;obtain⟨sz,es,rfl⟩:=harr ob (Jl1 (Dq ho1));exact q1.arr_any _
 ·rcases hdom k L hk with⟨h0,h1⟩|⟨h0,h1⟩<;>rcases hdom k' L' hk' with⟨h0',h1'⟩|⟨h0',h1'⟩
  ·exact hS.sep k k' L L' ob ob' h1 h1' ho ho' hne
  ·have:=hS.loc k L h1;have:=(hS'.obj _ L' ob' h1' (hobs k' ob' h0'.1 h0'.2 ho')).2.1;omega
  ·have:=hS.loc k' L' h1';have:=(hS'.obj _ L ob h1 (hobs k ob h0.1 h0.2 ho)).2.1;omega
  ·exact hS'.sep _ _ L L' ob ob' h1 h1' (hobs k ob h0.1 h0.2 ho) (hobs k' ob' h0'.1 h0'.2 ho') (by omega)
 ·obtain⟨σ,hσ⟩:=hS.inn;refine⟨σ,λ k c M hM=>?_,λ k c M k' L ob hM hk' ho=>?_,hσ.sep,λ k L ob0 sz es hk ho hr0 i e j isz xs hi hj o1 v hb hv=>?_⟩
  ·obtain⟨q1,q2,q3⟩:=hσ.new k c M hM;refine⟨q1,Nat.lt_of_lt_of_le q2 hsz,?_⟩;cases hG':G M.b with
   | none=>rfl
   | some o=>rw[hold _ o hG' q2]at q3;cases q3
  ·rcases hdom k' L hk' with⟨_,h1⟩|⟨h0,h1⟩
   ·exact hσ.obj k c M k' L ob hM h1 ho
   ·have:=(hS'.obj _ L ob h1 (hobs k' ob h0.1 h0.2 ho)).2.1;have:=(hσ.new k c M hM).2.1;omega
  ·rcases hdom k L hk with⟨_,h1⟩|⟨h0,h1⟩
   ·rw[hS'.old _ (by have:=hS.loc k L h1;omega)]at hb;exact(hσ.rep k L ob0 sz es h1 ho hr0 i e j isz xs hi hj o1 v hb hv).mono hFG λ M hM=>hS'.old _ (by have:=(hσ.new _ _ _ hM).2.1;omega)
   ·obtain⟨sz',es',he⟩:=harr _ (Jl1 (Dq (hobs k _ h0.1 h0.2 ho)));subst he;cases hr0
theorem UJ {G:Nat->Option Obj} {h':Array Obj} {k sz:Nat} {es:List (List D)} {v:Value} (hr:Ak F' ρ' (.osl k sz 0 es.length) v) (hob:∀ L,ρ' k=some L->Bv F' ρ' h' L (.arr sz es)/\G L.b=h'[L.b]?)
  (hconv:∀ e∈es,∀ x∈e,∀ u,Bo F' x u->Bo G x u):Bo G (.sl es) v:=by
 generalize hm:es.length=m at hr;cases hr with
 | osl _ _ _ _ cap L hL hc hs hz=>
  obtain⟨⟨g1,g2,cs,t,fr,g3,g4,g5,g6⟩,hG⟩:=hob L hL;rw[g3]at hG;subst hm;have hv:∀ (i:Nat) (e:List D),es[i]?=some e->∀ (j:Nat) (x:D),e[j]?=some x->cs[L.base+0*sz+i*sz+j]?=some (cs.getD (L.base+0*sz+i*sz+j) undef)/\Bo G x (cs.getD (L.base+0*sz+i*sz+j) undef):=by
   intro i e he j x hx;obtain⟨v,hv,hd⟩:=g6 _ e he j x hx;rw[Nat.zero_mul,Nat.add_zero,Jl5,hv];exact⟨rfl,hconv e (Jl1 he) x (Jl1 hx) _ hd⟩
  exact Bo.sl es L.b (L.base+0*sz) cap sz cs t fr (λ i j=>cs.getD (L.base+0*sz+i*sz+j) undef) hG g1 hc (λ i e he j x hx=>(hv i e he j x hx).1) (λ i e he j x hx=>(hv i e he j x hx).2)
 | osl0 _ _ _ a=>
  have:es=[]:=List.eq_nil_of_length_eq_zero hm;subst this;exact .sl0 _ _
section fin
variable {G:Nat->Option Obj} {h':Array Obj} {T:List (Option Ob)}
def Conv (F' G:Nat->Option Obj) (flat:Prop):Prop:=FLe F' G\/flat
theorem Conv.d {x:D} {v:Value} (hc:Conv F' G x.flat) (h:Bo F' x v):Bo G x v:=by
 rcases hc with hc|hc
 ·exact h.mono hc
 ·exact h.plain hc G
theorem Conv.imp {p q:Prop} (h:Conv F' G p) (hpq:p->q):Conv F' G q:=Or.imp id hpq h
theorem Yp (hT:∀ k L ob,ρ' k=some L->obA T k=some ob->Bv F' ρ' h' L ob/\G L.b=h'[L.b]?) (ρ:Nat->Option Loc):∀ (l:List AV) (i n:Nat),Conv F' G (Hy l)->(∀ (j:Nat) ob,(Bn true i l).2[j]?=some ob->obA T (i+j)=some ob) ->
  (Bn false n l).1.length=(Bn true i l).1.length/\∀ (j:Nat) a0 a v,(Bn true i l).1[j]?=some a0->(Bn false n l).1[j]?=some a->Ak F' ρ' a0 v->Ak G ρ a v:=by
 intro l;induction l with
 | nil=>intro i n _ _;exact⟨rfl,λ j a0 a v h=>by simp[Bn]at h⟩
 | cons x l ih=>
  intro i n hc hob;have key:∀ (y y':AV) (i' n':Nat),(∀ (j:Nat) a0 a v,(Bn true i' l).1[j]?=some a0->(Bn false n' l).1[j]?=some a->Ak F' ρ' a0 v->Ak G ρ a v)->(∀ v,Ak F' ρ' y v->Ak G ρ y' v)->∀ (j:Nat) a0 a v,(y::(Bn true i' l).1)[j]?=some a0->(y'::(Bn false n' l).1)[j]?=some a->Ak F' ρ' a0 v->Ak G ρ a v:=by
   intro y y' i' n' hrec hy j a0 a v h1 h2 hr;cases j with
   | zero=>simp at h1 h2;subst h1;subst h2;exact hy v hr
   | succ j=>exact hrec j a0 a v (by simpa using h1) (by simpa using h2) hr
  cases x with
  | own sz es=>
   obtain⟨h2,h3⟩:=ih (i+1) n (hc.imp (λ h=>by simp only[Hy]at h;exact h.2)) (λ j ob hj=>by
    have:=hob (j+1) ob (by simpa [Bn]using hj);rwa[show i+(j+1)=i+1+j by omega]at this)
   refine⟨by simp only[Bn,cond_true,cond_false,List.length_cons,h2],?_⟩;simp only[Bn,cond_true,cond_false];refine key _ _ (i+1) n h3 λ v hv=>.d _ _ (UJ hv (λ L hL=>hT i L _ hL (hob 0 _ (by simp[Bn]))) λ e he x hx u hd=>?_);exact Conv.d (hc.imp (λ h=>by simp only[Hy]at h;exact h.1 e he x hx)) hd
  | d x=>
   obtain⟨h2,h3⟩:=ih i n (hc.imp (λ h=>by simp only[Hy]at h;exact h.2)) (λ j ob hj=>hob j ob (by simpa [Bn]using hj));refine⟨by simp only[Bn,List.length_cons,h2],?_⟩;simp only[Bn];refine key _ _ i n h3 λ v hv=>?_;cases hv with
   | d _ _ hd=>exact .d _ _ (Conv.d (hc.imp (λ h=>by simp only[Hy]at h;exact h.1)) hd)
  | _=>
   obtain⟨h2,h3⟩:=ih i n (hc.imp (λ h=>by simp[Hy]at h)) (λ j ob hj=>hob j ob (by simpa [Bn]using hj));exact⟨by simp only[Bn,List.length_cons,h2],by simp only[Bn];exact key _ _ i n h3 λ v _=>.top v⟩
theorem B9 (hT:∀ k L ob,ρ' k=some L->obA T k=some ob->Bv F' ρ' h' L ob/\G L.b=h'[L.b]?) (ρ:Nat->Option Loc) (x:AV) (i n:Nat) (hc:Conv F' G (Sb x)) (hob:∀ (j:Nat) ob,(B6 true i x).2[j]?=some ob->obA T (i+j)=some ob) :
  ∀ v,Ak F' ρ' (B6 true i x).1 v->Ak G ρ (B6 false n x).1 v:=by
 intro v hv;cases x with
 | own sz es=>
  simp only[B6,cond_true,cond_false]at hv⊢;refine .d _ _ (UJ hv (λ L hL=>hT i L _ hL (hob 0 _ (by simp[B6]))) λ e he x hx u hd=>?_);exact Conv.d (hc.imp (λ h=>by simp only[Sb]at h;exact h e he x hx)) hd
 | agg l=>
  obtain⟨h2,h3⟩:=Yp hT ρ l i n hc hob;simp only[B6]at hv⊢;cases hv with
  | agg _ vs hl hr=>
   refine .agg _ vs (by rw[h2];exact hl) λ j a v ha hv=>?_;have hj:j<(Bn true i l).1.length:=by rw[← h2];exact Af ha
   exact h3 j _ a v (JlZ hj) ha (hr j _ v (JlZ hj) hv)
 | d x=>
  simp only[B6]at hv⊢;cases hv with
  | d _ _ hd=>exact .d _ _ (Conv.d hc hd)
 | _=>exact .top v
theorem Yq (hT:∀ k L ob,ρ' k=some L->obA T k=some ob->Bv F' ρ' h' L ob/\G L.b=h'[L.b]?) (ρ:Nat->Option Loc):∀ (l:List AV) (i n:Nat),Conv F' G (Oo l)->(∀ (j:Nat) ob,(CY true i l).2[j]?=some ob->obA T (i+j)=some ob) ->
  (CY false n l).1.length=(CY true i l).1.length/\∀ (j:Nat) a0 a v,(CY true i l).1[j]?=some a0->(CY false n l).1[j]?=some a->Ak F' ρ' a0 v->Ak G ρ a v:=by
 intro l;induction l with
 | nil=>intro i n _ _;exact⟨rfl,λ j a0 a v h=>by simp[CY]at h⟩
 | cons x l ih=>
  intro i n hc hob;have hA:=B9 hT ρ x i n (hc.imp (λ h=>by simp only[Oo]at h;exact h.1)) (λ j ob hj=>hob j ob (by
   simp only[CY];rw[Jl7 (Af hj)];exact hj))
  obtain⟨h2,h3⟩:=ih (i+(B6 true i x).2.length) (n+(B6 false n x).2.length) (hc.imp (λ h=>by simp only[Oo]at h;exact h.2)) (λ j ob hj=>by
   have:=hob ((B6 true i x).2.length+j) ob (by
    simp only[CY];rw[Jmh (by omega)];rw[show(B6 true i x).2.length+j-(B6 true i x).2.length=j by omega];exact hj)
   rwa[← JlT]at this)
  refine⟨by simp only[CY,List.length_cons,h2],λ j a0 a v ha0 ha hr=>?_⟩;simp only[CY]at ha0 ha;cases j with
  | zero=>simp at ha0 ha;subst ha0;subst ha;exact hA v hr
  | succ j=>exact h3 j a0 a v (by simpa using ha0) (by simpa using ha) hr
theorem Yr (hT:∀ k L ob,ρ' k=some L->obA T k=some ob->Bv F' ρ' h' L ob/\G L.b=h'[L.b]?) (ρ:Nat->Option Loc) (x:AV) (n:Nat) (hc:Conv F' G (JC x)) (hob:∀ (j:Nat) ob,(BZ true 0 x).2[j]?=some ob->obA T j=some ob) :
  ∀ v,Ak F' ρ' (BZ true 0 x).1 v->Ak G ρ (BZ false n x).1 v:=by
 intro v hv;cases x with
 | tup l=>
  obtain⟨h2,h3⟩:=Yq hT ρ l 0 n hc (λ j ob hj=>by rw[Jmd];exact hob j ob hj);simp only[BZ]at hv⊢;cases hv with
  | tup _ vs hl hr=>
   refine .tup _ vs (by rw[h2];exact hl) λ j a v ha hv=>?_;have hj:j<(CY true 0 l).1.length:=by rw[← h2];exact Af ha
   exact h3 j _ a v (JlZ hj) ha (hr j _ v (JlZ hj) hv)
 | d x=>exact B9 hT ρ (.d x) 0 n hc (λ j ob hj=>by rw[Jmd];exact hob j ob hj) v hv
 | agg l=>exact B9 hT ρ (.agg l) 0 n hc (λ j ob hj=>by rw[Jmd];exact hob j ob hj) v hv
 | ptr k off=>exact B9 hT ρ (.ptr k off) 0 n hc (λ j ob hj=>by rw[Jmd];exact hob j ob hj) v hv
 | eptr k sz i off=>exact B9 hT ρ (.eptr k sz i off) 0 n hc (λ j ob hj=>by rw[Jmd];exact hob j ob hj) v hv
 | dptr e off=>exact B9 hT ρ (.dptr e off) 0 n hc (λ j ob hj=>by rw[Jmd];exact hob j ob hj) v hv
 | osl k sz lo n'=>exact B9 hT ρ (.osl k sz lo n') 0 n hc (λ j ob hj=>by rw[Jmd];exact hob j ob hj) v hv
 | bsl k off sz n'=>exact B9 hT ρ (.bsl k off sz n') 0 n hc (λ j ob hj=>by rw[Jmd];exact hob j ob hj) v hv
 | own sz es=>exact B9 hT ρ (.own sz es) 0 n hc (λ j ob hj=>by rw[Jmd];exact hob j ob hj) v hv
 | mp k=>exact B9 hT ρ (.mp k) 0 n hc (λ j ob hj=>by rw[Jmd];exact hob j ob hj) v hv
 | ifc t y=>exact B9 hT ρ (.ifc t y) 0 n hc (λ j ob hj=>by rw[Jmd];exact hob j ob hj) v hv
 | clo f l=>exact B9 hT ρ (.clo f l) 0 n hc (λ j ob hj=>by rw[Jmd];exact hob j ob hj) v hv
 | yld k=>exact B9 hT ρ (.yld k) 0 n hc (λ j ob hj=>by rw[Jmd];exact hob j ob hj) v hv
 | gv g y=>exact B9 hT ρ (.gv g y) 0 n hc (λ j ob hj=>by rw[Jmd];exact hob j ob hj) v hv
 | top=>exact B9 hT ρ (.top) 0 n hc (λ j ob hj=>by rw[Jmd];exact hob j ob hj) v hv
end fin
theorem Ys {G:Nat->Option Obj}:∀ (l:List AV) (i:Nat),Conv F' G (Hy l)->(∀ (j:Nat) a v,(Bn true i l).1[j]?=some a->Ak F' ρ' a v->Ak G ρ' a v)/\(∀ sz es,Ob.arr sz es∈(Bn true i l).2->∀ e∈es,∀ x∈e,Conv F' G x.flat):=by
 intro l;induction l with
 | nil=>intro i _;exact⟨λ j a v h=>by simp[Bn]at h,λ sz es h=>by simp[Bn]at h⟩
 | cons x l ih=>
  intro i hc;cases x with
  | own sz es=>
   obtain⟨h1,h2⟩:=ih (i+1) (hc.imp (λ h=>by simp only[Hy]at h;exact h.2));simp only[Bn,cond_true];refine⟨λ j a v ha hr=>?_,λ sz' es' hm=>?_⟩
   ·cases j with
    | zero=>
     simp at ha;subst ha;generalize es.length=m at hr;cases hr with
     | osl _ _ _ _ cap L hL hc hs hz=>exact .osl _ _ _ _ cap L hL hc hs hz
     | osl0=>exact .osl0 _ _ _ _
    | succ j=>exact h1 j a v (by simpa using ha) hr
   ·simp only[List.mem_cons]at hm;rcases hm with hm|hm
    ·cases hm;exact λ e he x hx=>hc.imp (λ h=>by simp only[Hy]at h;exact h.1 e he x hx)
    ·exact h2 sz' es' hm
  | d x=>
   obtain⟨h1,h2⟩:=ih i (hc.imp (λ h=>by simp only[Hy]at h;exact h.2));simp only[Bn];refine⟨λ j a v ha hr=>?_,h2⟩;cases j with
   | zero=>
    simp at ha;subst ha;cases hr with
    | d _ _ hd=>exact .d _ _ (Conv.d (hc.imp (λ h=>by simp only[Hy]at h;exact h.1)) hd)
   | succ j=>exact h1 j a v (by simpa using ha) hr
  | _=>
   obtain⟨h1,h2⟩:=ih i (hc.imp (λ h=>by simp[Hy]at h));simp only[Bn];refine⟨λ j a v ha hr=>?_,h2⟩;cases j with
   | zero=>simp at ha;subst ha;exact .top v
   | succ j=>exact h1 j a v (by simpa using ha) hr
theorem Ca {G:Nat->Option Obj} (x:AV) (i:Nat) (hc:Conv F' G (Sb x)):(∀ v,Ak F' ρ' (B6 true i x).1 v->Ak G ρ' (B6 true i x).1 v)/\(∀ sz es,Ob.arr sz es∈(B6 true i x).2->∀ e∈es,∀ x∈e,Conv F' G x.flat):=by
 cases x with
 | own sz es=>
  simp only[B6,cond_true];refine⟨λ v hr=>?_,λ sz' es' hm=>?_⟩
  ·generalize es.length=m at hr;cases hr with
   | osl _ _ _ _ cap L hL hc hs hz=>exact .osl _ _ _ _ cap L hL hc hs hz
   | osl0=>exact .osl0 _ _ _ _
  ·simp only[List.mem_singleton]at hm;cases hm;exact λ e he x hx=>hc.imp (λ h=>by simp only[Sb]at h;exact h e he x hx)
 | agg l=>
  obtain⟨h1,h2⟩:=Ys (ρ':=ρ') l i hc;refine⟨λ v hv=>?_,h2⟩;simp only[B6]at hv⊢;cases hv with
  | agg _ vs hl hr=>exact .agg _ vs hl λ j a v ha hv=>h1 j a v ha (hr j a v ha hv)
 | d x=>exact⟨λ v hv=>by simp only[B6]at hv⊢;cases hv with|d _ _ hd=>exact .d _ _ (Conv.d hc hd),λ sz es h=>by simp[B6]at h⟩
 | _=>exact⟨λ v _=>.top v,λ sz es h=>by simp[B6]at h⟩
theorem Yt {G:Nat->Option Obj}:∀ (l:List AV) (i:Nat),Conv F' G (Oo l)->(∀ (j:Nat) a v,(CY true i l).1[j]?=some a->Ak F' ρ' a v->Ak G ρ' a v)/\(∀ sz es,Ob.arr sz es∈(CY true i l).2->∀ e∈es,∀ x∈e,Conv F' G x.flat):=by
 intro l;induction l with
 | nil=>intro i _;exact⟨λ j a v h=>by simp[CY]at h,λ sz es h=>by simp[CY]at h⟩
 | cons x l ih=>
  intro i hc;obtain⟨g1,g2⟩:=Ca (ρ':=ρ') x i (hc.imp (λ h=>by simp only[Oo]at h;exact h.1));obtain⟨h1,h2⟩:=ih (i+(B6 true i x).2.length) (hc.imp (λ h=>by simp only[Oo]at h;exact h.2));simp only[CY];refine⟨λ j a v ha hr=>?_,λ sz es hm=>?_⟩
  ·cases j with
   | zero=>simp at ha;subst ha;exact g1 v hr
   | succ j=>exact h1 j a v (by simpa using ha) hr
  ·rcases List.mem_append.1 hm with hm|hm
   ·exact g2 sz es hm
   ·exact h2 sz es hm
theorem Yu {G:Nat->Option Obj} (x:AV) (i:Nat) (hc:Conv F' G (JC x)):(∀ v,Ak F' ρ' (BZ true i x).1 v->Ak G ρ' (BZ true i x).1 v)/\(∀ sz es,Ob.arr sz es∈(BZ true i x).2->∀ e∈es,∀ x∈e,Conv F' G x.flat):=by
 cases x with
 | tup l=>
  obtain⟨h1,h2⟩:=Yt (ρ':=ρ') l i hc;refine⟨λ v hv=>?_,h2⟩;simp only[BZ]at hv⊢;cases hv with
  | tup _ vs hl hr=>exact .tup _ vs hl λ j a v ha hv=>h1 j a v ha (hr j a v ha hv)
 | d x=>exact Ca (.d x) i hc
 | agg l=>exact Ca (.agg l) i hc
 | ptr k off=>exact Ca (.ptr k off) i hc
 | eptr k sz i' off=>exact Ca (.eptr k sz i' off) i hc
 | dptr e off=>exact Ca (.dptr e off) i hc
 | osl k sz lo n'=>exact Ca (.osl k sz lo n') i hc
 | bsl k off sz n'=>exact Ca (.bsl k off sz n') i hc
 | own sz es=>exact Ca (.own sz es) i hc
 | mp k=>exact Ca (.mp k) i hc
 | ifc t y=>exact Ca (.ifc t y) i hc
 | clo f l=>exact Ca (.clo f l) i hc
 | yld k=>exact Ca (.yld k) i hc
 | gv g y=>exact Ca (.gv g y) i hc
 | top=>exact Ca (.top) i hc
theorem Jde {h h':Array Obj} {Fc:Nat->Option Obj} {n:Nat} {m:Bool} {r:AV} {v:Value} (hS:Sim N H0 F0 F ρ O h) (hS':Sim (λ b=>h.size<=b) (λ b=>h[b]?) Fc F' ρ' ((BZ true 0 r).2.map some) h') (hr:Ak F' ρ' (BZ true 0 r).1 v)
  (hc:Fc=F\/JC r) (hfresh:∀ k,n<=k->k<n+(BZ m n r).2.length->ρ k=none) (hO:∀ (i:Nat) ob,(BZ m n r).2[i]?=some ob->obA O (n+i)=some ob) (hlen:n+(BZ m n r).2.length<=O.length) :
  ∃ G ρ'',FLe F G/\RLe ρ ρ''/\(∀ k,¬(n<=k/\k<n+(BZ m n r).2.length)->ρ'' k=ρ k)/\Sim N H0 F0 G ρ'' O h'/\Ak G ρ'' (BZ m n r).1 v:=by
 cases m with
 | true=>
  have hsh:=Xy (F':=F') (ρ':=ρ') (n:=n) (ρ'':=shR n (BZ true 0 r).2.length ρ ρ') (λ k L hk=>by rw[Xw];exact hk;have:=hS'.dom k L hk;simpa using this) r;obtain⟨e2,hrep⟩:=hsh;rw[e2]at hfresh hO hlen;let G:Nat->Option Obj:=λ b=>if b<h.size then F b else F' b
  have hFG:FLe F G:=λ b o hb=>by
   show(if b<h.size then F b else F' b)=some o
   rw[if_pos (Av (hS.frz b o hb))];exact hb
  have hold:∀ b o,G b=some o->b<h.size->F b=some o:=λ b o hb hl=>by
   have hb:(if b<h.size then F b else F' b)=some o:=hb
   rwa[if_pos hl]at hb
  have hnew:∀ b,h.size<=b->G b=F' b:=λ b hb=>by
   show(if b<h.size then F b else F' b)=F' b
   rw[if_neg (by omega)]
  have hconv:Conv F' G (JC r):=by
   rcases hc with hc|hc
   ·refine .inl λ b o hb=>?_;by_cases hl:b<h.size
    ·have:=hS'.fnew b o hb (by omega);rw[hc]at this;exact hFG b o this
    ·rw[hnew b (by omega)];exact hb
   ·exact .inr hc
  obtain⟨q1,q2⟩:=Yu (ρ':=ρ') r 0 hconv;refine⟨G,shR n (BZ true 0 r).2.length ρ ρ',hFG,λ k L hk=>?_,λ k hk=>by rw[e2]at hk;exact Pq hk,?_,?_⟩
  ·rw[Pq]
   ·exact hk
   ·intro hh;rw[hfresh k hh.1 hh.2]at hk;cases hk
  ·refine hS.join (UI r 0) hS' hfresh hO hlen hFG hold (λ b o hb hl=>hS'.frz b o (by rw[← hnew b hl];exact hb)) λ k L ob hk ho=>?_;obtain⟨g1,g2,g3⟩:=hS'.obj k L ob hk ho;refine⟨?_,by rw[hnew _ g2];exact g3⟩;have hmem:=Jl1 (Dq ho);obtain⟨sz,es,rfl⟩:=UI r 0 ob hmem;obtain⟨p1,p2,cs,t,fr,p3,p4,p5,p6⟩:=g1;refine⟨p1,p2,cs,t,fr,p3,p4,p5,λ i e hi j x hx=>?_⟩;obtain⟨v,hv,hd⟩:=p6 i e hi j x hx;exact⟨v,hv,Conv.d (q2 sz es hmem e (Jl1 hi) x (Jl1 hx)) hd⟩
  ·
   have hsh':=Xy (F':=G) (ρ':=ρ') (n:=n) (ρ'':=shR n (BZ true 0 r).2.length ρ ρ') (λ k L hk=>by rw[Xw];exact hk;have:=hS'.dom k L hk;simpa using this) r;exact hsh'.2 v (q1 v hr)
 | false=>
  have hz:∀ (r:AV),(BZ false n r).2=[]:=by
   intro r;have hC:∀ l:List AV,∀ i,(Bn false i l).2=[]:=by
    intro l;induction l with
    | nil=>intro i;rfl
    | cons x l ih=>intro i;cases x<;>simp[Bn,ih]
   have hA:∀ x i,(B6 false i x).2=[]:=by
    intro x i;cases x<;>simp[B6,hC]
   have hT:∀ l:List AV,∀ i,(CY false i l).2=[]:=by
    intro l;induction l with
    | nil=>intro i;rfl
    | cons x l ih=>intro i;simp[CY,hA,ih]
   cases r<;>simp[BZ,hA,hT]
  rw[hz r]at hfresh hO hlen;let ks:=List.range (BZ true 0 r).2.length;have hal:∀ k∈ks,∃ ob,obA ((BZ true 0 r).2.map some) k=some ob:=λ k hk=>by
   have hk':k<(BZ true 0 r).2.length:=by simpa [ks]using hk
   exact⟨_,E9 (JlZ hk')⟩
  have hSf:=hS'.freeze ks hal;have hle:=Fy hS' ks;let G:Nat->Option Obj:=λ b=>if b<h.size then F b else HS F' ρ' h' ks b
  have hFG:FLe F G:=λ b o hb=>by
   show(if b<h.size then F b else HS F' ρ' h' ks b)=some o
   rw[if_pos (Av (hS.frz b o hb))];exact hb
  have hold:∀ b o,G b=some o->b<h.size->F b=some o:=λ b o hb hl=>by
   have hb:(if b<h.size then F b else HS F' ρ' h' ks b)=some o:=hb
   rwa[if_pos hl]at hb
  have hnew:∀ b,h.size<=b->G b=HS F' ρ' h' ks b:=λ b hb=>by
   show(if b<h.size then F b else HS F' ρ' h' ks b)=HS F' ρ' h' ks b
   rw[if_neg (by omega)]
  have hconv:Conv F' G (JC r):=by
   rcases hc with hc|hc
   ·refine .inl λ b o hb=>?_;by_cases hl:b<h.size
    ·have:=hS'.fnew b o hb (by omega);rw[hc]at this;exact hFG b o this
    ·rw[hnew b (by omega)];exact hle b o hb
   ·exact .inr hc
  have hdata:=Yr (F':=F') (ρ':=ρ') (G:=G) (h':=h') (T:=(BZ true 0 r).2.map some) (λ k L ob hk ho=>by
   obtain⟨g1,g2,g3⟩:=hS'.obj k L ob hk ho;refine⟨g1,?_⟩;rw[hnew _ g2];exact Lg (by simp only[ks,List.mem_range];have:=A6 ho;simpa using this) hk) ρ r n hconv (λ j ob hj=>E9 hj) v hr
  refine⟨G,ρ,hFG,RLe.refl _,λ k _=>rfl,?_,hdata⟩;have:=hS.join (obs:=[]) (n:=n) (G:=G) (ρ':=noR) (F':=F') (Fc:=Fc) (by simp) { hS' with loc:=λ k L hk=>by simp[noR]at hk,dom:=λ k L hk=>by simp[noR]at hk,obj:=λ k L ob hk=>by simp[noR]at hk,sep:=λ k k' L L' ob ob' hk=>by simp[noR]at hk,inn:=⟨λ _ _=>none,λ _ _ _ h=>(by cases h),λ _ _ _ _ _ _ h=>(by cases h),λ _ _ _ _ _ _ h=>(by cases h),λ k L ob0 sz es hk=>(by simp[noR]at hk)⟩ }
   (λ k h1 h2=>by simp at h2;omega) (λ i ob hi=>by simp at hi) (by simpa using hlen) hFG hold (λ b o hb hl=>hSf.frz b o (by rw[← hnew b hl];exact hb)) (λ k L ob hk=>by simp[noR]at hk)
  simpa [ZO]using this
end Go.AI
end
section
namespace Go.AI
variable {P:Program} {F F':Nat->Option Obj} {ρ ρ':Nat->Option Loc} {N:Nat->Prop} {H0 F0:Nat->Option Obj} {O objs:List (Option Ob)} {w:World} {w0:W0}
theorem S4 (v:Value):Ak F ρ (V1 v) v:=by
 unfold V1;split
 ·exact .mkInt _ _
 ·exact .mkBool _
 ·rename_i s;have:=Ak.mkStr (F:=F) (ρ:=ρ) s.data.toList;simpa using this
 ·exact .d _ _ .nil
 ·exact .d _ _ .nilp
 ·exact .top _
theorem A5 {env:List (Nat×AV)} {a:Act} (h:Cf F ρ env a.tmps) (x:Operand):Ak F ρ (Al env x) (a.eval x):=by
 cases x with
 | tmp t=>exact h t
 | const v=>exact S4 v
 | global g=>exact .top _
 | func f=>exact .clo _ _ _ rfl λ i a v h=>by simp at h
theorem BM {g:Bool} (hg:g=true):∀ (l:List AV),Fu g l->∀ x∈l,∀ v,Ak F ρ x v->Ak F ρ (unG x) v:=by
 intro l;induction l with
 | nil=>intro _ x hx;simp at hx
 | cons y l ih=>
  intro h x hx v hv;simp only[List.mem_cons]at hx;rcases hx with rfl|hx
  ·cases x with
   | gv g' u=>
    have:=h.1 hg;subst this;cases hv with
    | gvT _ _ hv=>exact hv
   | _=>exact hv
  ·refine ih ?_ x hx v hv;cases y with
   | gv g' u=>exact h.2
   | _=>exact h
def Wf:Option Value->Option Bool
 | some (.bool b)=>some b
 | _=>none
theorem Gu {all:Array Oper} {env:List (Nat×AV)} {tmps:Array Value} {o:Oper} {g:Bool} (hs:Cf F ρ env tmps) (h:Bw all.toList env o.guard=some g):Region.wanted o (yielded all tmps)=g:=by
 unfold Bw at h;unfold Region.wanted;split at h
 ·rename_i hg;cases h;rw[hg]
 ·rename_i j want hg;rw[hg];simp only;split at h
  ·rename_i o' ho';split at h
   ·rename_i t ht;have hst:=hs t;have hy:yielded all tmps j=Wf tmps[t]? := by
     unfold yielded Wf;rw[← Array.getElem?_toList,ho'];simp only[JlF,ht];cases tmps[t]? with
     | none=>rfl
     | some v=>cases v<;>rfl
    split at h
    ·rename_i b hb;cases h;rw[hb]at hst;have:=hst.bool;have hget:tmps[t]?=some (.bool b):=by
      rw[Jl5]at this;cases hx:tmps[t]? with
      | none=>rw[hx]at this;cases this
      | some v=>rw[hx]at this;simp at this;rw[this]
     rw[hy,hget];cases want<;>cases b<;>rfl
    ·rename_i g0 b hb;cases h;rw[hb]at hst;cases g0 with
     | false=>
      have hu:tmps.getD t undef=undef:=by
       generalize tmps.getD t undef=u at hst;cases hst;rfl
      have hne:Wf tmps[t]?=none:=by
       rw[Jl5]at hu;cases hx:tmps[t]? with
       | none=>rfl
       | some v=>rw[hx]at hu;simp at hu;rw[hu];rfl
      rw[hy,hne];rfl
     | true=>
      have hst':Ak F ρ (.d (.bool b)) (tmps.getD t undef):=by
       generalize tmps.getD t undef=u at hst;cases hst with
       | gvT _ _ h=>exact h
      have:=hst'.bool;have hget:tmps[t]?=some (.bool b):=by
       rw[Jl5]at this;cases hx:tmps[t]? with
       | none=>rw[hx]at this;cases this
       | some v=>rw[hx]at this;simp at this;rw[this]
      rw[hy,hget];cases want<;>cases b<;>rfl
    ·cases h
   ·cases h
  ·cases h
theorem put_defers (a:Act) (d:Option Tmp) (v:Value):(a.put d v).defers=a.defers:=by
 cases d<;>rfl
theorem Cf.putA {env:List (Nat×AV)} {a:Act} {nt:Slt} {kp:Nat->Option Value} {d:Option Tmp} {guarded g:Bool} {x:AV} {v:Value} (H:Cf F ρ env a.tmps) (hn:TS nt kp a.tmps) (hd:BE nt d=true) (hx:Ak F ρ (bif guarded then .gv g x else x) v) :
  Cf F ρ (AI.putA d guarded g x env) (a.put d v).tmps:=by
 cases d with
 | none=>exact H
 | some d=>exact H.put (hn.lt hd) hx
theorem MV {Γ:Nat->Ty} {ev:Operand->AV} {op:Op} {e:Eff} (h:opA Γ ev objs op=some e):HX op=true\/Xu op=true\/(∃ args ts,op=.call ⟨.builtin .append,args,ts⟩)\/Yo op=true:=by
 cases op with
 | call c=>
  obtain⟨callee,args,ts⟩:=c;cases callee with
  | value f=>cases h
  | invoke r m=>cases h
  | builtin b=>
   cases b<;>first
    | exact .inl rfl
    | exact .inr (.inr (.inl ⟨args,ts,rfl⟩))
    | cases h
 | store=>exact .inr (.inr (.inr rfl))
 | mapUpdate=>exact .inr (.inr (.inr rfl))
 | insert=>exact .inr (.inr (.inr rfl))
 | makeSlice=>exact .inr (.inl rfl)
 | makeMap=>exact .inr (.inl rfl)
 | alloc=>exact .inr (.inl rfl)
 | box=>exact .inr (.inl rfl)
 | buildSlice=>exact .inr (.inl rfl)
 | _=>first|exact .inl rfl|cases h
theorem Wg {Γ:Nat->Ty} (hΓ:I0 P Γ) (o:Oper) {ev:Operand->AV} {a:Act} {e:Eff} (hS:Sim N H0 F0 F ρ objs w.heap) (h:opA Γ ev objs o.op=some e) (hob:e.ob) (hev:∀ x∈o.op.operands.toList,Ak F ρ (ev x) (a.eval x)) :
  ∃ v w' F' ρ',((execOp a.eval o).run P w=.ok (.value v) w'\/((execOp a.eval o).run P w=.ok .skip w'/\v=undef))/\FLe F F'/\RLe ρ ρ'/\Sim N H0 F0 F' ρ' (BG (rmA objs e.rm) e.upd++e.obs.map some) w'.heap/\Ak F' ρ' e.v v/\Mu w w':=by
 rcases MV h with hq|hn|⟨args,ts,happ⟩|hst
 ·obtain⟨⟨h1,h2,h3⟩,v,hv,hr⟩:=CZ hΓ hS (λ _ _ h=>h) o hq h hob hev;exact⟨v,w,F,ρ,.inl hv,FLe.refl _,RLe.refl _,by rw[h1,h2,h3];simpa [rmA,BG]using hS,hr,Mu.refl _⟩
 ·have hfresh:ρ objs.length=none:=by
   cases hρ:ρ objs.length with
   | none=>rfl
   | some L=>have:=hS.dom _ _ hρ;omega
  have hal:∀ k∈e.rm,∃ ob,obA objs k=some ob:=by
   cases hop:o.op with
   | buildSlice t len parts=>
    rw[hop]at h;simp only[opA]at h;cases hok:(Γ t).ok&&decide (len<=1000)with
    | false=>rw[hok]at h;cases h
    | true=>
     rw[hok,cond_true]at h;split at h
     ·rename_i esz eb ez hkind;cases hc:(decide (1<=esz)&&decide (esz<=1000)&&ez.length==esz)with
      | false=>rw[hc]at h;cases h
      | true=>
       rw[hc,cond_true]at h;split at h
       ·rename_i r hr;cases h;exact Ow _ _ _ hr
       ·cases h
     ·cases h
   | alloc t=>
    rw[hop]at h;simp only[opA]at h;cases hok:(Γ t).ok with
    | false=>rw[hok]at h;cases h
    | true=>rw[hok,cond_true]at h;cases h;intro k hk;simp at hk
   | box t x=>
    rw[hop]at h;simp only[opA]at h;cases hok:Bz (ev x)with
    | false=>rw[hok]at h;cases h
    | true=>rw[hok,cond_true]at h;cases h;intro k hk;simp at hk
   | makeSlice t x y=>
    rw[hop]at h;simp only[opA]at h;cases hok:(Γ t).ok with
    | false=>rw[hok]at h;cases h
    | true=>
     rw[hok,cond_true]at h;split at h
     ·rename_i esz eb ez n c _ _ _;cases hc:(decide (1<=esz)&&decide (1<=eb))with
      | false=>rw[hc]at h;cases h
      | true=>rw[hc,cond_true]at h;cases h;intro k hk;simp at hk
     ·cases h
   | makeMap t x=>
    rw[hop]at h;cases x with
    | none=>
     simp only[opA]at h;cases hok:(Γ t).ok with
     | false=>rw[hok]at h;cases h
     | true=>
      rw[hok,cond_true]at h;split at h
      ·cases h;intro k hk;simp at hk
      ·cases h
    | some x=>
     simp only[opA]at h;cases hok:(Γ t).ok with
     | false=>rw[hok]at h;cases h
     | true=>
      rw[hok,cond_true]at h;split at h
      ·cases h;intro k hk;simp at hk
      ·cases h
   | _=>rw[hop]at hn;cases hn
  have hS1:Sim N H0 F0 (HS F ρ w.heap e.rm) ρ (rmA objs e.rm++e.obs.map some) w.heap:=(hS.freeze e.rm hal).grow _;obtain⟨g1,g2,_,v,w',ρ',hv,hs,hle,_,hr,hmu⟩:=Sh hΓ hS (λ _ _ h=>h) o hn h hob hev (Fy hS e.rm) (λ k L hk hL=>Lg hk hL) hS1 (λ i ob hi=>by
   rw[AM,BL,if_neg (by omega),show objs.length+i-objs.length=i by omega];exact E9 hi) hfresh
  exact⟨v,w',_,ρ',.inl hv,Fy hS e.rm,hle,by rw[g1];exact hs,hr,hmu⟩
 ·obtain⟨h1,v,w',ρ',hv,hs,hle,hr,hmu⟩:=S3 hΓ hS o happ h hob hev;exact⟨v,w',F,ρ',.inl hv,FLe.refl _,hle,by rw[h1];exact hs,hr,hmu⟩
 ·obtain⟨h1,h2,w',F',hv,hle,hs,hmu⟩:=UG hΓ hS o hst h hob hev;exact⟨undef,w',F',ρ,.inr ⟨hv,rfl⟩,hle,RLe.refl _,by rw[h1];simpa using hs,by rw[h2];exact .top _,hmu⟩
theorem Xz {es:List (List AV)} (h:Uo es=0):∀ e∈es,∀ a∈e,isN a=true:=by
 intro e he a ha;unfold Uo at h;have h:=List.length_eq_zero_iff.1 h;rw[List.filter_eq_nil_iff]at h;have:=h a (List.mem_flatten.2 ⟨e,he,ha⟩);simpa using this
theorem PO {h:Array Obj} (hS:Sim N H0 F0 F ρ O h) (hF:FLe F F') (hF1:∀ b,F' b=h[b]?) {k sz:Nat} {es:List (List AV)} {L:Loc} (hn:∀ e∈es,∀ a∈e,isN a=true) (hL:ρ k=some L) (ho:obA O k=some (.narr sz es)) :
  ∃ cs t fr,h[L.b]?=some (.cells cs t fr)/\∀ (i:Nat) (e:List AV),es[i]?=some e->∀ (j:Nat) (x:D),(e.map ofN)[j]?=some x->∃ v,cs[L.base+i*sz+j]?=some v/\Bo F' x v:=by
 obtain⟨⟨p1,p2,cs,t,fr,p3,p4,p5,p6⟩,_⟩:=hS.obj k L _ hL ho;obtain⟨σ,hσ⟩:=hS.inn;refine⟨cs,t,fr,p3,λ i e h1 j x hx=>?_⟩;simp only[Jl3,Jl2]at hx;obtain⟨a,h2,rfl⟩:=hx;obtain⟨v',hv',hav⟩:=p6 i e h1 j a h2;refine⟨v',hv',?_⟩;have hisN:=hn e (Jl1 h1) a (Jl1 h2);cases a with
 | d y=>
  have:=hav rfl;cases this with
  | d _ _ hy=>exact hy.mono hF
 | own isz xs=>
  show Bo F' (.sl xs) v';rcases hσ.narr k L sz es hL ho i e j isz xs h1 h2 cs t fr v' p3 hv' with⟨rfl,a,rfl⟩|⟨M,cap,hM,rfl,hcap,_,_,⟨q1,q2,cs1,t1,fr1,q3,q4,q5,q6⟩⟩
  ·exact .sl0 _ _
  ·refine .sl xs M.b M.base cap isz cs1 t1 fr1 (λ i j=>(cs1[M.base+i*isz+j]?).getD undef) (by rw[hF1];exact q3) q1 hcap (λ i e hi j x hx=>?_) (λ i e hi j x hx=>?_)
   ·obtain⟨u,hu,_⟩:=q6 i e hi j x hx;simp only[hu,JlK]
   ·obtain⟨u,hu,hd⟩:=q6 i e hi j x hx;simp only[hu,JlK];exact hd.mono hF
 | _=>cases hisN
theorem Wh {h:Array Obj} (hS:Sim N H0 F0 F ρ O h) (hO:∀ k ob,obA objs k=some ob->obA O k=some ob) (hF:FLe F F') {v:AV} {r:Rd AV} {x:Value} (hF1:r.ks≠[]->∀ b,F' b=h[b]?) (he:MM objs v=some r) (hob:r.ob) (hr:Ak F ρ v x):Ak F' noR r.x x:=by
 have hF':∀ k L,k∈r.ks->ρ k=some L->F' L.b=h[L.b]? := λ k L hk _=>hF1 (λ e=>by rw[e]at hk;cases hk) _;unfold MM at he;split at he
 ·rename_i l;split at he
  ·rename_i r1 h1;cases he;cases hr with
   | agg _ vs hl hv=>
    obtain⟨g1,g2⟩:=Fh hS hO hF l r1 vs.toList hF' h1 hob ⟨by simpa using hl,λ i a v ha hv'=>hv i a v ha (by simpa using hv')⟩;refine .agg _ vs (by simp at g1⊢;exact g1) λ i a v ha hv'=>?_;simp only[Jl3,Jl2]at ha;obtain⟨y,hy,rfl⟩:=ha;exact .d _ _ (g2 i y v hy (by simpa using hv'))
  ·cases he
 ·rename_i k off;split at he
  ·rename_i cells hk;split at he
   ·rename_i r1 h1;cases he;cases hr with
    | ptr _ _ L hL=>
     obtain⟨⟨q1,q2,cs,t,fr,q3,q4,q5,q6⟩,_⟩:=hS.obj k L _ hL (hO _ _ hk);obtain⟨g1,g2⟩:=Fh hS hO hF cells r1 cs.toList (λ k L hk hL=>hF' k L (by simp[hk]) hL) h1 hob.2 ⟨by simp;omega,λ i a v ha hv=>q6 i a v ha (by simpa using hv)⟩;have hFb:=hF' k L (by simp) hL;rw[q3]at hFb;refine .dptr r1.x off L.b L.base cs t fr (λ j=>cs.getD (L.base+j) undef) hFb (λ j x hx=>?_) (λ j x hx=>?_)
     ·have hj:=Af hx;rw[g1]at hj;simp only[Array.length_toList]at hj;rw[q1,Jmd,Jl5,Jl4 hj];rfl
     ·have hj:=Af hx;rw[g1]at hj;simp only[Array.length_toList]at hj;rw[q1,Jmd,Jl5,Jl4 hj];exact g2 j x _ hx (by simp[hj])
   ·cases he
  ·cases he
 ·rename_i k sz i off;split at he
  ·rename_i sz' es hk;cases he;obtain⟨rfl,hi⟩:=hob;cases hr with
   | eptr _ _ _ _ L hL=>
    obtain⟨⟨q1,q2,cs,t,fr,q3,q4,q5,q6⟩,_⟩:=hS.obj k L _ hL (hO _ _ hk);have hFb:=hF' k L (by simp) hL;rw[q3]at hFb;have hei:=JlZ hi;refine .dptr _ off L.b (L.base+i*sz) cs t fr (λ j=>cs.getD (L.base+i*sz+j) undef) hFb (λ j x hx=>?_) (λ j x hx=>?_)
    ·rw[hei,JlK]at hx;obtain⟨v,hv,_⟩:=q6 i _ hei j x hx;rw[Jl5,hv];rfl
    ·rw[hei,JlK]at hx;obtain⟨v,hv,hd⟩:=q6 i _ hei j x hx;rw[Jl5,hv];exact hd.mono hF
  ·rename_i sz' es hk;cases he;obtain⟨rfl,hi,hcn⟩:=hob;cases hr with
   | eptr _ _ _ _ L hL=>
    obtain⟨cs,t,fr,q3,q6⟩:=PO hS hF (hF1 (by simp)) (Xz hcn) hL (hO _ _ hk);have hFb:=hF' k L (by simp) hL;rw[q3]at hFb;have hei:=JlZ hi;refine .dptr _ off L.b (L.base+i*sz) cs t fr (λ j=>cs.getD (L.base+i*sz+j) undef) hFb (λ j x hx=>?_) (λ j x hx=>?_)
    ·rw[hei,JlK]at hx;obtain⟨v,hv,_⟩:=q6 i _ hei j x hx;rw[Jl5,hv];rfl
    ·rw[hei,JlK]at hx;obtain⟨v,hv,hd⟩:=q6 i _ hei j x hx;rw[Jl5,hv];exact hd
  ·cases he
 ·cases he;cases hr with
  | dptr _ _ b o cs t fr g h1 h2 h3=>exact .dptr _ _ b o cs t fr g (hF _ _ h1) h2 λ j x hx=>(h3 j x hx).mono hF
 ·rename_i k sz lo n;split at he
  ·rename_i sz' es hk;cases hb:Nat.beq sz sz' with
   | false=>rw[hb]at he;cases he
   | true=>
    rw[hb,cond_true]at he;have:=Jl6 hb;subst this;cases he;obtain⟨hln,hcn⟩:=hob;cases hr with
    | osl0=>simp;exact .d _ _ (.sl0 _ _)
    | osl _ _ _ _ cap L hL hc hs hz=>
     obtain⟨cs,t,fr,q3,q6⟩:=PO hS hF (hF1 (by simp)) (Xz hcn) hL (hO _ _ hk);obtain⟨⟨p1,p2,_⟩,_⟩:=hS.obj k L _ hL (hO _ _ hk);have hFb:=hF' k L (by simp) hL;rw[q3]at hFb;have hl:(((es.drop lo).take n).map λ e=>e.map ofN).length=n:=by simp;omega
     have hat:∀ (i:Nat) (e:List D),(((es.drop lo).take n).map λ e=>e.map ofN)[i]?=some e->∃ e0,es[lo+i]?=some e0/\e=e0.map ofN:=λ i e hi=>by
      simp only[Jl3,Jl2]at hi;obtain⟨e0,h1,rfl⟩:=hi;have hin:i<n:=by have:=Af h1;simp at this;omega
      rw[Jmj hin,JlS]at h1;exact⟨e0,h1,rfl⟩
     have key:=Bo.sl (F:=F') (((es.drop lo).take n).map λ e=>e.map ofN) L.b (L.base+lo*sz) cap sz cs t fr (λ i j=>(cs[L.base+lo*sz+i*sz+j]?).getD undef) hFb (λ e he=>by
      simp only[JlR]at he;obtain⟨e0,h1,rfl⟩:=he;simpa using p1 e0 (List.mem_of_mem_drop (List.mem_of_mem_take h1))) (by rw[hl];exact hc) (λ i e hi j x hx=>by
      obtain⟨e0,h1,rfl⟩:=hat i e hi;obtain⟨u,hu,_⟩:=q6 (lo+i) e0 h1 j x hx;rw[Jmc,← JlT]at hu;simp only[hu,JlK]) (λ i e hi j x hx=>by
      obtain⟨e0,h1,rfl⟩:=hat i e hi;obtain⟨u,hu,hd⟩:=q6 (lo+i) e0 h1 j x hx;rw[Jmc,← JlT]at hu;simp only[hu,JlK];exact hd)
     rw[hl]at key;exact .d _ _ key
  ·split at he
   ·rename_i r1 h1;cases he;exact .d _ _ (I2 hS hO hF hF' h1 hob hr)
   ·cases he
 ·split at he
  ·rename_i r1 h1;cases he;exact .d _ _ (I2 hS hO hF hF' h1 hob hr)
  ·cases he
theorem UK {h:Array Obj} (hS:Sim N H0 F0 F ρ O h) (hO:∀ k ob,obA objs k=some ob->obA O k=some ob) (hF:FLe F F'):∀ (l:List AV) (r:Rd (List AV)) (vs:List Value),(r.ks≠[]->∀ b,F' b=h[b]?)->LS objs l=some r->r.ob->CR F ρ l vs->CR F' noR r.x vs:=by
 intro l;induction l with
 | nil=>intro r vs _ he _ hc;cases he;exact⟨hc.1,λ i a v ha=>by simp at ha⟩
 | cons a l ih=>
  intro r vs hF' he hob hc;simp only[LS]at he;split at he
  ·rename_i r1 r2 h1 h2;cases he;cases vs with
   | nil=>have:=hc.1;simp at this
   | cons v vs=>
    have hd:=Wh hS hO hF (λ hk=>hF' (by simp[hk])) h1 hob.1 (hc.2 0 a v rfl rfl);have hrec:=ih r2 vs (λ hk=>hF' (by simp[hk])) h2 hob.2 ⟨by have:=hc.1;simpa using this,λ i a v ha hv=>hc.2 (i+1) a v (by simpa using ha) (by simpa using hv)⟩;refine⟨by simp[hrec.1],λ i x v' hx hv=>?_⟩;cases i with
    | zero=>simp at hx hv;subst hx;subst hv;exact hd
    | succ i=>exact hrec.2 i x v' (by simpa using hx) (by simpa using hv)
  ·cases he
theorem UL {o:Oper} {f:FuncId} {args:Array Operand} {ts:Array TypeId} {a:Act} {ev:Operand->AV} {ra:Rd (List AV)} {r:AV} {m:Bool} (hop:o.op=.call ⟨.value (.func f),args,ts⟩) (hS:Sim N H0 F0 F ρ O w.heap) (hO:∀ k ob,obA objs k=some ob->obA O k=some ob)
  (hex:LS objs (args.toList.map ev)=some ra) (hob:ra.ob) (hev:∀ x∈args.toList,Ak F ρ (ev x) (a.eval x)) (hcall:AQ P f ra.x r)
  (hflat:ra.ks=[]\/JC r) (n:Nat) (hfresh:∀ k,n<=k->k<n+(BZ m n r).2.length->ρ k=none) (hnew:∀ (i:Nat) ob,(BZ m n r).2[i]?=some ob->obA O (n+i)=some ob) (hlen:n+(BZ m n r).2.length<=O.length)
  {next:Act->World->Prop} {Q:Exit->Act->World->Prop}
  (hk:∀ v w' G ρ'',FLe F G->RLe ρ ρ''->(∀ k,¬(n<=k/\k<n+(BZ m n r).2.length)->ρ'' k=ρ k)->Sim N H0 F0 G ρ'' O w'.heap->Ak G ρ'' (BZ m n r).1 v->Mu w w'->next (a.put o.dst v) w'):o.wp P a w next Q:=by
 obtain⟨⟨fn,c,hf,hb,hnm⟩,hcall⟩:=hcall;have hrun:(execOp a.eval o).run P w=.ok (.enter f (args.map a.eval)) w:=by
  simp only[execOp,hop,resolve,Act.eval,Deferred.ofValue,JlG,JlH,JlE,invoke,callFunc,run_program,hf,hnm,hb,Jmb,if_false,Option.isNone_some,Array.empty_append,Array.append_empty]
 unfold Oper.wp;rw[hrun,Oper.upon_enter];let Fc:Nat->Option Obj:=λ b=>if ra.ks=[]then F b else w.heap[b]?
 have hle:FLe F Fc:=λ b o hb=>by
  show(if ra.ks=[]then F b else w.heap[b]?)=some o
  split
  ·exact hb
  ·exact hS.frz b o hb
 have hcr:CR Fc noR ra.x (args.map a.eval).toList:=by
  refine UK hS hO hle _ ra _ (λ hk b=>if_neg hk) hex hob ⟨by simp,λ i x v hx hv=>?_⟩;simp only[Jl3,Jl2,Array.toList_map]at hx hv;obtain⟨y,hy,rfl⟩:=hx;obtain⟨y',hy',rfl⟩:=hv;rw[hy]at hy';cases hy';exact hev y (Jl1 hy)
 have hfrz:∀ b o,Fc b=some o->w.heap[b]?=some o:=λ b o hb=>by
  have hb:(if ra.ks=[]then F b else w.heap[b]?)=some o:=hb
  split at hb
  ·exact hS.frz b o hb
  ·exact hb
 refine(hcall Fc w (args.map a.eval) hcr hfrz).mono λ e w' he=>?_;obtain⟨v,F1,ρ1,rfl,hS1,hr1,hmu⟩:=he;simp only;obtain⟨G,ρ'',g1,g2,g3,g4,g5⟩:=Jde (m:=m) (n:=n) hS hS1 hr1 (by
  rcases hflat with h|h
  ·left;funext b;exact if_pos h
  ·exact .inr h) hfresh hnew hlen
 exact hk v w' G ρ'' g1 g2 g3 g4 g5 hmu
end Go.AI
end
section
namespace Go.AI
variable {P:Program} {F F':Nat->Option Obj} {ρ ρ':Nat->Option Loc} {N:Nat->Prop} {H0 F0:Nat->Option Obj} {O objs:List (Option Ob)} {w:World} {w0:W0}
theorem MW:∀ (l acc:List Nat),acc.Nodup->(Ib acc l).Nodup:=by
 intro l;induction l with
 | nil=>intro acc h;exact h
 | cons k l ih=>
  intro acc h;simp only[Ib];cases hc:acc.contains k with
  | true=>simpa using ih acc h
  | false=>
   simp only[cond_false];refine ih _ ?_;rw[List.nodup_append];have hk:k ∉ acc:=by simpa using hc
   exact⟨h,by simp,λ a ha b hb=>by simp at hb;subst hb;exact λ e=>hk (e▸ha)⟩
theorem MX (nk:Nat) (objs:List (Option Ob)) (vs:List AV):(Mm nk objs vs).Nodup:=by
 unfold Mm;have h:∀ (n:Nat) (a:List Nat),a.Nodup->(NK objs n a).Nodup:=λ n=>by
  induction n with
  | zero=>exact λ _ h=>h
  | succ n ih=>exact λ a h=>ih _ (MW _ _ h)
 exact h _ _ (MW _ _ List.nodup_range)
theorem I3 (objs:List (Option Ob)) (vs:List AV):(AL objs vs).Nodup:=MX 0 objs vs
theorem PP:∀ (l acc:List Nat),∃ r,Ib acc l=acc++r:=by
 intro l;induction l with
 | nil=>intro acc;exact⟨[],by simp[Ib]⟩
 | cons k l ih=>
  intro acc;simp only[Ib];cases acc.contains k with
  | true=>exact ih acc
  | false=>
   obtain⟨r,hr⟩:=ih (acc++[k]);exact⟨[k]++r,by rw[cond_false,hr,List.append_assoc]⟩
theorem Wi {nk j:Nat} (h:j<nk) (objs:List (Option Ob)) (vs:List AV):(Mm nk objs vs)[j]?=some j:=by
 unfold Mm;have hp:∀ (n:Nat) (a:List Nat),∃ r,NK objs n a=a++r:=λ n=>by
  induction n with
  | zero=>exact λ a=>⟨[],(List.append_nil a).symm⟩
  | succ n ih=>
   intro a;obtain⟨r,h1⟩:=PP (Sc objs a) a;obtain⟨r',h2⟩:=ih (a++r);exact⟨r++r',by rw[NK,h1,h2,List.append_assoc]⟩
 obtain⟨r1,h1⟩:=PP (Bp vs) (List.range nk);obtain⟨r2,h2⟩:=hp 5 (Ib (List.range nk) (Bp vs));rw[h2,h1,List.append_assoc,Jl7 (by simpa using h),List.getElem?_range h]
theorem Oz:∀ (ord:List Nat) (k i j:Nat),Hz ord k i=some j->i<=j/\ord[j-i]?=some k:=by
 intro ord;induction ord with
 | nil=>intro k i j h;cases h
 | cons x xs ih=>
  intro k i j h;simp only[Hz]at h;cases hb:Nat.beq x k with
  | true=>
   rw[hb,cond_true]at h;cases h;have:=Jl6 hb;subst this;simp
  | false=>
   rw[hb,cond_false]at h;obtain⟨h1,h2⟩:=ih k (i+1) j h;refine⟨by omega,?_⟩;rw[show j-i=(j-(i+1))+1 by omega];simpa using h2
def gcR (ord:List Nat) (ρ:Nat->Option Loc):Nat->Option Loc:=λ j=>match ord[j]? with|some k=>ρ k|none=>none
theorem Ed {ord:List Nat} {a:AV} {v:Value} (h:Ak F ρ a v):Ak F (gcR ord ρ) (FZ ord a) v:=by
 have key:∀ k j L,Hz ord k 0=some j->ρ k=some L->gcR ord ρ j=some L:=λ k j L hi hL=>by
  have:=(Oz ord k 0 j hi).2;unfold gcR;rw[Nat.sub_zero]at this;rw[this];exact hL
 cases h with
 | d x v h=>exact .d _ _ h
 | ptr k off L hL=>
  simp only[FZ];split
  ·rename_i j hj;exact .ptr j off L (key k j L hj hL)
  ·exact .top _
 | eptr k sz i off L hL=>
  simp only[FZ];split
  ·rename_i j hj;exact .eptr j sz i off L (key k j L hj hL)
  ·exact .top _
 | osl k sz lo n cap L hL h1 h2 h3=>
  simp only[FZ];split
  ·rename_i j hj;exact .osl j sz lo n cap L (key k j L hj hL) h1 h2 h3
  ·exact .top _
 | osl0 k sz lo x=>
  simp only[FZ];split
  ·rename_i j hj;exact .osl0 j sz lo x
  ·exact .top _
 | bsl k off sz n cap L hL h1=>
  simp only[FZ];split
  ·rename_i j hj;exact .bsl j off sz n cap L (key k j L hj hL) h1
  ·exact .top _
 | dptr e off b o cs t fr g h1 h2 h3=>exact .dptr e off b o cs t fr g h1 h2 h3
 | mp k L hL=>
  simp only[FZ];split
  ·rename_i j hj;exact .mp j L (key k j L hj hL)
  ·exact .top _
 | yld k L hL=>
  simp only[FZ];split
  ·rename_i j hj;exact .yld j L (key k j L hj hL)
  ·exact .top _
 | _=>exact .top _
theorem F6 {ord:List Nat} {a:AV} {v:Value} (h:Ak F ρ a v):Ak F (gcR ord ρ) (IV ord a) v:=by
 have many:∀ {l:List AV} {vs:Array Value},l.length=vs.size->(∀ (i:Nat) (a:AV) (v:Value),l[i]?=some a->vs[i]?=some v->Ak F ρ a v)->(l.map (FZ ord)).length=vs.size/\∀ (i:Nat) (a:AV) (v:Value),(l.map (FZ ord))[i]?=some a->vs[i]?=some v->Ak F (gcR ord ρ) a v:=λ hl hr=>by
  refine⟨by simpa using hl,λ i a v ha hv=>?_⟩;simp only[Jl3,Jl2]at ha;obtain⟨x,hx,rfl⟩:=ha;exact Ed (hr i x v hx hv)
 cases a with
 | agg l=>cases h with|agg _ vs hl hr=>exact .agg _ vs (many hl hr).1 (many hl hr).2
 | clo f l=>cases h with|clo _ _ vs hl hr=>exact .clo f _ vs (many hl hr).1 (many hl hr).2
 | ifc t v=>cases h with|ifc _ _ x hx=>exact .ifc t _ x (Ed hx)
 | _=>exact Ed h
theorem OB:∀ (l:List AV) (n:Nat),(D2 n l).1.length=l.length/\∀ (i:Nat) a a' v,l[i]?=some a->(D2 n l).1[i]?=some a'->Ak F ρ a v->Ak F ρ a' v:=by
 intro l;induction l with
 | nil=>intro n;exact⟨rfl,λ i a a' v h=>by simp at h⟩
 | cons x l ih=>
  intro n;have gen:∀ (y:AV) (n':Nat),(∀ v,Ak F ρ x v->Ak F ρ y v)->∀ (i:Nat) a a' v,(x::l)[i]?=some a->(y::(D2 n' l).1)[i]?=some a'->Ak F ρ a v->Ak F ρ a' v:=by
   intro y n' hy i a a' v h1 h2 hr;cases i with
   | zero=>simp at h1 h2;subst h1;subst h2;exact hy v hr
   | succ i=>exact(ih n').2 i a a' v (by simpa using h1) (by simpa using h2) hr
  have dflt:(D2 n (x::l))=(x::(D2 n l).1,(D2 n l).2)->(D2 n (x::l)).1.length=(x::l).length/\∀ (i:Nat) a a' v,(x::l)[i]?=some a->(D2 n (x::l)).1[i]?=some a'->Ak F ρ a v->Ak F ρ a' v:=by
   intro e;rw[e];exact⟨by simp[(ih n).1],gen x n λ v h=>h⟩
  cases x with
  | d y=>
   cases y with
   | nil=>
    have e:D2 n (.d .nil::l)=(.osl n 0 0 0::(D2 (n+1) l).1,(D2 (n+1) l).2+1):=rfl;rw[e];refine⟨by simp[(ih (n+1)).1],gen _ (n+1) λ v h=>?_⟩;rw[h.nil];exact .osl0 _ _ _ _
   | _=>exact dflt rfl
  | _=>exact dflt rfl
theorem MY {ord:List Nat} {x:AV} {sz:Nat} {xs:List (List D)} (h:IW ord x=.own sz xs):x=.own sz xs:=by
 cases x with
 | own=>exact h
 | ptr=>simp only[IW,FZ]at h;split at h<;>cases h
 | eptr=>simp only[IW,FZ]at h;split at h<;>cases h
 | osl=>simp only[IW,FZ]at h;split at h<;>cases h
 | bsl=>simp only[IW,FZ]at h;split at h<;>cases h
 | mp=>simp only[IW,FZ]at h;split at h<;>cases h
 | yld=>simp only[IW,FZ]at h;split at h<;>cases h
 | _=>cases h
theorem UM (ord:List Nat):∀ (l:List (Option Ob)) (n:Nat),(DK ord n l).1.length=l.length:=by
 intro l;induction l with
 | nil=>intro n;rfl
 | cons x l ih=>
  intro n;cases x with
  | none=>simp[DK,ih]
  | some o=>cases o<;>simp[DK,ih]
def S5:Ob->Bool
 | .map _ _ _=>true
 | .iter _ _ _ _=>true
 | _=>false
theorem UN {o:Ob} (hm:S5 o=true):o.rows=none:=by cases o<;>first|rfl|cases hm
theorem Wj {F:Nat->Option Obj} {ρ ρ':Nat->Option Loc} {h:Array Obj} {L:Loc} {o:Ob} (hm:S5 o=true) (H:Bv F ρ h L o):Bv F ρ' h L o:=by
 cases o with
 | map ka va ents=>exact H
 | iter ka va c l=>exact H
 | _=>cases hm
theorem ZS (ord:List Nat):∀ (l:List (Option Ob)) (n j:Nat) (ob:Ob),obA (DK ord n l).1 j=some ob ->
  (∃ sz es,ob=.arr sz es/\obA l j=some (.arr sz es))\/(∃ cells m,ob=.box (D2 m (cells.map (IV ord))).1/\obA l j=some (.box cells))\/(∃ sz es,ob=.narr sz (es.map λ e=>e.map (IW ord))/\obA l j=some (.narr sz es))\/(∃ o,S5 o=true/\ob=o/\obA l j=some o)\/(∃ k sz xs,ob=O5 ord k sz xs/\obA l j=some (.cut k sz xs))\/(∃ d ts vs i,ob=.lp d ts (vs.map (IV ord)) i/\obA l j=some (.lp d ts vs i))\/(∃ ka dv ents,ob=.nmp ka (FZ ord dv) (ents.map λ p=>(p.1,IW ord p.2))/\obA l j=some (.nmp ka dv ents)):=by
 intro l;induction l with
 | nil=>intro n j ob h;simp[DK,obA]at h
 | cons x l ih=>
  intro n j ob h;have cons0:∀ (y:Option Ob) (r:List (Option Ob)),obA (y::r) 0=y:=λ y r=>by cases y<;>rfl
  have consS:∀ (y:Option Ob) (r:List (Option Ob)) (i:Nat),obA (y::r) (i+1)=obA r i:=λ y r i=>by simp[obA]
  cases j with
  | zero=>
   cases x with
   | none=>simp only[DK,cons0]at h;cases h
   | some o=>
    cases o with
    | box cells=>simp only[DK,cons0]at h;cases h;exact .inr (.inl ⟨cells,n,rfl,rfl⟩)
    | arr sz es=>simp only[DK,cons0]at h;cases h;exact .inl ⟨sz,es,rfl,rfl⟩
    | narr sz es=>simp only[DK,cons0]at h;cases h;exact .inr (.inr (.inl ⟨sz,es,rfl,rfl⟩))
    | map ka va ents=>simp only[DK,cons0]at h;cases h;exact .inr (.inr (.inr (.inl ⟨_,rfl,rfl,rfl⟩)))
    | iter ka va c l'=>simp only[DK,cons0]at h;cases h;exact .inr (.inr (.inr (.inl ⟨_,rfl,rfl,rfl⟩)))
    | cut k sz xs=>simp only[DK,cons0]at h;cases h;exact .inr (.inr (.inr (.inr (.inl ⟨k,sz,xs,rfl,rfl⟩))))
    | lp d ts vs i=>simp only[DK,cons0]at h;cases h;exact .inr (.inr (.inr (.inr (.inr (.inl ⟨d,ts,vs,i,rfl,rfl⟩)))))
    | nmp ka dv ents=>simp only[DK,cons0]at h;cases h;exact .inr (.inr (.inr (.inr (.inr (.inr ⟨ka,dv,ents,rfl,rfl⟩)))))
  | succ j=>
   cases x with
   | none=>simp only[DK,consS]at h⊢;exact ih n j ob h
   | some o=>
    cases o with
    | box cells=>simp only[DK,consS]at h⊢;exact ih _ j ob h
    | arr sz es=>simp only[DK,consS]at h⊢;exact ih n j ob h
    | narr sz es=>simp only[DK,consS]at h⊢;exact ih n j ob h
    | map ka va ents=>simp only[DK,consS]at h⊢;exact ih n j ob h
    | cut k sz xs=>simp only[DK,consS]at h⊢;exact ih n j ob h
    | lp d ts vs i=>simp only[DK,consS]at h⊢;exact ih n j ob h
    | iter ka va c l'=>simp only[DK,consS]at h⊢;exact ih n j ob h
    | nmp ka dv ents=>simp only[DK,consS]at h⊢;exact ih n j ob h
theorem S6:∀ (ts:List Nat) (vs:List AV) (t:Nat),vs.length=ts.length->lkA (ts.zip vs) t=.top\/∃ (i:Nat) (a:AV),ts[i]?=some t/\vs[i]?=some a/\lkA (ts.zip vs) t=a:=by
 intro ts;induction ts with
 | nil=>intro vs t _;exact .inl rfl
 | cons x ts ih=>
  intro vs t hl;cases vs with
  | nil=>cases hl
  | cons v vs=>
   rw[List.zip_cons_cons,Bi];by_cases h:x=t
   ·subst h;exact .inr ⟨0,v,rfl,rfl,by simp⟩
   ·rw[if_neg h];rcases ih vs t (by simpa using hl)with h'|⟨i,a,h1,h2,h3⟩
    ·exact .inl h'
    ·exact .inr ⟨i+1,a,by simpa using h1,by simpa using h2,h3⟩
theorem I4 {l:List (Option Ob)} {j:Nat} {x:Option Ob} (h:l[j]?=some x):obA l j=x:=by
 unfold obA;rw[h];cases x<;>rfl
theorem UO {ord:List Nat} {h:Array Obj} {L:Loc} {k sz:Nat} {xs:List (Nat×Nat)} (H:Bv F ρ h L (.cut k sz xs)):Bv F (gcR ord ρ) h L (O5 ord k sz xs):=by
 obtain⟨h2,cs,t,fr,h3,h4,h5,h6⟩:=H;unfold O5;split
 ·rename_i j hj;refine⟨h2,cs,t,fr,h3,h4,h5,λ i x hx=>?_⟩;obtain⟨v,hv,hd⟩:=h6 i x hx;have:=Ed (ord:=ord) hd;simp only[FZ,hj]at this;exact⟨v,hv,this⟩
 ·refine⟨λ e he=>?_,by simpa using h2,cs,t,fr,h3,h4,h5,λ i e hi j a ha=>?_⟩
  ·simp only[JlR]at he;obtain⟨_,_,rfl⟩:=he;rfl
  ·simp only[Jl3,Jl2]at hi;obtain⟨x,hx,rfl⟩:=hi;cases j with
   | zero=>
    simp only[JlW,Jl9]at ha;subst ha;obtain⟨v,hv,_⟩:=h6 i x hx;exact⟨v,hv,λ _=>.top _⟩
   | succ j=>simp at ha
theorem ZT {ord:List Nat} {k sz sz':Nat} {xs:List (Nat×Nat)} {es:List (List AV)} (h:O5 ord k sz xs=.narr sz' es) {i m isz:Nat} {e:List AV} {ys:List (List D)} (hi:es[i]?=some e):¬ e[m]?=some (.own isz ys):=by
 unfold O5 at h;split at h
 ·cases h
 ·cases h;simp only[Jl3,Jl2]at hi;obtain⟨x,hx,rfl⟩:=hi;cases m<;>simp
theorem Sj {ord:List Nat} {k sz sz':Nat} {xs:List (Nat×Nat)} {es:List (List AV)} (h:(O5 ord k sz xs).rows=some (sz',es)) {i m isz:Nat} {e:List AV} {ys:List (List D)} (hi:es[i]?=some e):¬ e[m]?=some (.own isz ys):=by
 have:O5 ord k sz xs=.narr sz' es:=by
  unfold O5 at h⊢;split at h
  ·cases h
  ·cases h;rfl
 exact ZT this hi
theorem XA {ord:List Nat} {h:Array Obj} {L:Loc} {ka:Bool} {dv:AV} {ents:List (List D×AV)} (H:Bv F ρ h L (.nmp ka dv ents)):Bv F (gcR ord ρ) h L (.nmp ka (FZ ord dv) (ents.map λ p=>(p.1,IW ord p.2))):=by
 obtain⟨h0,hd,es,clock,h1,hb,h2,h3⟩:=H;refine⟨h0,Ed hd,es,clock,h1,hb,by simpa using h2,λ i p q hp hq=>?_⟩;simp only[Jl3,Jl2]at hp;obtain⟨p',hp',rfl⟩:=hp;obtain⟨g1,g2⟩:=h3 i p' q hp' hq;refine⟨g1,λ ho=>?_⟩;obtain⟨a,x⟩:=p';cases x with
 | own=>cases ho
 | _=>exact Ed (g2 rfl)
attribute [local irreducible] NK
theorem ZU {nt:Slt} {st:St} {a:Act} {nk:Nat} (hnk:nt.nk=nk) (ts:List Nat) (h:Inv N H0 F0 w0 nt st a w):Inv N H0 F0 w0 nt (gcA nk ts st) a w:=by
 obtain⟨F,ρ,hS,hSl,hn,hd⟩:=h;let vs:=ts.map (lkA st.env);let ord:=Mm nk st.objs vs;let p:=D2 ord.length (vs.map (IV ord));let q:=DK ord (ord.length+p.2) (ord.map λ k=>(obA st.objs k));have hgc:gcA nk ts st=⟨ts.zip p.1,q.1++List.replicate (p.2+q.2) (some (.arr 0 []))⟩:=rfl;have hql:q.1.length=ord.length:=by show(DK ord _ _).1.length=_;rw[UM];simp
 have hnd:ord.Nodup:=MX _ _ _;have hR:∀ j L,gcR ord ρ j=some L->∃ k,ord[j]?=some k/\ρ k=some L:=λ j L h=>by
  unfold gcR at h;split at h
  ·rename_i k hk;exact⟨k,hk,h⟩
  ·cases h
 have hob:∀ j L ob,gcR ord ρ j=some L->obA (gcA nk ts st).objs j=some ob->∃ k,ord[j]?=some k/\ρ k=some L/\((∃ sz es,ob=.arr sz es/\obA st.objs k=some (.arr sz es))\/(∃ cells m,ob=.box (D2 m (cells.map (IV ord))).1/\obA st.objs k=some (.box cells))\/(∃ sz es,ob=.narr sz (es.map λ e=>e.map (IW ord))/\obA st.objs k=some (.narr sz es))\/(∃ o,S5 o=true/\ob=o/\obA st.objs k=some o)\/(∃ k' sz xs,ob=O5 ord k' sz xs/\obA st.objs k=some (.cut k' sz xs))\/(∃ d ts' vs' i,ob=.lp d ts' (vs'.map (IV ord)) i/\obA st.objs k=some (.lp d ts' vs' i))\/(∃ ka dv ents,ob=.nmp ka (FZ ord dv) (ents.map λ p=>(p.1,IW ord p.2))/\obA st.objs k=some (.nmp ka dv ents))):=by
  intro j L ob hj ho;obtain⟨k,hk,hL⟩:=hR j L hj;refine⟨k,hk,hL,?_⟩;rw[hgc]at ho;simp only at ho;rw[AM,if_pos (by rw[hql];exact Af hk)]at ho;have hl:∀ ob,obA (ord.map λ k=>(obA st.objs k)) j=some ob->obA st.objs k=some ob:=λ ob h=>by
   have hg:(ord.map λ k=>(obA st.objs k))[j]?=some (obA st.objs k):=by rw[Jl3,hk];rfl
   rwa[I4 hg]at h
  rcases ZS ord _ _ j ob ho with⟨sz,es,h1,h2⟩|⟨cells,m,h1,h2⟩|⟨sz,es,h1,h2⟩|⟨om,hm,h1,h2⟩|⟨kc,sz,xs,h1,h2⟩|⟨dl,ts',vs',i',h1,h2⟩|⟨ka',dv',en',h1,h2⟩
  ·exact .inl ⟨sz,es,h1,hl _ h2⟩
  ·exact .inr (.inl ⟨cells,m,h1,hl _ h2⟩)
  ·exact .inr (.inr (.inl ⟨sz,es,h1,hl _ h2⟩))
  ·exact .inr (.inr (.inr (.inl ⟨om,hm,h1,hl _ h2⟩)))
  ·exact .inr (.inr (.inr (.inr (.inl ⟨kc,sz,xs,h1,hl _ h2⟩))))
  ·exact .inr (.inr (.inr (.inr (.inr (.inl ⟨dl,ts',vs',i',h1,hl _ h2⟩)))))
  ·exact .inr (.inr (.inr (.inr (.inr (.inr ⟨ka',dv',en',h1,hl _ h2⟩)))))
 refine⟨F,gcR ord ρ,?_,?_,hn,hd.1,hd.2.1,λ j L hj=>?_⟩
 rotate_left 2
 ·obtain⟨g1,g2⟩:=hd.2.2 j L hj;refine⟨g1,?_⟩;have:ord[j]?=some j:=Wi (by omega) _ _;unfold gcR;rw[this];exact g2
 ·refine { size:=hS.size,old:=hS.old,f0:=hS.f0,fnew:=hS.fnew,frz:=hS.frz,loc:=λ j L hj=>?_,dom:=λ j L hj=>?_,obj:=λ j L ob hj ho=>?_,sep:=λ j j' L L' ob ob' hj hj' ho ho' hne=>?_,inn:=?_ }
  ·obtain⟨k,_,hL⟩:=hR j L hj;exact hS.loc k L hL
  ·obtain⟨k,hk,_⟩:=hR j L hj;have:=Af hk;rw[hgc];simp only[List.length_append,hql];omega
  ·obtain⟨k,hk,hL,h⟩:=hob j L ob hj ho;rcases h with⟨sz,es,rfl,ho'⟩|⟨cells,m,rfl,ho'⟩|⟨sz,es,rfl,ho'⟩|⟨om,hm,rfl,ho'⟩|⟨kc,sz,xs,rfl,ho'⟩|⟨dl,ts',vs',i',rfl,ho'⟩|⟨ka',dv',en',rfl,ho'⟩
   ·obtain⟨g1,g2,g3⟩:=hS.obj k L _ hL ho';exact⟨g1.arr_any _,g2,g3⟩
   ·obtain⟨⟨p1,p2,cs,t,fr,p3,p4,p5,p6⟩,g2,g3⟩:=hS.obj k L _ hL ho';obtain⟨q1,q2⟩:=OB (F:=F) (ρ:=gcR ord ρ) (cells.map (IV ord)) m;refine⟨⟨p1,by rw[q1,JlU];exact p2,cs,t,fr,p3,p4,p5,λ i a' v ha' hv=>?_⟩,g2,g3⟩;have hi:i<cells.length:=by have:=Af ha';rw[q1,JlU]at this;exact this
    have hci:=JlZ hi;exact q2 i (IV ord cells[i]) a' v (by rw[Jl3,hci];rfl) ha' (F6 (p6 i _ v hci hv))
   ·obtain⟨⟨p1,p2,cs,t,fr,p3,p4,p5,p6⟩,g2,g3⟩:=hS.obj k L _ hL ho';refine⟨⟨λ e he=>?_,by simpa using p2,cs,t,fr,p3,p4,p5,λ i e hi m a ha=>?_⟩,g2,g3⟩
    ·simp only[JlR]at he;obtain⟨e',h1,rfl⟩:=he;simpa using p1 e' h1
    ·simp only[Jl3,Jl2]at hi;obtain⟨e',h1,rfl⟩:=hi;simp only[Jl3,Jl2]at ha;obtain⟨x,h2,rfl⟩:=ha;obtain⟨v,hv,hd⟩:=p6 i e' h1 m x h2;refine⟨v,hv,λ ho=>?_⟩;cases x with
     | own=>cases ho
     | _=>exact Ed (hd rfl)
   ·obtain⟨g1,g2,g3⟩:=hS.obj k L _ hL ho';exact⟨Wj hm g1,g2,g3⟩
   ·obtain⟨g1,g2,g3⟩:=hS.obj k L _ hL ho';exact⟨UO g1,g2,g3⟩
   ·obtain⟨g1,g2,g3⟩:=hS.obj k L _ hL ho';exact⟨V7 (λ _ _ hx=>F6 hx) g1,g2,g3⟩
   ·obtain⟨g1,g2,g3⟩:=hS.obj k L _ hL ho';exact⟨XA g1,g2,g3⟩
  ·obtain⟨k,hk,hL,h⟩:=hob j L ob hj ho;obtain⟨k',hk',hL',h'⟩:=hob j' L' ob' hj' ho';have hkk:k≠k':=λ e=>by
    subst e;have h1:=Af hk;have h2:=Af hk';rw[JlZ h1]at hk;rw[JlZ h2]at hk';exact hne ((List.getElem_inj hnd).1 (by rw[Option.some.inj hk,Option.some.inj hk']))
   have e1:∃ o1,obA st.objs k=some o1:=by rcases h with⟨_,_,_,h⟩|⟨_,_,_,h⟩|⟨_,_,_,h⟩|⟨_,_,_,h⟩|⟨_,_,_,_,h⟩|⟨_,_,_,_,_,h⟩|⟨_,_,_,_,h⟩<;>exact⟨_,h⟩
   have e2:∃ o2,obA st.objs k'=some o2:=by rcases h' with⟨_,_,_,h⟩|⟨_,_,_,h⟩|⟨_,_,_,h⟩|⟨_,_,_,h⟩|⟨_,_,_,_,h⟩|⟨_,_,_,_,_,h⟩|⟨_,_,_,_,h⟩<;>exact⟨_,h⟩
   obtain⟨o1,e1⟩:=e1;obtain⟨o2,e2⟩:=e2;exact hS.sep k k' L L' o1 o2 hL hL' e1 e2 hkk
  ·obtain⟨σ,hσ⟩:=hS.inn;have hget:∀ (j c:Nat) (M:Loc),(match ord[j]? with|some k=>σ k c|none=>none)=some M->∃ k,ord[j]?=some k/\σ k c=some M:=λ j c M h=>by
    split at h
    ·rename_i k hk;exact⟨k,hk,h⟩
    ·cases h
   refine⟨λ (j c:Nat)=>match ord[j]? with|some k=>σ k c|none=>none,λ j c M hM=>?_,λ j c M j' L ob hM hj' ho=>?_,λ j c M j' c' M' hM hM' hne=>?_,λ j L ob0 sz es hj ho hr0 i e m isz xs hi hm o1 v hb hv=>?_⟩
   ·obtain⟨k,_,h⟩:=hget j c M hM;exact hσ.new k c M h
   ·obtain⟨k,_,h⟩:=hget j c M hM;obtain⟨k',hk',hL',h'⟩:=hob j' L ob hj' ho;have e2:∃ o2,obA st.objs k'=some o2:=by rcases h' with⟨_,_,_,h⟩|⟨_,_,_,h⟩|⟨_,_,_,h⟩|⟨_,_,_,h⟩|⟨_,_,_,_,h⟩|⟨_,_,_,_,_,h⟩|⟨_,_,_,_,h⟩<;>exact⟨_,h⟩
    obtain⟨o2,e2⟩:=e2;exact hσ.obj k c M k' L o2 h hL' e2
   ·obtain⟨k,hk,h⟩:=hget j c M hM;obtain⟨k',hk',h'⟩:=hget j' c' M' hM';refine hσ.sep k c M k' c' M' h h' ?_;rcases hne with hne|hne
    ·refine .inl λ e=>?_;subst e;have h1:=Af hk;have h2:=Af hk';rw[JlZ h1]at hk;rw[JlZ h2]at hk';exact hne ((List.getElem_inj hnd).1 (by rw[Option.some.inj hk,Option.some.inj hk']))
    ·exact .inr hne
   ·obtain⟨k,hk,hL,h⟩:=hob j L _ hj ho;rcases h with⟨_,_,h,_⟩|⟨_,_,h,_⟩|⟨sz0,es0,h,ho'⟩|⟨om,hmm,h,_⟩|⟨_,_,_,h,_⟩|⟨_,_,_,_,h,_⟩|⟨ka',dv',en',h,ho'⟩
    ·subst h;cases hr0
    ·subst h;cases hr0
    ·subst h;cases hr0;simp only[Jl3,Jl2]at hi;obtain⟨e',h1,rfl⟩:=hi;simp only[Jl3,Jl2]at hm;obtain⟨x,h2,h3⟩:=hm;have hx:=MY h3;subst hx;simp only[hk];exact hσ.rep k L _ sz es0 hL ho' rfl i e' m isz xs h1 h2 o1 v hb hv
    ·subst h;rw[UN hmm]at hr0;cases hr0
    ·subst h;exact absurd hm (Sj hr0 hi)
    ·subst h;cases hr0
    ·subst h;cases hr0;simp only[List.map_map,Jl3,Jl2,Function.comp]at hi;obtain⟨p,h1,rfl⟩:=hi;cases m with
     | succ m=>simp at hm
     | zero=>
      simp only[JlW,Jl9]at hm;have hx:=MY hm;simp only[hk];exact hσ.rep k L _ 1 _ hL ho' rfl i [p.2] 0 isz xs (by rw[Jl3,h1];rfl) (by rw[hx];rfl) o1 v hb hv
 ·intro t;rw[hgc];obtain⟨q1,q2⟩:=OB (F:=F) (ρ:=gcR ord ρ) (vs.map (IV ord)) ord.length;have hpl:p.1.length=ts.length:=by show(D2 _ _).1.length=_;rw[q1];simp[vs]
  rcases S6 ts p.1 t hpl with h|⟨i,a',h1,h2,h3⟩
  ·simp only[h];exact .top _
  ·simp only[h3];refine q2 i (IV ord (lkA st.env t)) a' _ ?_ h2 (F6 (hSl t));simp only[vs,Jl3,h1,Option.map_some]
end Go.AI
end
section
namespace Go.AI
variable {P:Program} {F F':Nat->Option Obj} {ρ ρ' ρ'':Nat->Option Loc} {N:Nat->Prop} {H0 F0:Nat->Option Obj} {O objs:List (Option Ob)} {w:World} {w0:W0}
def BV (P:Program) (f:FuncId) (args:List AV) (objs:List (Option Ob)) (nb:Nat) (r:AV) (objs1:List (Option Ob)):Prop:=
 (∃ fn c,P.funcs[f]? = some fn/\fn.body=some c/\(fn.name == "runtime.NumGoroutine")=false) /\
 ∀ (N:Nat->Prop) (F:Nat->Option Obj) (ρ:Nat->Option Loc) (w:World) (vs:Array Value),Sim N (λ b=>w.heap[b]?) F F ρ objs w.heap->CR F ρ args vs.toList ->
  Calls P f vs w λ e w'=>∃ v F' ρ',e=.returned v/\Sim N (λ b=>w.heap[b]?) F F' ρ' objs1 w'.heap/\(∀ j,j<nb->∀ L,ρ j=some L->ρ' j=some L)/\Ak F' ρ' r v/\Mu w w'
def HY (P:Program) (f:FuncId) (args:List AV) (objs:List (Option Ob)) (nb:Nat) (R:AV->List (Option Ob)->Prop):Prop:=
 (∃ fn c,P.funcs[f]? = some fn/\fn.body=some c/\(fn.name == "runtime.NumGoroutine")=false) /\
 ∀ (N:Nat->Prop) (F:Nat->Option Obj) (ρ:Nat->Option Loc) (w:World) (vs:Array Value),Sim N (λ b=>w.heap[b]?) F F ρ objs w.heap->CR F ρ args vs.toList ->
  Calls P f vs w λ e w'=>∃ v F' ρ' r objs1,R r objs1/\e=.returned v/\Sim N (λ b=>w.heap[b]?) F F' ρ' objs1 w'.heap/\(∀ j,j<nb->∀ L,ρ j=some L->ρ' j=some L)/\Ak F' ρ' r v/\Mu w w'
theorem BV.S {f:FuncId} {args:List AV} {objs:List (Option Ob)} {nb:Nat} {r:AV} {objs1:List (Option Ob)} (h:BV P f args objs nb r objs1):HY P f args objs nb (λ r' O'=>r'=r/\O'=objs1):=
 ⟨h.1,λ N F ρ w vs hS hc=>(h.2 N F ρ w vs hS hc).mono λ e w' he=>by obtain⟨v,F',ρ',h1,h2,h3,h4,h5⟩:=he;exact⟨v,F',ρ',r,objs1,⟨rfl,rfl⟩,h1,h2,h3,h4,h5⟩⟩
theorem Ee {π:Nat->Nat} (hπ:∀ j L,ρ' j=some L->ρ'' (π j)=some L) {a:AV} {v:Value} (h:Ak F ρ' a v):Ak F ρ'' (Ha π a) v:=by
 cases h with
 | d x v h=>exact .d _ _ h
 | ptr k off L hL=>exact .ptr _ _ L (hπ _ _ hL)
 | eptr k sz i off L hL=>exact .eptr _ _ _ _ L (hπ _ _ hL)
 | dptr e off b o cs t fr g h1 h2 h3=>exact .dptr e off b o cs t fr g h1 h2 h3
 | osl k sz lo n cap L hL h1 h2 h3=>exact .osl _ _ _ _ cap L (hπ _ _ hL) h1 h2 h3
 | osl0 k sz lo a=>exact .osl0 _ _ _ _
 | bsl k off sz n cap L hL h1=>exact .bsl _ _ _ _ cap L (hπ _ _ hL) h1
 | mp k L hL=>exact .mp _ L (hπ _ _ hL)
 | yld k L hL=>exact .yld _ L (hπ _ _ hL)
 | _=>exact .top _
theorem I5 {π:Nat->Nat} (hπ:∀ j L,ρ' j=some L->ρ'' (π j)=some L) {a:AV} {v:Value} (h:Ak F ρ' a v):Ak F ρ'' (ZH π a) v:=by
 have many:∀ {l:List AV} {vs:Array Value},l.length=vs.size->(∀ (i:Nat) (a:AV) (v:Value),l[i]?=some a->vs[i]?=some v->Ak F ρ' a v)->(l.map (Ha π)).length=vs.size/\∀ (i:Nat) (a:AV) (v:Value),(l.map (Ha π))[i]?=some a->vs[i]?=some v->Ak F ρ'' a v:=λ hl hr=>by
  refine⟨by simpa using hl,λ i a v ha hv=>?_⟩;simp only[Jl3,Jl2]at ha;obtain⟨x,hx,rfl⟩:=ha;exact Ee hπ (hr i x v hx hv)
 cases a with
 | agg l=>cases h with|agg _ vs hl hr=>exact .agg _ vs (many hl hr).1 (many hl hr).2
 | clo f l=>cases h with|clo _ _ vs hl hr=>exact .clo f _ vs (many hl hr).1 (many hl hr).2
 | ifc t v=>cases h with|ifc _ _ x hx=>exact .ifc t _ x (Ee hπ hx)
 | _=>exact Ee hπ h
theorem Mp {π:Nat->Nat} (hπ:∀ j L,ρ' j=some L->ρ'' (π j)=some L) {a:AV} {v:Value} (h:Ak F ρ' a v):Ak F ρ'' (MN π a) v:=by
 cases a with
 | tup l=>
  cases h with
  | tup _ vs hl hv=>
   refine .tup _ vs (by simpa using hl) λ i a v ha hv'=>?_;simp only[Jl3,Jl2]at ha;obtain⟨x,hx,rfl⟩:=ha;exact I5 hπ (hv i x v hx hv')
 | _=>exact I5 hπ h
theorem Sk {π:Nat->Nat} {a:AV} {isz:Nat} {xs:List (List D)} (h:Ha π a=.own isz xs):a=.own isz xs:=by
 cases a<;>simp[Ha]at h;exact by rw[h.1,h.2]
theorem OD (π:Nat->Nat) (a:AV):JE (Ha π a)=JE a:=by cases a<;>rfl
theorem ZV {π:Nat->Nat} (hπ:∀ j L,ρ' j=some L->ρ'' (π j)=some L) {h:Array Obj} {L:Loc} {ob:Ob} (H:Bv F ρ' h L ob):Bv F ρ'' h L (Ye π ob):=by
 cases ob with
 | box cells=>
  obtain⟨p1,p2,cs,t,fr,p3,p4,p5,p6⟩:=H;refine⟨p1,by simpa using p2,cs,t,fr,p3,p4,p5,λ i a v ha hv=>?_⟩;simp only[Jl3,Jl2]at ha;obtain⟨x,hx,rfl⟩:=ha;exact I5 hπ (p6 i x v hx hv)
 | arr sz es=>exact H
 | narr sz es=>
  obtain⟨p1,p2,cs,t,fr,p3,p4,p5,p6⟩:=H;refine⟨λ e he=>?_,by simpa using p2,cs,t,fr,p3,p4,p5,λ i e hi j a ha=>?_⟩
  ·simp only[JlR]at he;obtain⟨e',h1,rfl⟩:=he;simpa using p1 e' h1
  ·simp only[Jl3,Jl2]at hi;obtain⟨e',h1,rfl⟩:=hi;simp only[Jl3,Jl2]at ha;obtain⟨x,h2,rfl⟩:=ha;obtain⟨v,hv,hd⟩:=p6 i e' h1 j x h2;exact⟨v,hv,λ ho=>Ee hπ (hd (by rw[OD]at ho;exact ho))⟩
 | cut k sz xs=>
  obtain⟨h2,cs,t,fr,h3,h4,h5,h6⟩:=H;refine⟨h2,cs,t,fr,h3,h4,h5,λ i x hx=>?_⟩;obtain⟨v,hv,hd⟩:=h6 i x hx;exact⟨v,hv,Ee hπ hd⟩
 | lp d ts vs j=>exact V7 (λ _ _ hx=>I5 hπ hx) H
 | map ka va ents=>exact H
 | iter ka va c l=>exact H
 | nmp ka dv ents=>
  obtain⟨h0,hd,es,clock,h1,hb,h2,h3⟩:=H;refine⟨h0,Ee hπ hd,es,clock,h1,hb,by simpa using h2,λ i p q hp hq=>?_⟩;simp only[Jl3,Jl2]at hp;obtain⟨p',hp',rfl⟩:=hp;obtain⟨g1,g2⟩:=h3 i p' q hp' hq;exact⟨g1,λ ho=>Ee hπ (g2 (by rw[OD]at ho;exact ho))⟩
theorem ZW {ord:List Nat} {h:Array Obj} {L:Loc} {ob:Ob} (H:Bv F ρ h L ob):Bv F (gcR ord ρ) h L (ZI ord ob):=by
 cases ob with
 | box cells=>
  obtain⟨p1,p2,cs,t,fr,p3,p4,p5,p6⟩:=H;refine⟨p1,by simpa using p2,cs,t,fr,p3,p4,p5,λ i a v ha hv=>?_⟩;simp only[Jl3,Jl2]at ha;obtain⟨x,hx,rfl⟩:=ha;exact F6 (p6 i x v hx hv)
 | arr sz es=>exact H
 | narr sz es=>
  obtain⟨p1,p2,cs,t,fr,p3,p4,p5,p6⟩:=H;refine⟨λ e he=>?_,by simpa using p2,cs,t,fr,p3,p4,p5,λ i e hi j a ha=>?_⟩
  ·simp only[JlR]at he;obtain⟨e',h1,rfl⟩:=he;simpa using p1 e' h1
  ·simp only[Jl3,Jl2]at hi;obtain⟨e',h1,rfl⟩:=hi;simp only[Jl3,Jl2]at ha;obtain⟨x,h2,rfl⟩:=ha;obtain⟨v,hv,hd⟩:=p6 i e' h1 j x h2;refine⟨v,hv,λ ho=>?_⟩;cases x with
   | own=>cases ho
   | _=>exact Ed (hd rfl)
 | cut k sz xs=>exact UO H
 | lp d ts vs j=>exact V7 (λ _ _ hx=>F6 hx) H
 | map ka va ents=>exact H
 | iter ka va c l=>exact H
 | nmp ka dv ents=>exact XA H
theorem Mq {ord:List Nat} {a:AV} {v:Value} (h:Ak F ρ a v):Ak F (gcR ord ρ) (IX ord a) v:=F6 h
theorem Iq {ord:List Nat} {j:Nat} {ob:Ob} (h:obA (Fw O ord) j=some ob):∃ k ob0,ord[j]?=some k/\obA O k=some ob0/\ob=ZI ord ob0:=by
 unfold Fw at h;cases hk:ord[j]? with
 | none=>
  have:=A6 h;simp only[JlU]at this;rw[JlZ this]at hk;cases hk
 | some k=>
  have hg:(ord.map λ k=>(obA O k).map (ZI ord))[j]?=some ((obA O k).map (ZI ord)):=by rw[Jl3,hk];rfl
  rw[I4 hg,Jl2]at h;obtain⟨ob0,h1,h2⟩:=h;exact⟨k,ob0,rfl,h1,h2.symm⟩
theorem Lh {ord:List Nat} (hnd:ord.Nodup) {i j k:Nat} (hi:ord[i]?=some k) (hj:ord[j]?=some k):i=j:=by
 have h1:=Af hi;have h2:=Af hj;rw[JlZ h1]at hi;rw[JlZ h2]at hj;exact(List.getElem_inj hnd).1 (by rw[Option.some.inj hi,Option.some.inj hj])
def LN (N:Nat->Prop) (F:Nat->Option Obj) (ρ:Nat->Option Loc) (O:List (Option Ob)) (σ:Nat->Nat->Option Loc) (ord:List Nat) (h:Array Obj) (b:Nat):Prop:=
 h.size<=b\/(N b/\F b=none/\(∀ k L ob,k ∉ ord->ρ k=some L->obA O k=some ob->L.b≠b)/\∀ k c M,k ∉ ord->σ k c=some M->M.b≠b)
theorem I6 {ord:List Nat} {j:Nat} {L:Loc} (h:gcR ord ρ j=some L):∃ k,ord[j]?=some k/\ρ k=some L:=by
 unfold gcR at h;split at h
 ·rename_i k hk;exact⟨k,hk,h⟩
 ·cases h
theorem Sim.lend {h:Array Obj} (hS:Sim N H0 F0 F ρ O h) {σ:Nat->Nat->Option Loc} (hσ:Inn N F ρ O h σ) {ord:List Nat} (hnd:ord.Nodup):Sim (LN N F ρ O σ ord h) (λ b=>h[b]?) F F (gcR ord ρ) (Fw O ord) h:=by
 have hmem:∀ {j k:Nat},ord[j]?=some k->k∈ord:=λ h=>Jl1 h;refine { size:=λ b hb=>.inl hb,old:=λ b _=>rfl,f0:=FLe.refl _,fnew:=λ b o hb _=>hb,frz:=hS.frz,loc:=λ j L hj=>?_,dom:=λ j L hj=>?_,obj:=λ j L ob hj ho=>?_,sep:=λ j j' L L' ob ob' hj hj' ho ho' hne=>?_,inn:=?_ }
 ·obtain⟨k,_,hL⟩:=I6 hj;exact hS.loc k L hL
 ·obtain⟨k,hk,_⟩:=I6 hj;simpa [Fw]using Af hk
 ·obtain⟨k,hk,hL⟩:=I6 hj;obtain⟨k',ob0,hk',h1,rfl⟩:=Iq ho;rw[hk]at hk';cases hk';obtain⟨g1,g2,g3⟩:=hS.obj k L ob0 hL h1;refine⟨ZW g1,.inr ⟨g2,g3,λ q L' ob' hq hL' ho' e=>?_,λ q c M hq hM e=>?_⟩,g3⟩
  ·exact hS.sep q k L' L ob' ob0 hL' hL ho' h1 (λ e=>hq (e▸hmem hk)) e
  ·exact hσ.obj q c M k L ob0 hM hL h1 e.symm
 ·obtain⟨k,hk,hL⟩:=I6 hj;obtain⟨k1,ob0,hk1,h1,rfl⟩:=Iq ho;rw[hk]at hk1;cases hk1;obtain⟨k',hk',hL'⟩:=I6 hj';obtain⟨k2,ob0',hk2,h1',rfl⟩:=Iq ho';rw[hk']at hk2;cases hk2;exact hS.sep k k' L L' ob0 ob0' hL hL' h1 h1' λ e=>hne (Lh hnd hk (by rw[e];exact hk'))
 ·have hget:∀ (j c:Nat) (M:Loc),(match ord[j]? with|some k=>σ k c|none=>none)=some M->∃ k,ord[j]?=some k/\σ k c=some M:=λ j c M h=>by
   split at h
   ·rename_i k hk;exact⟨k,hk,h⟩
   ·cases h
  refine⟨λ (j c:Nat)=>match ord[j]? with|some k=>σ k c|none=>none,λ j c M hM=>?_,λ j c M j' L ob hM hj' ho=>?_,λ j c M j' c' M' hM hM' hne=>?_,λ j L ob0 sz es hj ho hr0 i e m isz xs hi hm o1 v hb hv=>?_⟩
  ·obtain⟨k,hk,h⟩:=hget j c M hM;obtain⟨g1,g2,g3⟩:=hσ.new k c M h;refine⟨.inr ⟨g1,g3,λ q L' ob' hq hL' ho' e=>?_,λ q c' M' hq hM' e=>?_⟩,g2,g3⟩
   ·exact hσ.obj k c M q L' ob' h hL' ho' e
   ·exact hσ.sep q c' M' k c M hM' h (.inl λ e=>hq (e▸hmem hk)) e
  ·obtain⟨k,hk,h⟩:=hget j c M hM;obtain⟨k',hk',hL'⟩:=I6 hj';obtain⟨k2,ob0',hk2,h1',rfl⟩:=Iq ho;rw[hk']at hk2;cases hk2;exact hσ.obj k c M k' L ob0' h hL' h1'
  ·obtain⟨k,hk,h⟩:=hget j c M hM;obtain⟨k',hk',h'⟩:=hget j' c' M' hM';exact hσ.sep k c M k' c' M' h h' (hne.imp (λ hj e=>hj (Lh hnd hk (by rw[e];exact hk'))) id)
  ·obtain⟨k,hk,hL⟩:=I6 hj;obtain⟨k1,ob0,hk1,h1,h2⟩:=Iq ho;rw[hk]at hk1;cases hk1;subst h2;cases ob0 with
   | narr sz0 es0=>
    cases hr0;simp only[Jl3,Jl2]at hi;obtain⟨e',h3,rfl⟩:=hi;simp only[Jl3,Jl2]at hm;obtain⟨x,h4,h5⟩:=hm;have hx:=MY h5;subst hx;simp only[hk];exact hσ.rep k L _ sz es0 hL h1 rfl i e' m isz xs h3 h4 o1 v hb hv
   | cut k0 sz0 xs0=>
    have hr1:(O5 ord k0 sz0 xs0).rows=some (sz,es):=hr0;exact absurd hm (Sj hr1 hi)
   | nmp ka dv en=>
    cases hr0;simp only[List.map_map,Jl3,Jl2,Function.comp]at hi;obtain⟨p,h3,rfl⟩:=hi;cases m with
    | succ m=>simp at hm
    | zero=>
     simp only[JlW,Jl9]at hm;have hx:=MY hm;simp only[hk];exact hσ.rep k L _ 1 _ hL h1 rfl i [p.2] 0 isz xs (by rw[Jl3,h3];rfl) (by rw[hx];rfl) o1 v hb hv
   | _=>cases hr0
theorem LT:∀ (l:List (Nat×Option Ob)) (O:List (Option Ob)),(NL O l).length=O.length:=by
 intro l;induction l with
 | nil=>intro O;rfl
 | cons p l ih=>intro O;obtain⟨k,o⟩:=p;simp[NL,ih]
theorem Wk:∀ (l:List (Nat×Option Ob)) (O:List (Option Ob)) (k:Nat),(l.map Prod.fst).Nodup->obA (NL O l) k=match l.find? (λ p=>p.1==k)with
  | some p=>if k<O.length then p.2 else none
  | none=>obA O k:=by
 intro l;induction l with
 | nil=>intro O k _;rfl
 | cons p l ih=>
  intro O k hnd;obtain⟨q,o⟩:=p;simp only[JlV,List.nodup_cons]at hnd;simp only[NL];rw[ih _ _ hnd.2,List.find?_cons];by_cases e:q=k
  ·subst e;simp only[beq_self_eq_true];have:l.find? (λ p=>p.1==q)=none:=by
    rw[List.find?_eq_none];intro x hx hq;exact hnd.1 (JlR.2 ⟨x,hx,by simpa using hq⟩)
   rw[this];simp only;rw[BT];by_cases hl:q<O.length
   ·rw[if_pos ⟨rfl,hl⟩,if_pos hl]
   ·rw[if_neg (λ h=>hl h.2),if_neg hl];cases ho:obA O q with
    | none=>rfl
    | some ob=>exact absurd (A6 ho) hl
  ·have e':(q==k)=false:=by simpa using e
   rw[e'];simp only;split
   ·simp
   ·rw[BT,if_neg (λ h=>e h.1.symm)]
theorem Yv {ord:List Nat} {nb:Nat} {O1:List (Option Ob)} (hnd:ord.Nodup) (hnb:nb<=ord.length) (hnb1:nb<=O1.length) {k:Nat} {ob:Ob} (h:obA (Dk O ord nb O1) k=some ob) :
  (k<O.length/\k ∉ ord/\obA O k=some ob)\/∃ j ob1,obA O1 j=some ob1/\ob=Ye (D1 ord O.length nb) ob1/\((j<nb/\ord[j]?=some k/\k<O.length)\/(nb<=j/\k=O.length+(j-nb))):=by
 unfold Dk at h;generalize hπ:D1 ord O.length nb=π at h;rw[AM,LT,BL]at h;by_cases hk:k<O.length
 ·rw[if_pos hk]at h;have hz:((ord.take nb).zip ((O1.take nb).map λ o=>o.map (Ye π))).map Prod.fst=ord.take nb:=by
   rw[List.map_fst_zip];simp;omega
  rw[Wk _ _ _ (by rw[hz];exact(List.take_sublist _ _).nodup hnd)]at h;split at h
  ·rename_i p hp;rw[BL,if_pos hk]at h;have hpm:=List.mem_of_find?_eq_some hp;have hpk:=List.find?_some hp;simp only[beq_iff_eq]at hpk;obtain⟨j,hj⟩:=List.getElem?_of_mem hpm;rw[List.getElem?_zip_eq_some]at hj;obtain⟨h1,h2⟩:=hj;have hjn:j<nb:=by have:=Af h1;simp at this;omega
   rw[Jmj hjn]at h1;rw[Jl3,Jmj hjn,Jl2]at h2;obtain⟨o1,h3,h4⟩:=h2;rw[← h4,Jl2]at h;obtain⟨ob1,h5,h6⟩:=h;refine .inr ⟨j,ob1,by rw[I4 h3];exact h5,h6.symm,.inl ⟨hjn,by rw[← hpk];exact h1,hk⟩⟩
  ·rename_i hnone;rw[DW]at h;split at h
   ·cases h
   ·rename_i hno;exact .inl ⟨hk,hno,h⟩
 ·rw[if_neg hk]at h;unfold obA at h;rw[Jl3,JlS]at h;cases ho:O1[nb+(k-O.length)]? with
  | none=>rw[ho]at h;cases h
  | some o1=>
   rw[ho]at h;cases o1 with
   | none=>cases h
   | some ob1=>
    simp only[Option.map_some,Jl9]at h;exact .inr ⟨nb+(k-O.length),ob1,I4 ho,h.symm,.inr ⟨by omega,by omega⟩⟩
theorem S7 {ord:List Nat} {nb:Nat} {O1:List (Option Ob)}:(Dk O ord nb O1).length=O.length+(O1.length-nb):=by
 unfold Dk;simp[LT,BL]
noncomputable def HZ (ord:List Nat) (n nb:Nat) (ρ ρ':Nat->Option Loc):Nat->Option Loc:=λ k=>
 if n<=k then ρ' (nb+(k-n))else @dite _ (∃ j,j<nb/\ord[j]?=some k) (Classical.propDecidable _) (λ h=>ρ' (Classical.choose h)) λ _=>ρ k
theorem Sim.back {h h':Array Obj} (hS:Sim N H0 F0 F ρ O h) {σ:Nat->Nat->Option Loc} (hσ:Inn N F ρ O h σ) {ord:List Nat} (hnd:ord.Nodup) (hord:∀ k∈ord,k<O.length) {O1:List (Option Ob)} {nb:Nat}
  (hS':Sim (LN N F ρ O σ ord h) (λ b=>h[b]?) F F' ρ' O1 h') (hsz:h.size<=h'.size) (hnb:nb<=ord.length) (hnb1:nb<=O1.length) (hkeep:∀ j,j<nb->∀ L,gcR ord ρ j=some L->ρ' j=some L) :
  RLe ρ (HZ ord O.length nb ρ ρ')/\(∀ j L,ρ' j=some L->HZ ord O.length nb ρ ρ' (D1 ord O.length nb j)=some L)/\Sim N H0 F0 F' (HZ ord O.length nb ρ ρ') (Dk O ord nb O1) h':=by
 have hold:∀ k,k<O.length->(∀ j,j<nb->ord[j]? ≠ some k)->HZ ord O.length nb ρ ρ' k=ρ k:=λ k hk hn=>by
  unfold HZ;rw[if_neg (by omega),dif_neg];rintro⟨j,h1,h2⟩;exact hn j h1 h2
 have hkp:∀ j k,j<nb->ord[j]?=some k->k<O.length->HZ ord O.length nb ρ ρ' k=ρ' j:=λ j k hj hk hkl=>by
  have hex:∃ j,j<nb/\ord[j]?=some k:=⟨j,hj,hk⟩;unfold HZ;rw[if_neg (by omega),dif_pos hex];have:=Classical.choose_spec hex;rw[Lh hnd this.2 hk]
 have hnew:∀ j,nb<=j->HZ ord O.length nb ρ ρ' (O.length+(j-nb))=ρ' j:=λ j hj=>by
  unfold HZ;rw[if_pos (by omega)];congr 1;omega
 have hle:RLe ρ (HZ ord O.length nb ρ ρ'):=λ k L hk=>by
  have hkl:=hS.dom k L hk;by_cases hex:∃ j,j<nb/\ord[j]?=some k
  ·obtain⟨j,hj,hjk⟩:=hex;rw[hkp j k hj hjk hkl];refine hkeep j hj L ?_;unfold gcR;rw[hjk];exact hk
  ·rw[hold k hkl λ j hj hjk=>hex ⟨j,hj,hjk⟩];exact hk
 have hπ:∀ j L,ρ' j=some L->HZ ord O.length nb ρ ρ' (D1 ord O.length nb j)=some L:=λ j L hj=>by
  unfold D1;by_cases hjn:j<nb
  ·rw[decide_eq_true hjn,cond_true];have hjl:j<ord.length:=by omega
   have hk:ord[j]?=some ord[j]:=JlZ hjl;rw[List.getD_eq_getElem?_getD,hk,JlK,hkp j _ hjn hk (hord _ (JlL hjl))];exact hj
  ·rw[decide_eq_false hjn,cond_false,hnew j (by omega)];exact hj
 have nLN:∀ k L ob,k ∉ ord->ρ k=some L->obA O k=some ob->¬LN N F ρ O σ ord h L.b:=λ k L ob hk hL ho hx=>by
  rcases hx with hx|hx
  ·have:=hS.loc k L hL;omega
  ·exact hx.2.2.1 k L ob hk hL ho rfl
 have nLM:∀ k c M,k ∉ ord->σ k c=some M->¬LN N F ρ O σ ord h M.b:=λ k c M hk hM hx=>by
  rcases hx with hx|hx
  ·have:=(hσ.new k c M hM).2.1;omega
  ·exact hx.2.2.2 k c M hk hM rfl
 have toN:∀ b,LN N F ρ O σ ord h b->N b:=λ b hb=>by
  rcases hb with hb|hb
  ·exact hS.size b hb
  ·exact hb.1
 have nF':∀ b,¬LN N F ρ O σ ord h b->F b=none->F' b=none:=λ b hb hf=>by
  cases hx:F' b with
  | none=>rfl
  | some o=>rw[hS'.fnew b o hx hb]at hf;cases hf
 have back:∀ k L ob,HZ ord O.length nb ρ ρ' k=some L->obA (Dk O ord nb O1) k=some ob ->
   (k<O.length/\k ∉ ord/\ρ k=some L/\obA O k=some ob)\/∃ j ob1,ρ' j=some L/\obA O1 j=some ob1/\ob=Ye (D1 ord O.length nb) ob1/\((j<nb/\ord[j]?=some k/\k<O.length)\/(nb<=j/\k=O.length+(j-nb))):=by
  intro k L ob hk ho;rcases Yv hnd hnb hnb1 ho with⟨h1,h2,h3⟩|⟨j,ob1,h1,h2,h3⟩
  ·exact .inl ⟨h1,h2,by rw[hold k h1 λ j _ hjk=>h2 (Jl1 hjk)]at hk;exact hk,h3⟩
  ·refine .inr ⟨j,ob1,?_,h1,h2,h3⟩;rcases h3 with⟨a1,a2,a3⟩|⟨a1,a2⟩
   ·rw[hkp j k a1 a2 a3]at hk;exact hk
   ·rw[a2,hnew j a1]at hk;exact hk
 have uniq:∀ {k j k' j':Nat},((j<nb/\ord[j]?=some k/\k<O.length)\/(nb<=j/\k=O.length+(j-nb)))->((j'<nb/\ord[j']?=some k'/\k'<O.length)\/(nb<=j'/\k'=O.length+(j'-nb)))->(j=j'->k=k'):=by
  intro k j k' j' h1 h2 e;subst e;rcases h1 with⟨a1,a2,a3⟩|⟨a1,a2⟩<;>rcases h2 with⟨b1,b2,b3⟩|⟨b1,b2⟩
  ·rw[a2]at b2;cases b2;rfl
  ·omega
  ·omega
  ·omega
 have uniq':∀ {k j j':Nat},((j<nb/\ord[j]?=some k/\k<O.length)\/(nb<=j/\k=O.length+(j-nb)))->((j'<nb/\ord[j']?=some k/\k<O.length)\/(nb<=j'/\k=O.length+(j'-nb)))->j=j':=by
  intro k j j' h1 h2;rcases h1 with⟨a1,a2,a3⟩|⟨a1,a2⟩<;>rcases h2 with⟨b1,b2,b3⟩|⟨b1,b2⟩
  ·exact Lh hnd a2 b2
  ·omega
  ·omega
  ·omega
 have notin:∀ {k j:Nat},((j<nb/\ord[j]?=some k/\k<O.length)\/(nb<=j/\k=O.length+(j-nb)))->¬(k<O.length/\k ∉ ord):=by
  intro k j h1 hh;rcases h1 with⟨a1,a2,a3⟩|⟨a1,a2⟩
  ·exact hh.2 (Jl1 a2)
  ·omega
 refine⟨hle,hπ,{ size:=λ b hb=>hS.size b (by omega),old:=λ b hb=>?_,f0:=hS.f0.trans hS'.f0,fnew:=λ b o hb hN=>?_,frz:=hS'.frz,loc:=λ k L hk=>?_,dom:=λ k L hk=>?_,obj:=λ k L ob hk ho=>?_,sep:=λ k k' L L' ob ob' hk hk' ho ho' hne=>?_,inn:=?_ }⟩
 ·rw[hS'.old b (λ hx=>hb (toN b hx))];exact hS.old b hb
 ·exact hS.fnew b o (hS'.fnew b o hb (λ hx=>hN (toN b hx))) hN
 ·unfold HZ at hk;split at hk
  ·exact hS'.loc _ L hk
  ·split at hk
   ·exact hS'.loc _ L hk
   ·exact Nat.lt_of_lt_of_le (hS.loc k L hk) hsz
 ·rw[S7];unfold HZ at hk;split at hk
  ·have:=hS'.dom _ L hk;omega
  ·split at hk
   ·rename_i hex;have:=hord k (Jl1 (Classical.choose_spec hex).2);omega
   ·have:=hS.dom k L hk;omega
 ·rcases back k L ob hk ho with⟨h1,h2,h3,h4⟩|⟨j,ob1,h1,h2,rfl,h3⟩
  ·obtain⟨g1,g2,g3⟩:=hS.obj k L ob h3 h4;have hn:=nLN k L ob h2 h3 h4;exact⟨g1.mono hS'.f0 hle (hS'.old _ hn),g2,nF' _ hn g3⟩
  ·obtain⟨g1,g2,g3⟩:=hS'.obj j L ob1 h1 h2;exact⟨ZV hπ g1,toN _ g2,g3⟩
 ·rcases back k L ob hk ho with⟨h1,h2,h3,h4⟩|⟨j,ob1,h1,h2,rfl,h3⟩<;>rcases back k' L' ob' hk' ho' with⟨h1',h2',h3',h4'⟩|⟨j',ob1',h1',h2',rfl,h3'⟩
  ·exact hS.sep k k' L L' ob ob' h3 h3' h4 h4' hne
  ·have hn:=nLN k L ob h2 h3 h4;have:=(hS'.obj j' L' ob1' h1' h2').2.1;exact λ e=>hn (by rw[e];exact this)
  ·have hn:=nLN k' L' ob' h2' h3' h4';have:=(hS'.obj j L ob1 h1 h2).2.1;exact λ e=>hn (by rw[← e];exact this)
  ·exact hS'.sep j j' L L' ob1 ob1' h1 h1' h2 h2' λ e=>hne (uniq h3 h3' e)
 ·obtain⟨σ',hσ'⟩:=hS'.inn;let inv:Nat->Option Nat:=λ k=>if O.length<=k then some (nb+(k-O.length))else match Hz ord k 0 with|some j=>if j<nb then some j else none|none=>none
  let τ:Nat->Nat->Option Loc:=λ k c=>if k<O.length/\k ∉ ord then σ k c else match inv k with|some j=>σ' j c|none=>none
  have hinv:∀ k j,inv k=some j->((j<nb/\ord[j]?=some k)\/(nb<=j/\k=O.length+(j-nb))):=λ k j hj=>by
   simp only[inv]at hj;split at hj
   ·cases hj;right;omega
   ·split at hj
    ·rename_i j' hj';split at hj
     ·cases hj;rename_i hlt;exact .inl ⟨hlt,by have:=(Oz ord k 0 _ hj').2;simpa using this⟩
     ·cases hj
    ·cases hj
  have hτ:∀ k c M,τ k c=some M->((k<O.length/\k ∉ ord)/\σ k c=some M)\/(¬(k<O.length/\k ∉ ord)/\∃ j,((j<nb/\ord[j]?=some k)\/(nb<=j/\k=O.length+(j-nb)))/\σ' j c=some M):=λ k c M h=>by
   simp only[τ]at h;split at h
   ·rename_i hk;exact .inl ⟨hk,h⟩
   ·rename_i hk;split at h
    ·rename_i j hj;exact .inr ⟨hk,j,hinv k j hj,h⟩
    ·cases h
  have hweak:∀ {k j:Nat},((j<nb/\ord[j]?=some k/\k<O.length)\/(nb<=j/\k=O.length+(j-nb)))->((j<nb/\ord[j]?=some k)\/(nb<=j/\k=O.length+(j-nb))):=λ h=>h.imp (λ h=>⟨h.1,h.2.1⟩) id;have hstr:∀ {k j:Nat},((j<nb/\ord[j]?=some k)\/(nb<=j/\k=O.length+(j-nb)))->((j<nb/\ord[j]?=some k/\k<O.length)\/(nb<=j/\k=O.length+(j-nb))):=λ h=>h.imp (λ h=>⟨h.1,h.2,hord _ (Jl1 h.2)⟩) id;have hinv':∀ {k j:Nat},((j<nb/\ord[j]?=some k/\k<O.length)\/(nb<=j/\k=O.length+(j-nb)))->inv k=some j:=λ {k j} h=>by
   simp only[inv];rcases h with⟨a1,a2,a3⟩|⟨a1,a2⟩
   ·rw[if_neg (by omega)];have hi:Hz ord k 0=some j:=by
     have:∀ (l:List Nat) (i j:Nat),l.Nodup->l[j]?=some k->Hz l k i=some (i+j):=by
      intro l;induction l with
      | nil=>intro i j _ h;simp at h
      | cons x l ih=>
       intro i j hn hj;simp only[Hz];rw[List.nodup_cons]at hn;cases j with
       | zero=>simp at hj;subst hj;simp
       | succ j=>
        have hxk:x≠k:=λ e=>hn.1 (by rw[e];exact Jl1 (by simpa using hj));have hb:Nat.beq x k=false:=by
         cases hb:Nat.beq x k with
         | false=>rfl
         | true=>exact absurd (Jl6 hb) hxk
        rw[hb,cond_false,ih (i+1) j hn.2 (by simpa using hj)];congr 1;omega
     have:=this ord 0 j hnd a2;simpa using this
    rw[hi];simp only;rw[if_pos a1]
   ·rw[if_pos (by omega)];congr 1;omega
  refine⟨τ,λ k c M hM=>?_,λ k c M k' L ob hM hk' ho=>?_,λ k c M k' c' M' hM hM' hne=>?_,λ k L ob0 sz es hk ho hr0 i e m isz xs hi hm o1 v hb hv=>?_⟩
  ·rcases hτ k c M hM with⟨⟨h1,h2⟩,h3⟩|⟨_,j,h1,h2⟩
   ·obtain⟨g1,g2,g3⟩:=hσ.new k c M h3;exact⟨g1,by omega,nF' _ (nLM k c M h2 h3) g3⟩
   ·obtain⟨g1,g2,g3⟩:=hσ'.new j c M h2;exact⟨toN _ g1,g2,g3⟩
  ·rcases hτ k c M hM with⟨⟨h1,h2⟩,h3⟩|⟨_,j,h1,h2⟩<;>rcases back k' L ob hk' ho with⟨h1',h2',h3',h4'⟩|⟨j',ob1',h1',h2',rfl,h3'⟩
   ·exact hσ.obj k c M k' L ob h3 h3' h4'
   ·have hn:=nLM k c M h2 h3;have:=(hS'.obj j' L ob1' h1' h2').2.1;exact λ e=>hn (by rw[← e];exact this)
   ·have hn:=nLN k' L ob h2' h3' h4';have:=(hσ'.new j c M h2).1;exact λ e=>hn (by rw[e];exact this)
   ·exact hσ'.obj j c M j' L ob1' h2 h1' h2'
  ·rcases hτ k c M hM with⟨⟨h1,h2⟩,h3⟩|⟨hk,j,h1,h2⟩<;>rcases hτ k' c' M' hM' with⟨⟨h1',h2'⟩,h3'⟩|⟨hk',j',h1',h2'⟩
   ·exact hσ.sep k c M k' c' M' h3 h3' hne
   ·have hn:=nLM k c M h2 h3;have:=(hσ'.new j' c' M' h2').1;exact λ e=>hn (by rw[e];exact this)
   ·have hn:=nLM k' c' M' h2' h3';have:=(hσ'.new j c M h2).1;exact λ e=>hn (by rw[← e];exact this)
   ·exact hσ'.sep j c M j' c' M' h2 h2' (hne.imp (λ hkk e=>hkk (uniq (hstr h1) (hstr h1') e)) id)
  ·rcases back k L _ hk ho with⟨h1,h2,h3,h4⟩|⟨j,ob1,h1,h2,h5,h3⟩
   ·have hn:=nLN k L _ h2 h3 h4;rw[hS'.old _ hn]at hb;have ht:τ k (i*sz+m)=σ k (i*sz+m):=by simp only[τ];rw[if_pos ⟨h1,h2⟩]
    rw[ht];exact(hσ.rep k L ob0 sz es h3 h4 hr0 i e m isz xs hi hm o1 v hb hv).mono hS'.f0 λ M hM=>hS'.old _ (nLM k _ M h2 hM)
   ·subst h5;cases ob1 with
    | narr sz0 es0=>
     cases hr0;simp only[Jl3,Jl2]at hi;obtain⟨e',q3,rfl⟩:=hi;simp only[Jl3,Jl2]at hm;obtain⟨x,q4,q5⟩:=hm;have hx:=Sk q5;subst hx;have ht:τ k (i*sz+m)=σ' j (i*sz+m):=by
      simp only[τ];rw[if_neg (notin h3),hinv' h3]
     rw[ht];exact hσ'.rep j L _ sz es0 h1 h2 rfl i e' m isz xs q3 q4 o1 v hb hv
    | nmp ka dv en=>
     cases hr0;simp only[List.map_map,Jl3,Jl2,Function.comp]at hi;obtain⟨p,q3,rfl⟩:=hi;cases m with
     | succ m=>simp at hm
     | zero=>
      simp only[JlW,Jl9]at hm;have hx:=Sk hm;have ht:τ k (i*1+0)=σ' j (i*1+0):=by
       simp only[τ];rw[if_neg (notin h3),hinv' h3]
      rw[ht];exact hσ'.rep j L _ 1 _ h1 h2 rfl i [p.2] 0 isz xs (by rw[Jl3,q3];rfl) (by rw[hx];rfl) o1 v hb hv
    | _=>cases hr0
theorem PR {o:Oper} {f:FuncId} {a:Act} {xs:List AV} {vs:Array Value} {nb:Nat} {r:AV} {O1:List (Option Ob)} (hrun:∀ fn c,P.funcs[f]? = some fn->fn.body=some c->(fn.name == "runtime.NumGoroutine")=false->(execOp a.eval o).run P w=.ok (.enter f vs) w) (hS:Sim N H0 F0 F ρ O w.heap) (hxs:CR F ρ xs vs.toList)
  (hcall:BV P f (xs.map (IX (AL O xs))) (Fw O (AL O xs)) nb r O1) (hnb:nb<=(AL O xs).length) (hnb1:nb<=O1.length) (hord:∀ k∈AL O xs,k<O.length)
  {next:Act->World->Prop} {Q:Exit->Act->World->Prop}
  (hk:∀ v w' F' ρ'',FLe F F'->RLe ρ ρ''->Sim N H0 F0 F' ρ'' (Dk O (AL O xs) nb O1) w'.heap->Ak F' ρ'' (MN (D1 (AL O xs) O.length nb) r) v->Mu w w'->next (a.put o.dst v) w'):o.wp P a w next Q:=by
 obtain⟨⟨fn,c,hf,hb,hnm⟩,hcall⟩:=hcall;unfold Oper.wp;rw[hrun fn c hf hb hnm,Oper.upon_enter];generalize hordd:AL O xs=ord at *;have hnd:ord.Nodup:=by rw[← hordd];exact I3 _ _
 obtain⟨σ,hσ⟩:=hS.inn;have hL:=hS.lend hσ hnd;have hcr:CR F (gcR ord ρ) (xs.map (IX ord)) vs.toList:=by
  refine⟨by simpa using hxs.1,λ i x v hx hv=>?_⟩;simp only[Jl3,Jl2]at hx;obtain⟨z,hz,rfl⟩:=hx;exact Mq (hxs.2 i z v hz hv)
 refine(hcall _ F (gcR ord ρ) w vs hL hcr).mono λ e w' he=>?_;obtain⟨v,F1,ρ1,rfl,hS1,hkeep,hr1,hmu⟩:=he;simp only;obtain⟨g1,g2,g3⟩:=hS.back hσ hnd hord hS1 hmu.size hnb hnb1 hkeep;exact hk v w' F1 _ hS1.f0 g1 g3 (Mp g2 hr1) hmu
theorem OE {o:Oper} {f:FuncId} {a:Act} {xs:List AV} {vs:Array Value} {nb:Nat} {R:AV->List (Option Ob)->Prop} (hrun:∀ fn c,P.funcs[f]? = some fn->fn.body=some c->(fn.name == "runtime.NumGoroutine")=false->(execOp a.eval o).run P w=.ok (.enter f vs) w) (hS:Sim N H0 F0 F ρ O w.heap) (hxs:CR F ρ xs vs.toList)
  (hcall:HY P f (xs.map (IX (AL O xs))) (Fw O (AL O xs)) nb R) (hnb:nb<=(AL O xs).length) (hnb1:∀ r O1,R r O1->nb<=O1.length) (hord:∀ k∈AL O xs,k<O.length)
  {next:Act->World->Prop} {Q:Exit->Act->World->Prop}
  (hk:∀ r O1,R r O1->∀ v w' F' ρ'',FLe F F'->RLe ρ ρ''->Sim N H0 F0 F' ρ'' (Dk O (AL O xs) nb O1) w'.heap->Ak F' ρ'' (MN (D1 (AL O xs) O.length nb) r) v->Mu w w'->next (a.put o.dst v) w'):o.wp P a w next Q:=by
 obtain⟨⟨fn,c,hf,hb,hnm⟩,hcall⟩:=hcall;unfold Oper.wp;rw[hrun fn c hf hb hnm,Oper.upon_enter];generalize hordd:AL O xs=ord at *;have hnd:ord.Nodup:=by rw[← hordd];exact I3 _ _
 obtain⟨σ,hσ⟩:=hS.inn;have hL:=hS.lend hσ hnd;have hcr:CR F (gcR ord ρ) (xs.map (IX ord)) vs.toList:=by
  refine⟨by simpa using hxs.1,λ i x v hx hv=>?_⟩;simp only[Jl3,Jl2]at hx;obtain⟨z,hz,rfl⟩:=hx;exact Mq (hxs.2 i z v hz hv)
 refine(hcall _ F (gcR ord ρ) w vs hL hcr).mono λ e w' he=>?_;obtain⟨v,F1,ρ1,r,O1,hR,rfl,hS1,hkeep,hr1,hmu⟩:=he;simp only;obtain⟨g1,g2,g3⟩:=hS.back hσ hnd hord hS1 hmu.size hnb (hnb1 r O1 hR) hkeep;exact hk r O1 hR v w' F1 _ hS1.f0 g1 g3 (Mp g2 hr1) hmu
theorem MZ {args:Array Operand} {a:Act} {ev:Operand->AV} (hev:∀ x∈args.toList,Ak F ρ (ev x) (a.eval x)):CR F ρ (args.toList.map ev) (args.map a.eval).toList:=by
 refine⟨by simp,λ i x v hx hv=>?_⟩;simp only[Jl3,Jl2,Array.toList_map]at hx hv;obtain⟨z,hz,rfl⟩:=hx;obtain⟨y',hy',rfl⟩:=hv;rw[hz]at hy';cases hy';exact hev z (Jl1 hz)
theorem UP {o:Oper} {f:FuncId} {args:Array Operand} {ts:Array TypeId} {a:Act} {ev:Operand->AV} {nb:Nat} {r:AV} {O1:List (Option Ob)} (hop:o.op=.call ⟨.value (.func f),args,ts⟩) (hS:Sim N H0 F0 F ρ O w.heap) (hev:∀ x∈args.toList,Ak F ρ (ev x) (a.eval x))
  (hcall:BV P f ((args.toList.map ev).map (IX (AL O (args.toList.map ev)))) (Fw O (AL O (args.toList.map ev))) nb r O1) (hnb:nb<=(AL O (args.toList.map ev)).length) (hnb1:nb<=O1.length) (hord:∀ k∈AL O (args.toList.map ev),k<O.length)
  {next:Act->World->Prop} {Q:Exit->Act->World->Prop}
  (hk:∀ v w' F' ρ'',FLe F F'->RLe ρ ρ''->Sim N H0 F0 F' ρ'' (Dk O (AL O (args.toList.map ev)) nb O1) w'.heap->Ak F' ρ'' (MN (D1 (AL O (args.toList.map ev)) O.length nb) r) v->Mu w w'->next (a.put o.dst v) w'):o.wp P a w next Q:=by
 refine PR (λ fn c hf hb hnm=>?_) hS (MZ hev) hcall hnb hnb1 hord hk;simp only[execOp,hop,resolve,Act.eval,Deferred.ofValue,JlG,JlH,JlE,invoke,callFunc,run_program,hf,hnm,hb,Jmb,if_false,Option.isNone_some,Array.empty_append,Array.append_empty]
end Go.AI
end
section
namespace Go.AI
variable {P:Program} {w:World} {a:Act} {o:Oper} {n:Nat}
def GF (r:Option Nat):Fence:={ Fence.wide with round:=r }
theorem S8 {op:Op} (h:ndB op=true):∀ c,op≠.defer c:=λ c e=>by subst e;cases h
theorem PS {r:Option Nat} {f:FuncId} {args:Array Value} {R:Ending->World->Prop}:CallsIn (GF r) n P f args w R↔Calls P f args w R:=by
 have:CallsIn (GF r) n P f args w R↔CallsIn Fence.wide n P f args w R:=Iff.rfl;rw[this];exact callsIn_wide
theorem Yw {r:Option Nat} {row:String} {args:Array Value} {R:Value->World->Prop} (h:Rows P row args w R):RowsIn (GF r) n P row args w R:=by
 intro c cs _;obtain⟨v,w',h1,h2⟩:=h c cs;exact⟨v,w',h1,stepsIn_wide.2 h2⟩
theorem C3 {r:Option Nat} {K:Act->World->Prop} {Q:Exit->Act->World->Prop} (hnd:∀ c,o.op≠.defer c) (h:o.wp P a w K Q):o.wpIn (GF r) n P a w K Q:=by
 refine⟨λ _ _=>trivial,?_⟩;rw[Oper.semAt_plain _ _ _ hnd];unfold Oper.wp at h;generalize Sem.run P (execOp a.eval o) w=res at h;cases res with
 | ok x w'=>
  cases x with
  | value v=>exact h
  | skip=>exact h
  | defer d=>exact h
  | enter f args=>exact⟨(by intro h;cases h),PS.2 h⟩
  | row rw args=>exact⟨(by intro h;cases h),Yw h⟩
  | _=>exact h.elim
 | halt x w'=>
  cases x with
  | panic v=>exact h
  | _=>exact h.elim
theorem Yx {r:Option Nat} {ops:Array Oper} {Q:Exit->Act->World->Prop} (hQ:¬LetsOut Q) (hnd:∀ o∈ops.toList,ndB o.op=true) {i:Nat} {K:Act->World->Prop} (h:wpOp P ops Q i K a w):wpOpIn (GF r) n P ops Q i K a w:=by
 unfold wpOp at h;unfold wpOpIn;cases ho:ops[i]? with
 | none=>rw[ho]at h;exact h
 | some o=>
  rw[ho]at h;simp only at h⊢;split
  ·rename_i hw;rw[if_pos hw]at h;rcases h with h|⟨_,h⟩
   ·exact C3 (S8 (hnd o (by rw[← Array.getElem?_toList]at ho;exact Jl1 ho))) h
   ·exact absurd h hQ
  ·rename_i hw;rw[if_neg hw]at h;exact⟨λ _ _=>trivial,h⟩
theorem PT {r:Option Nat} {md:Region.Mode} {ops:Array Oper} {Q:Exit->Act->World->Prop} (hQ:¬LetsOut Q) (hnd:∀ o∈ops.toList,ndB o.op=true):∀ (fuel:Nat) (listed:Array Bool) (a:Act) (w:World),wpAny P md ops Q fuel listed a w->wpAnyIn (GF r) n P md ops Q fuel listed a w:=by
 intro fuel;induction fuel with
 | zero=>intro listed a w h;exact h
 | succ fuel ih=>
  intro listed a w h;exact⟨h.1,λ i hi=>wpOpIn_mono (λ a w=>ih _ a w) (Yx hQ hnd (h.2 i hi))⟩
theorem LC {F:Fence} {Q:Exit->Act->World->Prop} {c:Code} (h:c.wpIn F n P (Exit.noGoto Q) a w):(Code.scope c).wpIn F n P Q a w:=by
 intro b k cs hro hb hr;obtain⟨e,a₁,w₁,hq,harr⟩:=h b (.inScope c::k) cs hro hb hr;have s0:StepsIn (Machine.fenced P F) P (lone (b.atR a (.code (.scope c)::k)) cs w) (lone (b.atR a (.code c::.inScope c::k)) cs w):=
  .one (fenced_calm hb hr rfl) (step_lone_go (by simp[Go.stepG,Go.stepG.exec,Frame.atR]))
 cases e with
 | normal=>
  refine⟨.normal,a₁,w₁,hq,StepsIn.trans s0 (StepsIn.trans harr (.one (fenced_calm (fr:=b.atR a₁ (.inScope c::k)) hb hr rfl) (step_lone_go (by simp[Go.stepG,Go.stepG.exec,Frame.atR]))))⟩
 | exit id=>
  refine⟨.exit id,a₁,w₁,hq,λ k' hk=>StepsIn.trans s0 (harr.1 k' (by simp[exitTo,hk])),λ hr' hk=>?_⟩;obtain⟨k₁,h1,h2⟩:=harr.2 hr' (by simp[exitTo,hk]);exact⟨k₁,h1,StepsIn.trans s0 h2⟩
 | goto l=>exact hq.elim
 | ret=>exact⟨_,a₁,w₁,hq,.of_steps s0 harr⟩
 | panic ch=>exact⟨_,a₁,w₁,hq,.of_steps s0 harr⟩
 | outgrown=>exact⟨_,a₁,w₁,hq,.of_steps s0 harr⟩
end Go.AI
end
section
namespace Go.AI
variable {P:Program} {F F':Nat->Option Obj} {ρ ρ':Nat->Option Loc} {N:Nat->Prop} {H0 F0:Nat->Option Obj} {O objs:List (Option Ob)} {w:World} {w0:W0}
def UQ (P:Program) (nt:Slt) (o:Oper) (g:Bool) (st st':St):Prop:=
 ∀ (N:Nat->Prop) (H0 F0:Nat->Option Obj) (w0:W0) (a:Act) (w:World),g=true->Inv N H0 F0 w0 nt st a w->BE nt o.dst=true ->
  ∀ (K:Act->World->Prop) (Qw:Exit->Act->World->Prop),(∀ a' w',Inv N H0 F0 w0 nt st' a' w'->K a' w')->o.wp P a w K Qw
def OF (P:Program) (nt:Slt) (o:Oper) (g:Bool) (st st':St):Prop:=
 ∀ (N:Nat->Prop) (H0 F0:Nat->Option Obj) (w0:W0) (a:Act) (w:World),g=true->Inv N H0 F0 w0 nt st a w->BE nt o.dst=true ->
  ∀ (r:Option Nat) (n:Nat) (K:Act->World->Prop) (Qw:Exit->Act->World->Prop),(nt.qf≠[]->r=none)->(∀ a' w',Inv N H0 F0 w0 nt st' a' w'->K a' w')->o.wpIn (GF r) n P a w K Qw
def Mr (P:Program) (nt:Slt) (o:Oper) (st:St) (S:St->Prop):Prop:=
 ∀ (N:Nat->Prop) (H0 F0:Nat->Option Obj) (w0:W0) (a:Act) (w:World),Inv N H0 F0 w0 nt st a w->BE nt o.dst=true ->
  ∀ (r:Option Nat) (n:Nat) (K:Act->World->Prop) (Qw:Exit->Act->World->Prop),(nt.qf≠[]->r=none)->(∀ st' a' w',S st'->Inv N H0 F0 w0 nt st' a' w'->K a' w')->o.wpIn (GF r) n P a w K Qw
theorem UQ.ok {nt:Slt} {o:Oper} {g:Bool} {st st':St} (h:UQ P nt o g st st') (hnd:ndB o.op=true):OF P nt o g st st':=
 λ N H0 F0 w0 a w hg hI hd _ _ K Qw _ hK=>C3 (S8 hnd) (h N H0 F0 w0 a w hg hI hd K Qw hK)
structure Gv (P:Program) (Γ:Cx):Prop where
 ty:I0 P Γ.ty
 calls:∀ f args r,Γ.calls f args r->AQ P f args r
 lent:∀ f args objs nb r objs1,Γ.lent f args objs nb r objs1->BV P f args objs nb r objs1
 ext:∀ nt o g st st',Γ.ext nt o g st st'->OF P nt o g st st'
 exn:∀ nt o st S,Γ.exn nt o st S->Mr P nt o st S
 lentS:∀ f args objs nb R,Γ.lentS f args objs nb R->HY P f args objs nb R
 qf:∀ f k,(f,k)∈Γ.nt.qf->∀ vs:Array Value,vs.size=k->QD P (MR f vs)
 rq:Γ.rd=true->Γ.nt.qf=[]
theorem isEmpty_nil {α:Type} {l:List α} (h:l.isEmpty=true):l=[]:=by cases l with|nil=>rfl|cons=>cases h
theorem PU {nt:Slt} {st:St} {a:Act} {o:Oper} {v:AV} {obs:List Ob} (hS:Sim N H0 F0 F ρ st.objs w.heap) (hSl:Cf F ρ st.env a.tmps) (hn:TS nt w0.kp a.tmps) (hd:Dfr w0 nt F a.defers/\Mu w0.w w/\RK w0 nt ρ) (hdst:BE nt o.dst=true) (hg:o.guard.isSome=true) :
  Inv N H0 F0 w0 nt ⟨putA o.dst o.guard.isSome false v st.env,st.objs++obs.map some⟩ (a.put o.dst undef) w:=by
 refine⟨F,ρ,hS.grow _,hSl.putA hn hdst ?_,hn.put hdst,by rw[put_defers];exact hd⟩;rw[hg];exact .gvF _
def S9 (Γ:Cx) (draw:Bool) (o:Oper) (Q:St->Prop) (st:St) (g:Bool):Prop:=
 draw=false/\o.guard=none/\((match opK Γ.ty (λ x=>unG (Al st.env x)) o.op with
  | some (esz,es)=>Fu g (o.op.operands.toList.map (Al st.env))/\(Q ⟨putA o.dst false g (.d (.sl es)) st.env,st.objs⟩\/Q ⟨putA o.dst false g (.osl st.objs.length esz 0 es.length) st.env,st.objs++[some (.arr esz es)]⟩)
  | none=>False)\/match o.op with
  | .call ⟨.value (.func f),args,_⟩=>Fu g (args.toList.map (Al st.env))/\JeI Γ o f (args.toList.map λ x=>unG (Al st.env x)) st Q
  | _=>False)
theorem Jdf {Γ:Cx} {draw:Bool} {o:Oper} {Q:St->Prop} {st:St} {g:Bool} (h:stepG Γ draw o Q st g\/Fg Γ o Q st g\/S9 Γ draw o Q st g):ndB o.op=true:=by
 cases ho:o.op with
 | defer c=>
  exfalso;simp only[stepG,Fg,S9,ho,opA,opF,opK]at h;simp at h
 | _=>rfl
theorem Jfi {Γ:Cx} (hΓ:Gv P Γ) {draw:Bool} {o:Oper} {Q:St->Prop} {st:St} {a:Act} {g:Bool} (hgN:o.guard=none->g=true) (hgc:g=true) (h:stepG Γ draw o Q st g\/Fg Γ o Q st g\/S9 Γ draw o Q st g)
  (hS:Sim N H0 F0 F ρ st.objs w.heap) (hSl:Cf F ρ st.env a.tmps) (hn:TS Γ.nt w0.kp a.tmps) (hd:Dfr w0 Γ.nt F a.defers/\Mu w0.w w/\RK w0 Γ.nt ρ) (hdst:BE Γ.nt o.dst=true)
  {K:Act->World->Prop} {Qw:Exit->Act->World->Prop} (hK:∀ st' a' w',Q st'->Inv N H0 F0 w0 Γ.nt st' a' w'->K a' w'):o.wp P a w K Qw:=by
 have key:if g=true then o.wp P a w K Qw else K (a.put o.dst undef) w:=by
  rcases h with h|h|h
  case inr.inr=>
   obtain⟨hdr,hgn,h⟩:=h;rcases h with h|h
   case inr=>
    split at h
    ·rename_i f args ts hop;obtain⟨hgob,nb,r,O1,hl,hnb,hnb1,hord,hQ⟩:=h;rw[if_pos hgc];refine UP hop hS (ev:=λ x=>unG (Al st.env x)) (λ x hx=>BM hgc _ hgob _ (List.mem_map_of_mem hx) _ (A5 hSl x)) (hΓ.lent _ _ _ _ _ _ hl) hnb hnb1 hord λ v w' F' ρ' hF hρ hS' hv hmu=>?_;refine hK _ _ _ hQ ⟨F',ρ',hS',(hSl.mono hF hρ).putA hn hdst ?_,hn.put hdst,by rw[put_defers];exact⟨hd.1.mono hF,hd.2.1.trans hmu,hd.2.2.mono hρ⟩⟩;exact hv
    ·exact h.elim
   split at h
   ·rename_i esz es hes;obtain⟨hgob,hQ⟩:=h;rw[if_pos hgc];obtain⟨cs',elem,hr,her,hsz,h1⟩:=ZL hΓ.ty o hes (λ x hx=>BM hgc _ hgob _ (List.mem_map_of_mem hx) _ (A5 hSl x)) w;unfold Oper.wp;rw[hr,Oper.upon_value];rcases hQ with hQ|hQ
    ·obtain⟨F',hF,hS',hv⟩:=Ym (elem:=elem) hS her;exact hK _ _ _ hQ ⟨F',ρ,hS',(hSl.mono hF (RLe.refl _)).putA hn hdst (.d _ _ hv),hn.put hdst,by rw[put_defers];exact⟨hd.1.mono hF,hd.2.1.trans (Mu.push rfl rfl rfl),hd.2.2.mono (RLe.refl _)⟩⟩
    ·obtain⟨ρ',hρ,hS',hv⟩:=ZM (elem:=elem) hS her hsz h1;exact hK _ _ _ hQ ⟨F,ρ',hS',(hSl.mono (FLe.refl _) hρ).putA hn hdst hv,hn.put hdst,by rw[put_defers];exact⟨hd.1,hd.2.1.trans (Mu.push rfl rfl rfl),hd.2.2.mono hρ⟩⟩
   ·exact h.elim
  case inr.inl=>
   unfold Fg at h;split at h
   ·rename_i es hes;obtain⟨hgob,hQ⟩:=h;rw[if_pos hgc];obtain⟨v,w',F',hr,hF,hS',hv,hmu⟩:=Oy hΓ.ty hS o hes λ x hx=>BM hgc _ hgob _ (List.mem_map_of_mem hx) _ (A5 hSl x);unfold Oper.wp;rw[hr,Oper.upon_value];refine hK _ _ _ hQ ⟨F',ρ,hS',(hSl.mono hF (RLe.refl _)).putA hn hdst ?_,hn.put hdst,by rw[put_defers];exact⟨hd.1.mono hF,hd.2.1.trans hmu,hd.2.2.mono (RLe.refl _)⟩⟩;cases o.guard.isSome with
    | true=>rw[hgc];exact .gvT _ _ (.d _ _ hv)
    | false=>exact .d _ _ hv
   ·exact h.elim
  unfold stepG at h;have fin:∀ (e:Eff),(bif (e.upd.isSome&&o.guard.isSome)||(!e.rm.isEmpty&&(o.guard.isSome||(draw&&!isW o.op)))then False else Q (DV o.dst o.guard.isSome g e st))->(g=true->∃ v w' F' ρ',((execOp a.eval o).run P w=.ok (.value v) w'\/((execOp a.eval o).run P w=.ok .skip w'/\v=undef))/\FLe F F'/\RLe ρ ρ'/\Sim N H0 F0 F' ρ' (BG (rmA st.objs e.rm) e.upd++e.obs.map some) w'.heap/\Ak F' ρ' e.v v/\Mu w w') ->
    if g=true then o.wp P a w K Qw else K (a.put o.dst undef) w:=by
   intro e hQ hrun;cases hc:((e.upd.isSome&&o.guard.isSome)||(!e.rm.isEmpty&&(o.guard.isSome||(draw&&!isW o.op))))with
   | true=>rw[hc]at hQ;exact hQ.elim
   | false=>
    rw[hc,cond_false]at hQ;cases hgv:g with
    | true=>
     rw[if_pos rfl];obtain⟨v,w',F',ρ',hr,hF,hρ,hS',hv,hmu⟩:=hrun hgv;have hI':Inv N H0 F0 w0 Γ.nt (DV o.dst o.guard.isSome g e st) (a.put o.dst v) w':=by
      refine⟨F',ρ',hS',(hSl.mono hF hρ).putA hn hdst ?_,hn.put hdst,by rw[put_defers];exact⟨hd.1.mono hF,hd.2.1.trans hmu,hd.2.2.mono hρ⟩⟩;cases o.guard.isSome with
      | true=>rw[hgv];exact .gvT _ _ hv
      | false=>exact hv
     unfold Oper.wp;rcases hr with hr|⟨hr,rfl⟩
     ·rw[hr,Oper.upon_value];exact hK _ _ _ hQ hI'
     ·rw[hr,Oper.upon_skip];exact hK _ _ _ hQ hI'
    | false=>
     rw[if_neg (by simp)];have hgs:o.guard.isSome=true:=by
      cases hgo:o.guard with
      | none=>rw[hgN hgo]at hgv;cases hgv
      | some x=>rfl
     rw[hgs]at hc;simp only[Bool.and_true,Bool.true_or,JlY]at hc;have e1:e.upd=none:=by cases hu:e.upd with|none=>rfl|some x=>rw[hu]at hc;simp at hc
     have e2:e.rm=[]:=isEmpty_nil (by simpa using hc.2);have hI':=PU (o:=o) (v:=e.v) (obs:=e.obs) hS hSl hn hd hdst hgs;refine hK _ _ _ hQ ?_;rw[hgv];simpa [DV,e1,e2,rmA,BG]using hI'
  have others:∀ op,o.op=op->(match opA Γ.ty (λ x=>unG (Al st.env x)) st.objs op with
    | some e=>Fu g (op.operands.toList.map (Al st.env))/\(g=true->e.ob)/\(bif (e.upd.isSome&&o.guard.isSome)||(!e.rm.isEmpty&&(o.guard.isSome||(draw&&!isW op)))then False else Q (DV o.dst o.guard.isSome g e st))
    | none=>False)->if g=true then o.wp P a w K Qw else K (a.put o.dst undef) w:=by
   intro op hop h;split at h
   ·rename_i e he;obtain⟨h1,h2,h3⟩:=h;subst hop;refine fin e h3 λ hgt=>Wg hΓ.ty o hS he (h2 hgt) λ x hx=>?_;exact BM hgt _ h1 _ (List.mem_map_of_mem hx) _ (A5 hSl x)
   ·exact h.elim
  split at h
  ·
   rename_i f args ts hop;obtain⟨hgob,h⟩:=h;unfold JD at h;split at h
   ·rename_i ra hra;obtain⟨hob,m,r,hcall,hflat,hQ⟩:=h;cases hgv:g with
    | true=>
     rw[if_pos rfl];have hS1:=hS.grow ((BZ m st.objs.length r).2.map some);refine UL (m:=m) (r:=r) (objs:=st.objs) (ev:=λ x=>unG (Al st.env x)) hop hS1 (λ k ob hk=>by rw[AM,if_pos (A6 hk)];exact hk) hra (hob hgv) (λ x hx=>?_) (hΓ.calls _ _ _ (hcall hgv)) ?_ st.objs.length (λ k h1 _=>?_) (λ i ob hi=>?_) (by simp) λ v w' G ρ'' hF hρ _ hS' hv hmu=>?_
     ·exact BM hgv _ hgob _ (List.mem_map_of_mem hx) _ (A5 hSl x)
     ·cases he:ra.ks.isEmpty with
      | true=>exact .inl (isEmpty_nil he)
      | false=>rw[he]at hflat;exact .inr hflat
     ·cases hk:ρ k with
      | none=>rfl
      | some L=>have:=hS.dom k L hk;omega
     ·rw[AM,if_neg (by omega),show st.objs.length+i-st.objs.length=i by omega];exact E9 hi
     ·refine hK _ _ _ hQ ⟨G,ρ'',hS',(hSl.mono hF hρ).putA hn hdst ?_,hn.put hdst,by rw[put_defers];exact⟨hd.1.mono hF,hd.2.1.trans hmu,hd.2.2.mono hρ⟩⟩;cases o.guard.isSome with
      | true=>rw[hgv];exact .gvT _ _ hv
      | false=>exact hv
    | false=>
     rw[if_neg (by simp)];have hgs:o.guard.isSome=true:=by
      cases hgo:o.guard with
      | none=>rw[hgN hgo]at hgv;cases hgv
      | some x=>rfl
     have hI':=PU (o:=o) (v:=(BZ m st.objs.length r).1) (obs:=(BZ m st.objs.length r).2) hS hSl hn hd hdst hgs;refine hK _ _ _ hQ ?_;rw[hgv];exact hI'
   ·exact h.elim
  ·
   rename_i c x y hop;split at h
   ·rename_i e he;obtain⟨h2,h3⟩:=h;have he':opA Γ.ty (Al st.env) st.objs o.op=some e:=by rw[hop];exact he
    have hq:HX o.op=true:=by rw[hop];rfl
    have hpick:G9 (Al st.env c) (Al st.env x) (Al st.env y)=some e:=he;have hqt:e.quiet:=by
     unfold G9 at hpick;split at hpick
     ·split at hpick
      ·exact(AF hpick).1
      ·cases hpick
     ·cases hpick
    refine fin e ?_ λ hgt=>Wg hΓ.ty o hS he' (h2 hgt) λ z _=>A5 hSl z;rw[hqt.2.1,hqt.2.2];simpa using h3
   ·exact h.elim
  ·exact others _ rfl h
 rwa[if_pos hgc]at key
theorem PV {Γ:Cx} (hΓ:Gv P Γ) (r:Option Nat) (hqr:Γ.nt.qf≠[]->r=none) (n:Nat) {draw:Bool} {all:Array Oper} {o:Oper} {Q:St->Prop} {st:St} {a:Act} (h:A1 Γ draw all.toList o Q st) (hI:Inv N H0 F0 w0 Γ.nt st a w)
  {K:Act->World->Prop} {Qw:Exit->Act->World->Prop} (hK:∀ st' a' w',Q st'->Inv N H0 F0 w0 Γ.nt st' a' w'->K a' w') :
  if Region.wanted o (yielded all a.tmps)then o.wpIn (GF r) n P a w K Qw else(∀ f,o.about P w a.eval=some f->(GF r).fn f)/\K (a.put o.dst undef) w:=by
 obtain⟨F,ρ,hS,hSl,hn,hd⟩:=hI;unfold A1 at h;split at h
 ·exact h.elim
 ·rename_i g hg;have hw:=Gu hSl hg;rw[hw];have hgN:o.guard=none->g=true:=λ hx=>by rw[hx]at hg;cases hg;rfl
  cases hdst:BE Γ.nt o.dst with
  | false=>rw[hdst]at h;exact h.elim
  | true=>
   rw[hdst,JlM,cond_false]at h;by_cases hgc:g=true
   case neg=>
    have hgf:g=false:=by simpa using hgc
    obtain⟨v,obs,hm,hQ⟩:=h.2 hgf;rw[if_neg hgc];have hgs:o.guard.isSome=true:=by
     cases hgo:o.guard with
     | none=>exact absurd (hgN hgo) hgc
     | some x=>rfl
    exact⟨λ _ _=>trivial,hK _ _ _ hQ (PU (o:=o) (v:=v) (obs:=obs) hS hSl hn hd hdst hgs)⟩
   replace h:=h.1 hgc;rw[if_pos hgc];have main:(stepG Γ draw o Q st g\/Fg Γ o Q st g\/S9 Γ draw o Q st g)->o.wpIn (GF r) n P a w K Qw:=λ h=>C3 (S8 (Jdf h)) (Jfi hΓ hgN hgc h hS hSl hn hd hdst hK);rcases h with h|h|⟨hdr,⟨st',hext,hQ⟩|⟨hgn,h⟩⟩
   ·exact main (.inl h)
   ·exact main (.inr (.inl h))
   ·exact hΓ.ext _ _ _ _ _ hext N H0 F0 w0 a w hgc ⟨F,ρ,hS,hSl,hn,hd⟩ hdst r n _ _ hqr λ a' w' hI'=>hK _ _ _ hQ hI'
   ·exact main (.inr (.inr ⟨hdr,hgn,h⟩))
theorem OG {Γ:Cx} (hΓ:Gv P Γ) (rd:Option Nat) (hqr:Γ.nt.qf≠[]->rd=none) (n:Nat) {draw:Bool} {all:Array Oper} {Qw:Exit->Act->World->Prop} (rest:List Oper):∀ (l:List Oper) (Q:St->Prop) (st:St) (a:Act) (w:World),HR Γ draw all.toList l Q st->Inv N H0 F0 w0 Γ.nt st a w->(∀ st' a' w',Q st'->Inv N H0 F0 w0 Γ.nt st' a' w'->wpListIn (GF rd) n P all Qw rest a' w')->wpListIn (GF rd) n P all Qw (l++rest) a w:=by
 intro l;induction l with
 | nil=>intro Q st a w h hI hQ;exact hQ _ _ _ h hI
 | cons o l ih=>
  intro Q st a w h hI hQ;refine wpListIn_step λ K hK=>?_;exact PV hΓ rd hqr n h hI λ st' a' w' hr hI'=>hK _ _ (ih Q st' a' w' hr hI' hQ)
theorem XB {Γ:Cx} (hΓ:Gv P Γ) (rd:Option Nat) (hqr:Γ.nt.qf≠[]->rd=none) (n:Nat) {draw:Bool} {all:Array Oper} {Qw:Exit->Act->World->Prop} (l:List Oper) (Q:St->Prop) (st:St) (a:Act) (w:World) (h:HR Γ draw all.toList l Q st) (hI:Inv N H0 F0 w0 Γ.nt st a w) (hQ:∀ st' a' w',Q st'->Inv N H0 F0 w0 Γ.nt st' a' w'->Qw .normal a' w'):wpListIn (GF rd) n P all Qw l a w:=by
 have:=OG hΓ rd hqr n (Qw:=Qw) [] l Q st a w h hI λ st' a' w' hq hI'=>hQ st' a' w' hq hI';rwa[List.append_nil]at this
theorem ZX {Γ:Cx} (hΓ:Gv P Γ) (rd:Option Nat) (hqr:Γ.nt.qf≠[]->rd=none) (n:Nat) {all:Array Oper} {Qw:Exit->Act->World->Prop} {Q:St->Prop} {st:St} {a:Act} (h:Ji4 Γ all.toList Q st) (hI:Inv N H0 F0 w0 Γ.nt st a w) (hQ:∀ st' a' w',Q st'->Inv N H0 F0 w0 Γ.nt st' a' w'->Qw .normal a' w'):wpListIn (GF rd) n P all Qw all.toList a w:=by
 obtain⟨i,o,ho,h⟩:=h;have hsp:all.toList=all.toList.take i++(o::all.toList.drop (i+1)):=by
  have hi:=Af ho;have he:all.toList[i]=o:=by rw[JlZ hi]at ho;exact Option.some.inj ho
  exact(List.take_append_drop i all.toList).symm.trans (by rw[List.drop_eq_getElem_cons hi,he])
 rw[hsp];refine OG hΓ rd hqr n _ _ _ st a w h hI λ s1 a1 w1 hq hI1=>?_;obtain⟨hg,hd,S,hS,hQ2⟩:=hq;refine wpListIn_step λ K hK=>?_;have hw:Region.wanted o (yielded all a1.tmps)=true:=by unfold Region.wanted;rw[hg]
 rw[if_pos hw];exact hΓ.exn _ _ _ _ hS N H0 F0 w0 a1 w1 hI1 hd rd n _ _ hqr λ s2 a2 w2 hs2 hI2=>hK _ _ (XB hΓ rd hqr n _ _ s2 a2 w2 (hQ2 s2 hs2) hI2 hQ)
end Go.AI
end
section
namespace Go.AI
variable {P:Program} {F F':Nat->Option Obj} {ρ ρ':Nat->Option Loc} {N:Nat->Prop} {H0 F0:Nat->Option Obj} {O objs:List (Option Ob)} {w:World} {w0:W0}
def RS (F:Nat->Option Obj) (ρ:Nat->Option Loc) (env:List (Nat×AV)) (tmps:Array Value) (ts:List Tmp):Prop:=∀ t∈ts,Ak F ρ (lkA env t) (tmps.getD t undef)
def Ef (env:List (Nat×AV)) (ts:List Tmp):List (Nat×AV):=ts.map λ t=>(t,lkA env t)
theorem Kk (env:List (Nat×AV)):∀ (ts:List Tmp) (t:Tmp),lkA (Ef env ts) t=if t∈ts then lkA env t else .top:=by
 intro ts;induction ts with
 | nil=>intro t;rfl
 | cons x ts ih=>
  intro t;simp only[Ef,JlV];rw[Bi];by_cases h:x=t
  ·subst h;simp
  ·rw[if_neg h];have:=ih t;simp only[Ef]at this;rw[this];simp[Ne.symm h]
theorem Jlu {env:List (Nat×AV)} {tmps:Array Value} {ts:List Tmp} (h:RS F ρ env tmps ts):Cf F ρ (Ef env ts) tmps:=by
 intro t;rw[Kk];split
 ·rename_i ht;exact h t ht
 ·exact .top _
theorem PW {env:List (Nat×AV)} {ts:List Tmp} {x:Operand} (h:∀ t,x=.tmp t->t∈ts):Al (Ef env ts) x=Al env x:=by
 cases x with
 | tmp t=>simp only[Al,Kk,if_pos (h t rfl)]
 | _=>rfl
theorem UR {all:List Oper} {env:List (Nat×AV)} {ts:List Tmp} {o:Oper} (h:∀ t∈MO all o,t∈ts):Bw all (Ef env ts) o.guard=Bw all env o.guard:=by
 unfold Bw;unfold MO at h;cases hg:o.guard with
 | none=>rfl
 | some x=>
  obtain⟨j,want⟩:=x;rw[hg]at h;simp only at h⊢;cases ho:all[j]? with
  | none=>rfl
  | some o'=>
   rw[ho]at h;simp only at h⊢;cases hd:o'.dst with
   | none=>rfl
   | some t=>
    rw[hd]at h;simp only at h⊢;rw[Kk,if_pos (h t (by simp))]
theorem I7 {op:Op} {t:Tmp} (h:Operand.tmp t∈op.operands.toList):t∈SW op:=by
 unfold SW;rw[List.mem_filterMap];exact⟨.tmp t,h,rfl⟩
theorem NO {Γ:Nat->Ty} {ev ev':Operand->AV} (op:Op) (h:∀ x∈op.operands.toList,ev x=ev' x):opA Γ ev objs op=opA Γ ev' objs op:=by
 cases op with
 | build t parts=>
  have:(parts.toList.map λ p=>(p.1,ev p.2))=(parts.toList.map λ p=>(p.1,ev' p.2)):=JlX λ p hp=>by
   rw[h p.2 (by simp[Op.operands];exact⟨p.1,by simpa using hp⟩)]
  simp only[opA,this]
 | buildSlice t len parts=>
  have:(parts.toList.map λ p=>(p.1,ev p.2))=(parts.toList.map λ p=>(p.1,ev' p.2)):=JlX λ p hp=>by
   rw[h p.2 (by simp[Op.operands];exact⟨p.1,by simpa using hp⟩)]
  simp only[opA,this]
 | slice t x lo hi mx=>
  cases mx with
  | some m=>
   cases hi with
   | none=>rfl
   | some hi=>
    have hx:=h x (by simp[Op.operands]);have hlo:∀ n,BK ev n lo=BK ev' n lo:=λ n=>by
     cases lo with
     | none=>rfl
     | some y=>simp only[BK];rw[h y (by simp[Op.operands])]
    have h1:=h hi (by simp[Op.operands]);have h2:=h m (by simp[Op.operands]);have:IT (Γ t).kind ev (ev x) lo hi m=IT (Γ t).kind ev' (ev' x) lo hi m:=by
     unfold IT;simp only[hx,hlo,h1,h2]
    simp only[opA,this]
  | none=>
   have hx:=h x (by simp[Op.operands]);have hlo:∀ n,BK ev n lo=BK ev' n lo:=λ n=>by
    cases lo with
    | none=>rfl
    | some y=>simp only[BK];rw[h y (by simp[Op.operands])]
   have hhi:∀ n,BK ev n hi=BK ev' n hi:=λ n=>by
    cases hi with
    | none=>rfl
    | some y=>simp only[BK];rw[h y (by simp[Op.operands])]
   simp only[opA,Pz,hx,hlo,hhi]
 | call c=>
  obtain⟨callee,args,ts⟩:=c;have hmem:∀ x∈args.toList,ev x=ev' x:=λ x hx=>h x (by cases callee<;>simp[Op.operands,Call.operands]<;>first|exact .inr (by simpa using hx)|exact(by simpa using hx))
  cases callee with
  | value f=>rfl
  | invoke r m=>rfl
  | builtin b=>
   have hmap:args.toList.map ev=args.toList.map ev':=JlX hmem;cases b<;>try rfl
   case append=>
    simp only[opA];split
    ·rename_i s x t t' hargs hts;rw[hmem s (by rw[hargs];simp),hmem x (by rw[hargs];simp)]
    ·rfl
   case len=>
    simp only[opA];split
    ·rename_i x t hargs hts;rw[hmem x (by rw[hargs];simp)]
    ·rfl
   case min=>simp only[opA,hmap]
   case max=>simp only[opA,hmap]
 | pick c a b=>simp only[opA,h c (by simp[Op.operands]),h a (by simp[Op.operands]),h b (by simp[Op.operands])]
 | move x=>simp only[opA,h x (by simp[Op.operands])]
 | assign x=>simp only[opA,h x (by simp[Op.operands])]
 | alloc t=>rfl
 | box t x=>simp only[opA,h x (by simp[Op.operands])]
 | load t x=>simp only[opA,h x (by simp[Op.operands])]
 | store t x y=>simp only[opA,h x (by simp[Op.operands]),h y (by simp[Op.operands])]
 | nilCheck x=>simp only[opA,h x (by simp[Op.operands])]
 | binOp op t x y u=>simp only[opA,h x (by simp[Op.operands]),h y (by simp[Op.operands])]
 | unOp op t x=>cases op<;>simp only[opA,h x (by simp[Op.operands])]
 | convert s t x=>simp only[opA,h x (by simp[Op.operands])]
 | fieldAddr s x f=>simp only[opA,h x (by simp[Op.operands])]
 | field s x f=>simp only[opA,h x (by simp[Op.operands])]
 | indexAddr t x i=>simp only[opA,h x (by simp[Op.operands]),h i (by simp[Op.operands])]
 | index t x i=>simp only[opA,h x (by simp[Op.operands]),h i (by simp[Op.operands])]
 | extract x i=>simp only[opA,h x (by simp[Op.operands])]
 | insert t m k v=>simp only[opA,h m (by simp[Op.operands]),h k (by simp[Op.operands]),h v (by simp[Op.operands])]
 | mapUpdate t m k v=>simp only[opA,h m (by simp[Op.operands]),h k (by simp[Op.operands]),h v (by simp[Op.operands])]
 | lookup t m k ok=>simp only[opA,h m (by simp[Op.operands]),h k (by simp[Op.operands])]
 | makeSlice t x y=>simp only[opA,h x (by simp[Op.operands]),h y (by simp[Op.operands])]
 | makeMap t r=>cases r with
  | none=>rfl
  | some x=>simp only[opA,h x (by simp[Op.operands])]
 | _=>rfl
theorem Yy {Γ:Nat->Ty} {ev ev':Operand->AV} (op:Op) (h:∀ x∈op.operands.toList,ev x=ev' x):opF Γ ev op=opF Γ ev' op:=by
 cases op with
 | buildSlice t len parts=>
  simp only[opF];rw[NO (objs:=[]) (.buildSlice t len parts) h];have:(parts.toList.all λ p=>(Ar (ev p.2)).all Ml)=(parts.toList.all λ p=>(Ar (ev' p.2)).all Ml):=by
   rw[Bool.eq_iff_iff,JlJ,JlJ];have he:∀ p∈parts.toList,ev p.2=ev' p.2:=λ p hp=>h _ (by simp only[Op.operands,JlR];exact⟨p,hp,rfl⟩);constructor
   ·intro hh p hp;rw[← he p hp];exact hh p hp
   ·intro hh p hp;rw[he p hp];exact hh p hp
  rw[this]
 | _=>rfl
theorem PX {Γ:Cx} {draw:Bool} (hdraw:draw=true) {all:List Oper} {o:Oper} {s:St} {ts:List Tmp} (hts:∀ t∈CH all o,t∈ts) {Q:St->Prop} (h:A1 Γ draw all o Q s) :
  A1 Γ draw all o (λ s'=>∃ s'',Q s''/\s''.objs=s'.objs/\((o.dst=none/\s''.env=s.env/\s'.env=Ef s.env ts)\/∃ d x,o.dst=some d/\s''.env=(d,x)::s.env/\s'.env=(d,x)::Ef s.env ts)) ⟨Ef s.env ts,s.objs⟩:=by
 have hop:∀ x∈o.op.operands.toList,Al (Ef s.env ts) x=Al s.env x:=λ x hx=>PW λ t ht=>hts t (by subst ht;exact List.mem_append_left _ (I7 hx));have hgd:Bw all (Ef s.env ts) o.guard=Bw all s.env o.guard:=UR λ t ht=>hts t (List.mem_append_right _ ht);have hput:∀ g v,((o.dst=none/\putA o.dst o.guard.isSome g v s.env=s.env/\putA o.dst o.guard.isSome g v (Ef s.env ts)=Ef s.env ts)\/∃ d x,o.dst=some d/\putA o.dst o.guard.isSome g v s.env=(d,x)::s.env/\putA o.dst o.guard.isSome g v (Ef s.env ts)=(d,x)::Ef s.env ts):=λ g v=>by
  cases o.dst with
  | none=>exact .inl ⟨rfl,rfl,rfl⟩
  | some d=>exact .inr ⟨d,_,rfl,rfl,rfl⟩
 unfold A1 at h⊢;cases hg:Bw all s.env o.guard with
 | none=>rw[hg]at h;exact h.elim
 | some g=>
  rw[hg]at h;simp only[hgd,hg];simp only at h;cases hdst:BE Γ.nt o.dst with
  | false=>rw[hdst]at h;exact h.elim
  | true=>
   rw[hdst]at h;simp only[JlM,cond_false]at h⊢;refine⟨λ hgt=>?_,λ hgf=>by obtain⟨v,obs,hm,hQ⟩:=h.2 hgf;exact⟨v,obs,hm,_,hQ,rfl,hput false v⟩⟩;rcases h.1 hgt with h|h|h
   case inr.inr=>obtain⟨hdr,_⟩:=h;rw[hdraw]at hdr;cases hdr
   case inr.inl=>
    refine .inr (.inl ?_);unfold Fg at h⊢;have e1:opF Γ.ty (λ x=>unG (Al (Ef s.env ts) x)) o.op=opF Γ.ty (λ x=>unG (Al s.env x)) o.op:=Yy _ λ x hx=>by rw[hop x hx]
    have e2:o.op.operands.toList.map (Al (Ef s.env ts))=o.op.operands.toList.map (Al s.env):=JlX hop;rw[e1,e2];split at h
    ·exact⟨h.1,_,h.2,rfl,hput g _⟩
    ·exact h.elim
   refine .inl ?_;unfold stepG at h⊢;have others:∀ op,o.op=op->(match opA Γ.ty (λ x=>unG (Al s.env x)) s.objs op with
     | some e=>Fu g (op.operands.toList.map (Al s.env))/\(g=true->e.ob)/\(bif (e.upd.isSome&&o.guard.isSome)||(!e.rm.isEmpty&&(o.guard.isSome||(draw&&!isW op)))then False else Q (DV o.dst o.guard.isSome g e s))
     | none=>False)->(match opA Γ.ty (λ x=>unG (Al (Ef s.env ts) x)) s.objs op with
     | some e=>Fu g (op.operands.toList.map (Al (Ef s.env ts)))/\(g=true->e.ob)/\(bif (e.upd.isSome&&o.guard.isSome)||(!e.rm.isEmpty&&(o.guard.isSome||(draw&&!isW op)))then False else(λ s'=>∃ s'',Q s''/\s''.objs=s'.objs/\((o.dst=none/\s''.env=s.env/\s'.env=Ef s.env ts)\/∃ d x,o.dst=some d/\s''.env=(d,x)::s.env/\s'.env=(d,x)::Ef s.env ts)) (DV o.dst o.guard.isSome g e ⟨Ef s.env ts,s.objs⟩))
     | none=>False):=by
    intro op hoo h;subst hoo;have e1:opA Γ.ty (λ x=>unG (Al (Ef s.env ts) x)) s.objs o.op=opA Γ.ty (λ x=>unG (Al s.env x)) s.objs o.op:=NO _ λ x hx=>by rw[hop x hx]
    have e2:o.op.operands.toList.map (Al (Ef s.env ts))=o.op.operands.toList.map (Al s.env):=JlX hop;rw[e1,e2];split at h
    ·rename_i e he;obtain⟨h1,h2,h3⟩:=h;refine⟨h1,h2,?_⟩;cases hc:((e.upd.isSome&&o.guard.isSome)||(!e.rm.isEmpty&&(o.guard.isSome||(draw&&!isW o.op))))with
     | true=>rw[hc]at h3;exact h3.elim
     | false=>
      rw[hc,cond_false]at h3;rw[cond_false];exact⟨_,h3,rfl,hput g e.v⟩
    ·exact h.elim
   split at h
   ·rename_i f args ts' hoo;have hargs:∀ x∈args.toList,Al (Ef s.env ts) x=Al s.env x:=λ x hx=>hop x (by rw[hoo];simp[Op.operands,Call.operands];exact .inr (by simpa using hx));have e2:args.toList.map (Al (Ef s.env ts))=args.toList.map (Al s.env):=JlX hargs;have e3:(args.toList.map λ x=>unG (Al (Ef s.env ts) x))=args.toList.map λ x=>unG (Al s.env x):=JlX λ x hx=>by rw[hargs x hx]
    rw[e2,e3];refine⟨h.1,?_⟩;have h:=h.2;unfold JD at h⊢;simp only;split at h
    ·rename_i ra hra;obtain⟨hob,m,r,hcall,hflat,hQ⟩:=h;exact⟨hob,m,r,hcall,hflat,_,hQ,rfl,hput g _⟩
    ·exact h.elim
   ·rename_i c x y hoo;have hcxy:opA Γ.ty (Al (Ef s.env ts)) s.objs (.pick c x y)=opA Γ.ty (Al s.env) s.objs (.pick c x y):=NO _ λ z hz=>hop z (by rw[hoo];exact hz);rw[hcxy];split at h
    ·rename_i e he;exact⟨h.1,_,h.2,rfl,hput g e.v⟩
    ·exact h.elim
   ·exact others _ rfl h
theorem PY:∀ {op:Op},Xu op=true->DG op=true
 | .alloc _,_=>rfl
 | .box _ _,_=>rfl
 | .buildSlice _ _ _,_=>rfl
 | .makeSlice _ _ _,_=>rfl
 | .makeMap _ _,_=>rfl
theorem M0 {Γ:Nat->Ty} {ev:Operand->AV} (op:Op) (hm:DG op=false) (hw:isW op=false):opA Γ ev objs op=opA Γ ev [] op:=by
 cases op with
 | call c=>
  obtain⟨callee,args,ts⟩:=c;cases callee with
  | value f=>rfl
  | invoke r m=>rfl
  | builtin b=>cases b<;>first|rfl|cases hw
 | unOp op t x=>cases op<;>rfl
 | slice t x lo hi mx=>cases mx<;>cases hi<;>rfl
 | load=>cases hm
 | store=>cases hw
 | mapUpdate=>cases hw
 | insert=>cases hw
 | lookup=>cases hm
 | makeSlice=>cases hm
 | makeMap=>cases hm
 | alloc=>cases hm
 | box=>cases hm
 | buildSlice=>cases hm
 | _=>rfl
theorem Jfj {op:Op} (h:Yo op=true):isW op=true:=by
 cases op<;>first|rfl|cases h
theorem Ta {Γ:Nat->Ty} {ev:Operand->AV} {op:Op} {e:Eff} (hn:Xu op=true) (he:opA Γ ev objs op=some e):e.upd=none/\e.obs.length=1:=by
 cases op with
 | makeSlice t x y=>
  simp only[opA]at he;cases hok:(Γ t).ok with
  | false=>rw[hok]at he;cases he
  | true=>
   rw[hok,cond_true]at he;split at he
   ·rename_i esz eb ez n c _ _ _;cases hc:(decide (1<=esz)&&decide (1<=eb))with
    | false=>rw[hc]at he;cases he
    | true=>rw[hc,cond_true]at he;cases he;exact⟨rfl,rfl⟩
   ·cases he
 | makeMap t r=>
  skip
  cases r with
  | none=>
   simp only[opA]at he;cases hok:(Γ t).ok with
   | false=>rw[hok]at he;cases he
   | true=>
    rw[hok,cond_true]at he;split at he
    ·cases he;exact⟨rfl,rfl⟩
    ·cases he
  | some x=>
   simp only[opA]at he;cases hok:(Γ t).ok with
   | false=>rw[hok]at he;cases he
   | true=>
    rw[hok,cond_true]at he;split at he
    ·cases he;exact⟨rfl,rfl⟩
    ·cases he
 | alloc t=>
  simp only[opA]at he;cases hok:(Γ t).ok with
  | false=>rw[hok]at he;cases he
  | true=>rw[hok,cond_true]at he;cases he;exact⟨rfl,rfl⟩
 | box t x=>
  simp only[opA]at he;cases hok:Bz (ev x)with
  | false=>rw[hok]at he;cases he
  | true=>rw[hok,cond_true]at he;cases he;exact⟨rfl,rfl⟩
 | buildSlice t len parts=>
  simp only[opA]at he;cases hok:(Γ t).ok&&decide (len<=1000)with
  | false=>rw[hok]at he;cases he
  | true=>
   rw[hok,cond_true]at he;split at he
   ·rename_i esz eb ez hkind;cases hc2:(decide (1<=esz)&&decide (esz<=1000)&&ez.length==esz)with
    | false=>rw[hc2]at he;cases he
    | true=>
     rw[hc2,cond_true]at he;split at he
     ·cases he;exact⟨rfl,rfl⟩
     ·cases he
   ·cases he
 | _=>cases hn
theorem US {Γ:Cx} (hΓ:Gv P Γ) {all:Array Oper} {o:Oper} {s s':St} {a:Act} {T:List (Option Ob)} (hnW:isW o.op=false) (h:A1 Γ true all.toList o (λ x=>x=s') s) (hS:Sim N H0 F0 F ρ T w.heap) (hSl:Cf F ρ s.env a.tmps)
  (hT:DG o.op=true->(∀ k ob,obA s'.objs k=some ob->obA T k=some ob)/\(∀ k,s.objs.length<=k->k<s'.objs.length->ρ k=none)/\s'.objs.length<=T.length)
  {K:Act->World->Prop} {Qw:Exit->Act->World->Prop}
  (hK:∀ v w' F' ρ',FLe F F'->RLe ρ ρ'->(∀ k,¬(s.objs.length<=k/\k<s'.objs.length)->ρ' k=ρ k)->Sim N H0 F0 F' ρ' T w'.heap->(∀ d,o.dst=some d->Ak F' ρ' (lkA s'.env d) v)->Mu w w'->K (a.put o.dst v) w') :
  if Region.wanted o (yielded all a.tmps)then o.wp P a w K Qw else K (a.put o.dst undef) w:=by
 unfold A1 at h;split at h
 ·exact h.elim
 ·rename_i g hg;have hw:=Gu hSl hg;rw[hw];have hgN:o.guard=none->g=true:=λ hx=>by rw[hx]at hg;cases hg;rfl
  cases hdst:BE Γ.nt o.dst with
  | false=>rw[hdst]at h;exact h.elim
  | true=>
   rw[hdst,JlM,cond_false]at h;have hlk:∀ (v:AV) (d:Tmp),o.dst=some d->lkA (putA o.dst o.guard.isSome g v s.env) d=bif o.guard.isSome then .gv g v else v:=λ v d hd=>by
    rw[hd];simp only[putA,Bi,if_true]
   have skip:∀ (v:AV),(∀ d,o.dst=some d->lkA s'.env d=bif o.guard.isSome then .gv g v else v)->g=false->K (a.put o.dst undef) w:=λ v hv hgv=>by
    refine hK undef w F ρ (FLe.refl _) (RLe.refl _) (λ _ _=>rfl) hS (λ d hd=>?_) (Mu.refl _);rw[hv d hd];have hgs:o.guard.isSome=true:=by
     cases hgo:o.guard with
     | none=>rw[hgN hgo]at hgv;cases hgv
     | some x=>rfl
    rw[hgs,hgv];exact .gvF _
   have rep:∀ (v:AV) (x:Value) (F':Nat->Option Obj) (ρ':Nat->Option Loc),g=true->Ak F' ρ' v x->Ak F' ρ' (bif o.guard.isSome then .gv g v else v) x:=λ v x F' ρ' hgt hv=>by
    cases o.guard.isSome with
    | true=>rw[hgt];exact .gvT _ _ hv
    | false=>exact hv
   by_cases hgc:g=true
   case neg=>
    have hgf:g=false:=by simpa using hgc
    obtain⟨v,obs,hm,hQ⟩:=h.2 hgf;rw[if_neg hgc];exact skip v (λ d hd=>by rw[← hQ,← hgf];exact hlk v d hd) hgf
   replace h:=h.1 hgc;rcases h with h|h|h
   case inr.inr=>exact absurd h.1 (by simp)
   case inr.inl=>
    unfold Fg at h;split at h
    ·rename_i es hes;obtain⟨hgob,hQ⟩:=h;rw[if_pos hgc];obtain⟨v,w',F',hr,hF,hS',hv,hmu⟩:=Oy hΓ.ty hS o hes λ x hx=>BM hgc _ hgob _ (List.mem_map_of_mem hx) _ (A5 hSl x);unfold Oper.wp;rw[hr,Oper.upon_value];refine hK v w' F' ρ hF (RLe.refl _) (λ _ _=>rfl) hS' (λ d hd=>?_) hmu;have:=hlk (.d (.sl es)) d hd;rw[← hQ];simp only;rw[this];exact rep _ v F' ρ hgc (.d _ _ hv)
    ·exact h.elim
   unfold stepG at h;have others:∀ op,o.op=op->(match opA Γ.ty (λ x=>unG (Al s.env x)) s.objs op with
     | some e=>Fu g (op.operands.toList.map (Al s.env))/\(g=true->e.ob)/\(bif (e.upd.isSome&&o.guard.isSome)||(!e.rm.isEmpty&&(o.guard.isSome||(true&&!isW op)))then False else(DV o.dst o.guard.isSome g e s)=s')
     | none=>False)->if g=true then o.wp P a w K Qw else K (a.put o.dst undef) w:=by
    intro op hop h;split at h
    ·rename_i e he;obtain⟨h1,h2,h3⟩:=h;subst hop;cases hc:((e.upd.isSome&&o.guard.isSome)||(!e.rm.isEmpty&&(o.guard.isSome||(true&&!isW o.op))))with
     | true=>rw[hc]at h3;exact h3.elim
     | false=>
      rw[hc,cond_false]at h3;have hrm:e.rm=[]:=by
       rw[hnW]at hc;simp only[Bool.not_false,Bool.and_true,Bool.or_true,JlY]at hc;exact isEmpty_nil (by simpa using hc.2)
      have hev:g=true->∀ x∈o.op.operands.toList,Ak F ρ (unG (Al s.env x)) (a.eval x):=λ hgt x hx=>BM hgt _ h1 _ (List.mem_map_of_mem hx) _ (A5 hSl x);have hsv:∀ d,o.dst=some d->lkA s'.env d=bif o.guard.isSome then .gv g e.v else e.v:=λ d hd=>by rw[← h3];exact hlk e.v d hd
      cases hgv:g with
      | false=>rw[if_neg (by simp)];exact skip e.v hsv hgv
      | true=>
       rw[if_pos rfl];rcases MV he with hq|hn|⟨args,ts,happ⟩|hst
       ·
        have hqs:e.quiet/\∃ v,(execOp a.eval o).run P w=.ok (.value v) w/\Ak F ρ e.v v:=by
         cases hm:DG o.op with
         | false=>
          rw[M0 o.op hm hnW]at he;exact CZ hΓ.ty hS (objs:=[]) (λ k ob hk=>by simp[obA]at hk) o hq he (h2 hgv) (hev hgv)
         | true=>
          have hT':=(hT hm).1;have hobs:∀ k ob,obA s.objs k=some ob->obA s'.objs k=some ob:=λ k ob hk=>by
           rw[← h3];have hld:e.obs=[]/\e.upd=none:=by
            cases hop:o.op with
            | load t p=>
             rw[hop]at he;simp only[opA]at he;cases hok:(Γ.ty t).ok with
             | false=>rw[hok]at he;cases he
             | true=>
              rw[hok,cond_true]at he;unfold CX at he;split at he
              ·split at he
               ·split at he
                ·exact⟨(AF he).1.1,(AF he).1.2.2⟩
                ·cases he
               ·cases he
              ·split at he
               ·split at he
                ·exact⟨(AF he).1.1,(AF he).1.2.2⟩
                ·cases he
               ·split at he
                ·exact⟨(AF he).1.1,(AF he).1.2.2⟩
                ·cases he
               ·cases he
              ·split at he
               ·exact⟨(AF he).1.1,(AF he).1.2.2⟩
               ·cases he
              ·cases he
            | lookup t m key ok=>
             rw[hop]at he;simp only[opA]at he;cases hok:(Γ.ty t).ok with
             | false=>rw[hok]at he;cases he
             | true=>
              rw[hok,cond_true]at he;unfold FT at he;split at he
              ·split at he
               ·rename_i ka va _ _ ka' va' ents r _ _;revert he;generalize (r.ks.isEmpty&&_&&_)=q;intro he;cases q with
                | false=>cases he
                | true=>exact⟨(AF he).1.1,(AF he).1.2.2⟩
               ·revert he;generalize (_&&_&&_&&_&&_&&_)=q;intro he;cases q with
                | false=>cases he
                | true=>exact⟨(AF he).1.1,(AF he).1.2.2⟩
               ·cases he
              ·cases he
            | call c=>obtain⟨callee,args,ts⟩:=c;rw[hop]at hq hm;cases callee<;>first|(cases hq;done)|(cases hm;done)
            | _=>rw[hop]at hm hq;first|(cases hm;done)|(cases hq;done)
           simp only[DV,hrm,hld.1,hld.2,rmA,BG,List.map_nil,List.append_nil];exact hk
          exact CZ hΓ.ty hS (λ k ob hk=>hT' k ob (hobs k ob hk)) o hq he (h2 hgv) (hev hgv)
        obtain⟨_,v,hv,hr⟩:=hqs;unfold Oper.wp;rw[hv,Oper.upon_value];exact hK v w F ρ (FLe.refl _) (RLe.refl _) (λ _ _=>rfl) hS (λ d hd=>by rw[hsv d hd];exact rep e.v v F ρ hgv hr) (Mu.refl _)
       ·
        have hm:DG o.op=true:=PY hn;obtain⟨t1,t2,t3⟩:=hT hm;have hupd:e.upd=none:=(Ta hn he).1;have hobjs:s'.objs=s.objs++e.obs.map some:=by rw[← h3];simp only[DV,hrm,hupd,rmA,BG]
        have hone:e.obs.length=1:=(Ta hn he).2;have hlen':s'.objs.length=s.objs.length+1:=by rw[hobjs];simp[hone]
        obtain⟨_,_,_,v,w',ρ',hv,hs,hle,hkeep,hr,hmu⟩:=Sh (O1:=T) (F':=F) hΓ.ty hS (λ k ob hk=>t1 k ob (by rw[hobjs,AM,if_pos (A6 hk)];exact hk)) o hn he (h2 hgv) (hev hgv) (FLe.refl _) (λ k L hk=>by rw[hrm]at hk;simp at hk) hS
         (λ i ob hi=>t1 _ ob (by rw[hobjs,AM,if_neg (by omega),show s.objs.length+i-s.objs.length=i by omega];exact E9 hi)) (t2 _ (JlO _) (by omega))
        unfold Oper.wp;rw[hv,Oper.upon_value];exact hK v w' F ρ' (FLe.refl _) hle (λ k hk=>hkeep k (by omega)) hs (λ d hd=>by rw[hsv d hd];exact rep e.v v F ρ' hgv hr) hmu
       ·rw[happ]at hnW;cases hnW
       ·rw[Jfj hst]at hnW;cases hnW
    ·exact h.elim
   split at h
   ·
    rename_i f args ts hop;obtain⟨hgob,h⟩:=h;unfold JD at h;split at h
    ·rename_i ra hra;obtain⟨hob,m,r,hcall,hflat,hQ⟩:=h;have hsv:∀ d,o.dst=some d->lkA s'.env d=bif o.guard.isSome then .gv g (BZ m s.objs.length r).1 else(BZ m s.objs.length r).1:=λ d hd=>by rw[← hQ];exact hlk _ d hd
     cases hgv:g with
     | false=>rw[if_neg (by simp)];exact skip _ hsv hgv
     | true=>
      rw[if_pos rfl];obtain⟨t1,t2,t3⟩:=hT (by rw[hop];rfl);have hobjs:s'.objs=s.objs++(BZ m s.objs.length r).2.map some:=by rw[← hQ]
      have hlen':s'.objs.length=s.objs.length+(BZ m s.objs.length r).2.length:=by rw[hobjs];simp
      refine UL (m:=m) (r:=r) (objs:=s.objs) (O:=T) (ev:=λ x=>unG (Al s.env x)) hop hS (λ k ob hk=>t1 k ob (by rw[hobjs,AM,if_pos (A6 hk)];exact hk)) hra (hob hgv) (λ x hx=>?_) (hΓ.calls _ _ _ (hcall hgv)) ?_ s.objs.length (λ k h1 h2=>t2 k h1 (by omega)) (λ i ob hi=>?_) (by omega) λ v w' G ρ'' hF hρ hkeep hS' hv hmu=>?_
      ·exact BM hgv _ hgob _ (List.mem_map_of_mem hx) _ (A5 hSl x)
      ·cases he:ra.ks.isEmpty with
       | true=>exact .inl (isEmpty_nil he)
       | false=>rw[he]at hflat;exact .inr hflat
      ·exact t1 _ ob (by rw[hobjs,AM,if_neg (by omega),show s.objs.length+i-s.objs.length=i by omega];exact E9 hi)
      ·exact hK v w' G ρ'' hF hρ (λ k hk=>hkeep k (by omega)) hS' (λ d hd=>by rw[hsv d hd];exact rep _ v G ρ'' hgv hv) hmu
    ·exact h.elim
   ·
    rename_i c x y hop;split at h
    ·rename_i e he;obtain⟨h2,h3⟩:=h;have he':opA Γ.ty (Al s.env) s.objs o.op=some e:=by rw[hop];exact he
     have hq:HX o.op=true:=by rw[hop];rfl
     have hsv:∀ d,o.dst=some d->lkA s'.env d=bif o.guard.isSome then .gv g e.v else e.v:=λ d hd=>by rw[← h3];exact hlk e.v d hd
     cases hgv:g with
     | false=>rw[if_neg (by simp)];exact skip e.v hsv hgv
     | true=>
      rw[if_pos rfl];rw[M0 o.op (by rw[hop];rfl) (by rw[hop];rfl)]at he';obtain⟨_,v,hv,hr⟩:=CZ hΓ.ty hS (objs:=[]) (λ k ob hk=>by simp[obA]at hk) o hq he' (h2 hgv) λ z _=>A5 hSl z;unfold Oper.wp;rw[hv,Oper.upon_value];exact hK v w F ρ (FLe.refl _) (RLe.refl _) (λ _ _=>rfl) hS (λ d hd=>by rw[hsv d hd];exact rep e.v v F ρ hgv hr) (Mu.refl _)
    ·exact h.elim
   ·exact others _ rfl h
end Go.AI
end
section
namespace Go.AI
variable {P:Program} {F F':Nat->Option Obj} {ρ ρ':Nat->Option Loc} {N:Nat->Prop} {H0 F0:Nat->Option Obj} {O objs:List (Option Ob)} {w:World} {w0:W0}
theorem PZ {Γ:Cx} {d:Bool} {all:List Oper} {o:Oper} {Q:St->Prop} {s:St} (h:A1 Γ d all o Q s):∃ s',Q s'/\A1 Γ d all o (λ x=>x=s') s:=by
 unfold A1 at h⊢;cases hg:Bw all s.env o.guard with
 | none=>rw[hg]at h;exact h.elim
 | some g=>
  rw[hg]at h;simp only at h⊢;cases hdst:BE Γ.nt o.dst with
  | false=>rw[hdst]at h;exact h.elim
  | true=>
   rw[hdst]at h;simp only[JlM,cond_false]at h⊢;by_cases hgc:g=true
   case neg=>
    have hgf:g=false:=by simpa using hgc
    obtain⟨v,obs,hm,hQ⟩:=h.2 hgf;exact⟨_,hQ,λ e=>absurd e hgc,λ _=>⟨v,obs,hm,rfl⟩⟩
   replace h:=h.1 hgc;rcases h with h|h|h
   case inr.inr=>
    suffices hh:∃ s',Q s'/\Xp Γ d o (λ x=>x=s') s g by
     obtain⟨s',h1,h2⟩:=hh;exact⟨s',h1,λ _=>.inr (.inr h2),λ e=>by rw[hgc]at e;cases e⟩
    obtain⟨hdr,⟨st',h1,h2⟩|⟨hgn,h⟩⟩:=h
    ·exact⟨_,h2,hdr,.inl ⟨_,h1,rfl⟩⟩
    unfold Xp;rcases h with h|h
    ·split at h
     ·rename_i esz es hes;obtain⟨h1,h2|h2⟩:=h
      ·exact⟨_,h2,hdr,.inr ⟨hgn,.inl ⟨h1,.inl rfl⟩⟩⟩
      ·exact⟨_,h2,hdr,.inr ⟨hgn,.inl ⟨h1,.inr rfl⟩⟩⟩
     ·exact h.elim
    ·split at h
     ·obtain⟨h1,nb,r,O1,g1,g2,g3,g4,g5⟩:=h;exact⟨_,g5,hdr,.inr ⟨hgn,.inr ⟨h1,nb,r,O1,g1,g2,g3,g4,rfl⟩⟩⟩
     ·exact h.elim
   case inr.inl=>
    suffices hh:∃ s',Q s'/\Fg Γ o (λ x=>x=s') s g by
     obtain⟨s',h1,h2⟩:=hh;exact⟨s',h1,λ _=>.inr (.inl h2),λ e=>by rw[hgc]at e;cases e⟩
    unfold Fg at h⊢;split at h
    ·exact⟨_,h.2,h.1,rfl⟩
    ·exact h.elim
   suffices hh:∃ s',Q s'/\stepG Γ d o (λ x=>x=s') s g by
    obtain⟨s',h1,h2⟩:=hh;exact⟨s',h1,λ _=>.inl h2,λ e=>by rw[hgc]at e;cases e⟩
   unfold stepG at h⊢;split at h
   ·obtain⟨h1,h⟩:=h;unfold JD at h⊢;split at h
    ·obtain⟨hob,m,r,hcall,hflat,hQ⟩:=h;exact⟨_,hQ,h1,hob,m,r,hcall,hflat,rfl⟩
    ·exact h.elim
   ·split at h
    ·exact⟨_,h.2,h.1,rfl⟩
    ·exact h.elim
   ·split at h
    ·rename_i e he;obtain⟨h1,h2,h3⟩:=h;cases hc:((e.upd.isSome&&o.guard.isSome)||(!e.rm.isEmpty&&(o.guard.isSome||(d&&!isW o.op))))with
     | true=>rw[hc]at h3;exact h3.elim
     | false=>
      rw[hc,cond_false]at h3;exact⟨_,h3,h1,h2,by rw[cond_false]⟩
    ·exact h.elim
theorem F7 {Γ:Cx} {d:Bool} {all:List Oper}:∀ (l:List Oper) (Q:St->Prop) (st:St),HR Γ d all l Q st ->
  ∃ S:Nat->St,S 0=st/\(∀ (i:Nat) o,l[i]?=some o->A1 Γ d all o (λ x=>x=S (i+1)) (S i))/\Q (S l.length):=by
 intro l;induction l with
 | nil=>intro Q st h;exact⟨λ _=>st,rfl,λ i o hi=>by simp at hi,h⟩
 | cons o l ih=>
  intro Q st h;obtain⟨s1,h1,h2⟩:=PZ h;obtain⟨S,h3,h4,h5⟩:=ih Q s1 h1;refine⟨λ i=>match i with|0=>st|i+1=>S i,rfl,λ i o' hi=>?_,h5⟩
  cases i with
  | zero=>simp at hi;subst hi;simp only[h3];exact h2
  | succ i=>exact h4 i o' (by simpa using hi)
theorem EQ {v:AV} {e:Eff} (h:val v=some e):e.quiet:=(AG h).1
theorem CJ {v:AV} {ob:Prop} {e:Eff} (h:A9 v ob=some e):e.quiet:=(AF h).1
theorem E2 {b:Bool} {x:Option Eff} {e:Eff} (h:(bif b then x else none)=some e):x=some e:=by
 cases b with
 | true=>exact h
 | false=>cases h
theorem Jfk {op:BinOp} {k:IntKind} {a b:Int} {e:Eff} (h:V2 op k a b=some e):e.quiet:=by
 cases op<;>simp only[V2]at h<;>first|exact EQ h|exact CJ h|cases h
theorem UT {op:BinOp} {k:IntKind} {a b:Int} {e:Eff} (h:NI op k a b=some e):e.quiet:=by
 cases op<;>simp only[NI]at h<;>first|exact CJ h|cases h
theorem Jfl {op:BinOp} {a b:List UInt8} {e:Eff} (h:Um op a b=some e):e.quiet:=by
 cases op<;>simp only[Um]at h<;>first|exact EQ h|exact CJ h|cases h
theorem Tb {Γ:Nat->Ty} {ev:Operand->AV} {op:Op} {e:Eff} (hq:HX op=true) (h:opA Γ ev objs op=some e):e.quiet:=by
 cases op with
 | move x=>exact EQ h
 | assign x=>exact EQ h
 | pick c a b=>
  simp only[opA,G9]at h;split at h
  ·split at h
   ·exact CJ h
   ·cases h
  ·cases h
 | build t parts=>
  simp only[opA]at h;cases hok:(Γ t).ok with
  | false=>rw[hok]at h;cases h
  | true=>
   rw[hok,cond_true]at h;split at h
   ·exact EQ h
   ·cases h
 | load t p=>
  simp only[opA]at h;cases hok:(Γ t).ok with
  | false=>rw[hok]at h;cases h
  | true=>
   rw[hok,cond_true]at h;unfold CX at h;split at h
   ·split at h
    ·split at h
     ·exact CJ h
     ·cases h
    ·cases h
   ·split at h
    ·split at h
     ·exact CJ h
     ·cases h
    ·split at h
     ·exact CJ h
     ·cases h
    ·cases h
   ·split at h
    ·exact CJ h
    ·cases h
   ·cases h
 | nilCheck x=>
  simp only[opA]at h;split at h<;>first|exact EQ h|cases h
 | binOp op t x y u=>
  simp only[opA,Yc]at h;split at h
  ·split at h
   ·exact UT h
   ·exact UT h
   ·exact Jfk (E2 h)
  ·exact Jfl h
  ·split at h
   ·cases hok:(Γ t).ok with
    | false=>rw[hok]at h;cases h
    | true=>rw[hok,cond_true]at h;split at h<;>first|exact EQ h|cases h
   ·cases h
  ·cases hok:!(Γ t).eqk.isEmpty&&(Γ t).ok with
   | false=>rw[hok]at h;cases h
   | true=>rw[hok,cond_true]at h;split at h<;>first|exact EQ h|cases h
  ·cases h
 | unOp op t x=>
  cases op<;>simp only[opA]at h<;>first|(cases h;done)|(split at h<;>first|exact EQ h|cases h)
 | convert s t x=>
  simp only[opA]at h;cases hok:(Γ s).ok&&(Γ t).ok with
  | false=>rw[hok]at h;cases h
  | true=>rw[hok,cond_true]at h;unfold ML at h;split at h<;>first|exact EQ h|(split at h<;>first|exact CJ h|cases h)|cases h
 | slice t x lo hi mx=>
  cases mx with
  | some m=>
   cases hi with
   | none=>cases h
   | some hi=>
    simp only[opA]at h;cases hok:(Γ t).ok with
    | false=>rw[hok]at h;cases h
    | true=>
     rw[hok,cond_true]at h;unfold IT at h;split at h<;>first
      | (split at h<;>first|exact CJ h|cases h)
      | cases h
  | none=>
   simp only[opA]at h;cases hok:(Γ t).ok with
   | false=>rw[hok]at h;cases h
   | true=>
    rw[hok,cond_true]at h;unfold Pz at h;split at h<;>first
     | (split at h<;>first|exact CJ h|cases h)
     | cases h
 | fieldAddr s x f=>
  simp only[opA]at h;cases hok:(Γ s).ok with
  | false=>rw[hok]at h;cases h
  | true=>
   rw[hok,cond_true]at h;unfold Kf at h;split at h
   ·split at h
    ·split at h<;>first|exact EQ h|cases h
    ·cases h
   ·cases h
 | field s x f=>
  simp only[opA]at h;cases hok:(Γ s).ok with
  | false=>rw[hok]at h;cases h
  | true=>
   rw[hok,cond_true]at h;unfold PA at h;split at h
   ·split at h
    ·split at h
     ·split at h<;>first|exact EQ h|cases h
     ·cases h
    ·cases h
   ·cases h
 | indexAddr t x i=>
  simp only[opA]at h;cases hok:(Γ t).ok with
  | false=>rw[hok]at h;cases h
  | true=>
   rw[hok,cond_true]at h;split at h
   ·unfold Rw at h;split at h<;>first|exact CJ h|cases h
   ·cases h
 | index t x i=>
  simp only[opA]at h;cases hok:(Γ t).ok with
  | false=>rw[hok]at h;cases h
  | true=>
   rw[hok,cond_true]at h;split at h
   ·exact CJ h
   ·cases h
 | extract x i=>
  simp only[opA]at h;split at h
  ·split at h
   ·exact EQ h
   ·cases h
  ·cases h
 | call c=>
  obtain⟨callee,args,ts⟩:=c;cases callee with
  | value f=>cases h
  | invoke r m=>cases h
  | builtin b=>
   cases b<;>try (simp[HX]at hq;done)
   case len=>
    simp only[opA]at h;split at h
    ·rename_i x t _ _;cases hok:(Γ t).ok with
     | false=>rw[hok]at h;cases h
     | true=>rw[hok,cond_true]at h;unfold V3 at h;split at h<;>first|exact EQ h|cases h
    ·cases h
   case min=>simp only[opA]at h;split at h<;>first|exact EQ h|cases h
   case max=>simp only[opA]at h;split at h<;>first|exact EQ h|cases h
 | lookup t m key ok=>
  simp only[opA]at h;cases hok:(Γ t).ok with
  | false=>rw[hok]at h;cases h
  | true=>
   rw[hok,cond_true]at h;unfold FT at h;split at h
   ·split at h
    ·rename_i r _ _;revert h;generalize (r.ks.isEmpty&&_&&_)=q;intro h;cases q with
     | false=>cases h
     | true=>exact CJ h
    ·revert h;generalize (_&&_&&_&&_&&_&&_)=q;intro h;cases q with
     | false=>cases h
     | true=>exact CJ h
    ·cases h
   ·cases h
 | _=>cases hq
theorem NP {Γ:Nat->Ty} {ev:Operand->AV} {op:Op} {e:Eff} (hW:isW op=false) (h:opA Γ ev objs op=some e):e.upd=none:=by
 rcases MV h with hq|hn|⟨args,ts,happ⟩|hst
 ·exact(Tb hq h).2.2
 ·exact(Ta hn h).1
 ·subst happ;cases hW
 ·rw[Jfj hst]at hW;cases hW
theorem Sl {Γ:Nat->Ty} {ev:Operand->AV} {op:Op} {e:Eff} (hW:isW op=false) (hm:DG op=false) (h:opA Γ ev objs op=some e):e.obs=[]:=by
 rcases MV h with hq|hn|⟨args,ts,happ⟩|hst
 ·exact(Tb hq h).1
 ·rw[PY hn]at hm;cases hm
 ·subst happ;cases hW
 ·rw[Jfj hst]at hW;cases hW
theorem F8 {Γ:Cx} {all:List Oper} {o:Oper} {s s':St} (h:A1 Γ true all o (λ x=>x=s') s) :
  ((o.dst=none/\s'.env=s.env)\/∃ d x,o.dst=some d/\s'.env=(d,x)::s.env)/\(isW o.op=false->∃ obs,s'.objs=s.objs++obs)/\(isW o.op=false->DG o.op=false->s'.objs=s.objs):=by
 have hput:∀ g v,((o.dst=none/\putA o.dst o.guard.isSome g v s.env=s.env)\/∃ d x,o.dst=some d/\putA o.dst o.guard.isSome g v s.env=(d,x)::s.env):=λ g v=>by
  cases o.dst with
  | none=>exact .inl ⟨rfl,rfl⟩
  | some d=>exact .inr ⟨d,_,rfl,rfl⟩
 unfold A1 at h;cases hg:Bw all s.env o.guard with
 | none=>rw[hg]at h;exact h.elim
 | some g=>
  rw[hg]at h;simp only at h;cases hdst:BE Γ.nt o.dst with
  | false=>rw[hdst]at h;exact h.elim
  | true=>
   rw[hdst]at h;simp only[JlM,cond_false]at h;by_cases hgc:g=true
   case neg=>
    have hgf:g=false:=by simpa using hgc
    obtain⟨v,obs,hm,hQ⟩:=h.2 hgf;subst hQ;exact⟨hput false v,λ _=>⟨_,rfl⟩,λ _ hmem=>by rw[hm hmem];simp⟩
   replace h:=h.1 hgc;rcases h with h|h|h
   case inr.inr=>exact absurd h.1 (by simp)
   case inr.inl=>
    unfold Fg at h;split at h
    ·obtain⟨_,hQ⟩:=h;subst hQ;exact⟨hput _ _,λ _=>⟨[],by simp⟩,λ _ _=>rfl⟩
    ·exact h.elim
   unfold stepG at h;split at h
   ·rename_i f args ts hop;obtain⟨h1,h⟩:=h;unfold JD at h;split at h
    ·obtain⟨hob,m,r,hcall,hflat,hQ⟩:=h;subst hQ;exact⟨hput _ _,λ _=>⟨_,rfl⟩,λ _ hm=>by rw[hop]at hm;cases hm⟩
    ·exact h.elim
   ·rename_i c x y hop;split at h
    ·rename_i e he;obtain⟨h2,h3⟩:=h;subst h3;have hpick:G9 (Al s.env c) (Al s.env x) (Al s.env y)=some e:=he;have hqt:e.quiet:=by
      unfold G9 at hpick;split at hpick
      ·split at hpick
       ·exact(AF hpick).1
       ·cases hpick
      ·cases hpick
     have e1:(DV o.dst o.guard.isSome g e s).objs=s.objs:=by simp[DV,hqt.1,hqt.2.1,hqt.2.2,rmA,BG]
     exact⟨hput _ _,λ _=>⟨[],by rw[e1];simp⟩,λ _ _=>e1⟩
    ·exact h.elim
   ·split at h
    ·rename_i e he;obtain⟨h1,h2,h3⟩:=h;cases hc:((e.upd.isSome&&o.guard.isSome)||(!e.rm.isEmpty&&(o.guard.isSome||(true&&!isW o.op))))with
     | true=>rw[hc]at h3;exact h3.elim
     | false=>
      rw[hc,cond_false]at h3;subst h3;refine⟨hput _ _,λ hW=>?_,λ hW hm=>?_⟩
      ·have hrm:e.rm=[]:=by
        rw[hW]at hc;simp only[Bool.not_false,Bool.and_true,Bool.or_true,JlY]at hc;exact isEmpty_nil (by simpa using hc.2)
       have hupd:e.upd=none:=NP hW he;exact⟨_,by simp only[DV,hrm,hupd,rmA,BG];rfl⟩
      ·have hrm:e.rm=[]:=by
        rw[hW]at hc;simp only[Bool.not_false,Bool.and_true,Bool.or_true,JlY]at hc;exact isEmpty_nil (by simpa using hc.2)
       have hupd:e.upd=none:=NP hW he;have hobs:e.obs=[]:=Sl hW hm he;simp[DV,hrm,hupd,hobs,rmA,BG]
    ·exact h.elim
end Go.AI
end
section
namespace Go.AI
variable {P:Program} {F F':Nat->Option Obj} {ρ ρ':Nat->Option Loc} {N:Nat->Prop} {H0 F0:Nat->Option Obj} {O objs:List (Option Ob)} {w:World} {w0:W0}
theorem Jfm {Γ:Cx} (hΓ:Gv P Γ) {all:Array Oper} {o:Oper} {s s':St} {a:Act} (hW:isW o.op=true) (h:A1 Γ true all.toList o (λ x=>x=s') s) (hS:Sim N H0 F0 F ρ s.objs w.heap) (hSl:Cf F ρ s.env a.tmps)
  {K:Act->World->Prop} {Qw:Exit->Act->World->Prop}
  (hK:∀ v w' F' ρ',FLe F F'->RLe ρ ρ'->Sim N H0 F0 F' ρ' s'.objs w'.heap->(∀ d,o.dst=some d->Ak F' ρ' (lkA s'.env d) v)->Mu w w'->K (a.put o.dst v) w') :
  if Region.wanted o (yielded all a.tmps)then o.wp P a w K Qw else K (a.put o.dst undef) w:=by
 unfold A1 at h;split at h
 ·exact h.elim
 ·rename_i g hg;have hw:=Gu hSl hg;rw[hw];have hgN:o.guard=none->g=true:=λ hx=>by rw[hx]at hg;cases hg;rfl
  cases hdst:BE Γ.nt o.dst with
  | false=>rw[hdst]at h;exact h.elim
  | true=>
   rw[hdst,JlM,cond_false]at h;have hlk:∀ (v:AV) (d:Tmp),o.dst=some d->lkA (putA o.dst o.guard.isSome g v s.env) d=bif o.guard.isSome then .gv g v else v:=λ v d hd=>by
    rw[hd];simp only[putA,Bi,if_true]
   by_cases hgc:g=true
   case neg=>
    have hgf:g=false:=by simpa using hgc
    obtain⟨v,obs,hm,hQ⟩:=h.2 hgf;subst hQ;rw[if_neg hgc];have hgs:o.guard.isSome=true:=by
     cases hgo:o.guard with
     | none=>exact absurd (hgN hgo) hgc
     | some x=>rfl
    refine hK undef w F ρ (FLe.refl _) (RLe.refl _) (hS.grow _) (λ d hd=>?_) (Mu.refl _);have:=hlk v d hd;rw[hgf]at this;simp only at this⊢;rw[this,hgs];exact .gvF _
   replace h:=h.1 hgc;rcases h with h|h|h
   case inr.inr=>exact absurd h.1 (by simp)
   case inr.inl=>
    unfold Fg at h;split at h
    ·rename_i es hes;cases hop:o.op with
     | buildSlice=>rw[hop]at hW;cases hW
     | _=>rw[hop]at hes;cases hes
    ·exact h.elim
   unfold stepG at h;split at h
   ·rename_i f args ts hop;rw[hop]at hW;cases hW
   ·rename_i c x y hop;rw[hop]at hW;cases hW
   ·split at h
    ·rename_i e he;obtain⟨h1,h2,h3⟩:=h;cases hc:((e.upd.isSome&&o.guard.isSome)||(!e.rm.isEmpty&&(o.guard.isSome||(true&&!isW o.op))))with
     | true=>rw[hc]at h3;exact h3.elim
     | false=>
      rw[hc,cond_false]at h3;subst h3;cases hgv:g with
      | true=>
       rw[if_pos rfl];obtain⟨v,w',F',ρ',hr,hF,hρ,hS',hv,hmu⟩:=Wg hΓ.ty o hS he (h2 hgv) λ x hx=>BM hgv _ h1 _ (List.mem_map_of_mem hx) _ (A5 hSl x);have hfin:K (a.put o.dst v) w':=hK v w' F' ρ' hF hρ hS' (λ d hd=>by
        simp only[DV];rw[hlk e.v d hd];cases o.guard.isSome with
        | true=>rw[hgv];exact .gvT _ _ hv
        | false=>exact hv) hmu
       unfold Oper.wp;rcases hr with hr|⟨hr,rfl⟩
       ·rw[hr,Oper.upon_value];exact hfin
       ·rw[hr,Oper.upon_skip];exact hfin
      | false=>
       rw[if_neg (by simp)];have hgs:o.guard.isSome=true:=by
        cases hgo:o.guard with
        | none=>rw[hgN hgo]at hgv;cases hgv
        | some x=>rfl
       rw[hgs]at hc;simp only[Bool.and_true,Bool.true_or,JlY]at hc;have e1:e.upd=none:=by cases hu:e.upd with|none=>rfl|some x=>rw[hu]at hc;simp at hc
       have e2:e.rm=[]:=isEmpty_nil (by simpa using hc.2);refine hK undef w F ρ (FLe.refl _) (RLe.refl _) (by simp only[DV,e1,e2,rmA,BG];exact hS.grow _) (λ d hd=>?_) (Mu.refl _);simp only[DV];rw[hlk e.v d hd,hgs,hgv];exact .gvF _
    ·exact h.elim
inductive Gw (ops:Array Oper):Nat->Nat->Prop
 | one {j i:Nat}:Region.waitsFor .any ops j i=true->Gw ops j i
 | step {j k i:Nat}:Region.waitsFor .any ops j k=true->Gw ops k i->Gw ops j i
theorem Wl (acc:Array Nat) (i:Nat):∀ (es:List Edge) (s:Nat),(es.foldl (λ s e=>if Region.binds .any e then s ||| 2 ^ e.on ||| acc.getD e.on 0 else s) s).testBit i=true ->
  s.testBit i=true\/∃ e∈es,Region.binds .any e=true/\(e.on=i\/(acc.getD e.on 0).testBit i=true):=by
 intro es;induction es with
 | nil=>intro s h;exact .inl h
 | cons e es ih=>
  intro s h;rw[List.foldl_cons]at h;rcases ih _ h with h'|⟨e',he',hb,hh⟩
  ·by_cases hb:Region.binds .any e=true
   ·rw[if_pos hb]at h';simp only[Nat.testBit_or,Jmi]at h';rcases h' with (h'|h')|h'
    ·exact .inl h'
    ·right;refine⟨e,by simp,hb,.inl ?_⟩;rw[Nat.testBit_two_pow]at h';simpa using h'
    ·exact .inr ⟨e,by simp,hb,.inr h'⟩
   ·rw[if_neg hb]at h';exact .inl h'
  ·exact .inr ⟨e',by simp[he'],hb,hh⟩
theorem UU {ops:Array Oper} {j:Nat} {o:Oper} {e:Edge} (ho:ops[j]?=some o) (he:e∈o.after.toList) (hb:Region.binds .any e=true):Region.waitsFor .any ops j e.on=true:=by
 unfold Region.waitsFor;rw[ho];simp only[Array.any_eq_true'];exact⟨e,by simpa using he,by simp[hb]⟩
theorem UV (ops:Array Oper):∀ (l:List Oper) (acc:Array Nat),(∀ (i:Nat),l[i]?=ops[acc.size+i]?)->(∀ j i,(acc.getD j 0).testBit i=true->Gw ops j i) ->
  ∀ j i,((l.foldl (λ acc o=>acc.push (o.after.foldl (λ s e=>if Region.binds .any e then s ||| 2 ^ e.on ||| acc.getD e.on 0 else s) 0)) acc).getD j 0).testBit i=true->Gw ops j i:=by
 intro l;induction l with
 | nil=>intro acc _ h;exact h
 | cons o l ih=>
  intro acc hl hacc;rw[List.foldl_cons];refine ih _ (λ i=>?_) (λ j i hj=>?_)
  ·have:=hl (i+1);simp only[List.getElem?_cons_succ]at this;rw[this];congr 1;simp;omega
  ·have ho:ops[acc.size]?=some o:=by have:=hl 0;simpa using this.symm
   rcases Nat.lt_trichotomy j acc.size with hlt|heq|hgt
   ·refine hacc j i ?_;rw[Jl5]at hj⊢;rwa[Array.getElem?_push,if_neg (by omega)]at hj
   ·subst heq;rw[Jl5,Array.getElem?_push,if_pos rfl,JlK,← Array.foldl_toList]at hj;rcases Wl acc i _ _ hj with h|⟨e,he,hb,h⟩
    ·simp at h
    ·have hwf:=UU ho he hb;rcases h with h|h
     ·subst h;exact .one hwf
     ·exact .step hwf (hacc _ _ h)
   ·rw[Jl5,Array.getElem?_eq_none (by simp;omega)]at hj;simp at hj
theorem Ck (ops:Array Oper) (j i:Nat) (h:((Region.before ops).getD j 0).testBit i=true):Gw ops j i:=by
 unfold Region.before at h;rw[← Array.foldl_toList]at h;exact UV ops ops.toList #[] (λ i=>by simp) (λ j i h=>by simp at h) j i h
structure Wm (ops:Array Oper):Prop where
 back:∀ (j:Nat) oj,ops[j]?=some oj->∀ e∈oj.after.toList,Region.binds .any e=true->e.on<j
 dst:∀ (i j:Nat) oi oj d,ops[i]?=some oi->ops[j]?=some oj->i≠j->oi.dst=some d->oj.dst≠some d
 deps:∀ (i j:Nat) oi oj d,ops[i]?=some oi->ops[j]?=some oj->i<j->oi.dst=some d->d∈CH ops.toList oj->Region.waitsFor .any ops j i=true
 anti:∀ (i j:Nat) oi oj d,ops[i]?=some oi->ops[j]?=some oj->j<i->oi.dst=some d->d∈CH ops.toList oj->Region.waitsFor .any ops i j=true
 mem:∀ (i j:Nat) oi oj,ops[i]?=some oi->ops[j]?=some oj->isW oj.op=true->DG oi.op=true->i<j/\Gw ops j i
 ww:∀ (i j:Nat) oi oj,ops[i]?=some oi->ops[j]?=some oj->isW oj.op=true->isW oi.op=true->i<j->Gw ops j i
theorem Yz {op:Op} (h:DG op=true):isW op=false:=by
 cases op with
 | call c=>obtain⟨callee,args,ts⟩:=c;cases callee<;>first|rfl|cases h
 | _=>first|rfl|cases h
theorem ZY {ops:Array Oper} (h:MP ops=true):Wm ops:=by
 unfold MP at h;have hz:∀ (j:Nat) oj,ops[j]?=some oj->(oj,j)∈ops.toList.zipIdx:=λ j oj hj=>by
  rw[List.mem_zipIdx_iff_getElem?];simpa using hj
 have h1:∀ (j:Nat) oj,ops[j]?=some oj->(∀ e∈oj.after.toList,Region.binds .any e=true->e.on<j)/\∀ (i:Nat) oi,ops[i]?=some oi->Oq ops (Region.before ops) i j oi oj=true:=by
  intro j oj hj;have:=JlJ.1 h _ (hz j oj hj);simp only[Jl0]at this;refine⟨λ e he hb=>?_,λ i oi hi=>JlJ.1 this.2 _ (hz i oi hi)⟩;have:=Array.all_eq_true'.1 this.1 e (by simpa using he);simpa [hb]using this
 have h2:∀ (i j:Nat) oi oj,ops[i]?=some oi->ops[j]?=some oj->i≠j->Oq ops (Region.before ops) i j oi oj=true:=λ i j oi oj hi hj _=>(h1 j oj hj).2 i oi hi;refine { back:=λ j oj hj=>(h1 j oj hj).1,dst:=λ i j oi oj d hi hj hne hd=>?_,deps:=λ i j oi oj d hi hj hlt hd hr=>?_,anti:=λ i j oi oj d hi hj hlt hd hr=>?_,mem:=λ i j oi oj hi hj hW hm=>?_,ww:=λ i j oi oj hi hj hW hW' hlt=>?_ }
 ·have:=h2 i j oi oj hi hj hne;simp only[Oq,hd,Jmi,beq_iff_eq,hne,false_or,Jl0,bne_iff_ne]at this;exact this.1.1
 ·have:=h2 i j oi oj hi hj (by omega);simp only[Oq,hd,Jmi,beq_iff_eq,show i≠j by omega,false_or,Jl0]at this;have:=this.1.2;simpa [hr,hlt]using this
 ·have:=h2 i j oi oj hi hj (by omega);simp only[Oq,hd,Jmi,beq_iff_eq,show i≠j by omega,false_or,Jl0]at this;have:=this.1.2;simpa [hr,show ¬ i<j by omega]using this
 ·have hne:i≠j:=λ e=>by
   subst e;rw[hi]at hj;cases hj;rw[Yz hm]at hW;cases hW
  have:=h2 i j oi oj hi hj hne;simp only[Oq,Jmi,beq_iff_eq,hne,false_or,Jl0]at this;have:=this.2;simp only[hW,hm,JlM,Jmb,false_or,decide_eq_true_eq]at this;exact⟨this.1.1,Ck ops j i this.1.2⟩
 ·have:=h2 i j oi oj hi hj (by omega);simp only[Oq,Jmi,beq_iff_eq,show i≠j by omega,false_or,Jl0]at this;have:=this.2;simp only[hW,hW',JlM,Jmb,false_or,decide_eq_true_eq]at this;rcases this.2 with h|h
  ·omega
  ·exact Ck ops j i h
end Go.AI
end
section
namespace Go.AI
variable {P:Program} {F F':Nat->Option Obj} {ρ ρ':Nat->Option Loc} {N:Nat->Prop} {H0 F0:Nat->Option Obj} {O objs:List (Option Ob)} {w:World} {w0:W0}
theorem UW {Γ:Cx} {d:Bool} {all:List Oper} {o:Oper} {Q:St->Prop} {s:St} (h:A1 Γ d all o Q s):BE Γ.nt o.dst=true:=by
 unfold A1 at h;cases hg:Bw all s.env o.guard with
 | none=>rw[hg]at h;exact h.elim
 | some g=>
  rw[hg]at h;simp only at h;cases hdst:BE Γ.nt o.dst with
  | false=>rw[hdst]at h;exact h.elim
  | true=>rfl
def unl (listed:Array Bool):Nat->Nat
 | 0=>0
 | n+1=>unl listed n+(if listed.getD n false=true then 0 else 1)
theorem ZZ {l l':Array Bool}:∀ n,(∀ k,k<n->l'.getD k false=l.getD k false)->unl l' n=unl l n:=by
 intro n;induction n with
 | zero=>intro _;rfl
 | succ n ih=>intro h;simp only[unl];rw[ih (λ k hk=>h k (by omega)),h n (by omega)]
theorem Pr {l:Array Bool} {i:Nat} (hs:i<l.size) (hu:l.getD i false=false):∀ n,i<n->unl (l.setIfInBounds i true) n+1=unl l n:=by
 have hne:∀ k,k≠i->(l.setIfInBounds i true).getD k false=l.getD k false:=λ k hk=>by
  rw[Jl5,Jl5,JlQ (Ne.symm hk)]
 have heq:(l.setIfInBounds i true).getD i false=true:=by simp[hs]
 intro n;induction n with
 | zero=>intro h;omega
 | succ n ih=>
  intro h;simp only[unl];by_cases e:i=n
  ·subst e;rw[ZZ i (λ k hk=>hne k (by omega)),heq,hu];simp
  ·rw[hne n (Ne.symm e)];have:=ih (by omega);omega
theorem M1 {l:Array Bool}:∀ n,unl l n=0->∀ k,k<n->l.getD k false=true:=by
 intro n;induction n with
 | zero=>intro _ k hk;omega
 | succ n ih=>
  intro h k hk;simp only[unl]at h;by_cases e:k=n
  ·subst e;cases hl:l.getD k false with
   | true=>rfl
   | false=>rw[hl]at h;simp at h
  ·exact ih (by omega) k (by omega)
section law
variable {Γ:Cx} {ops:Array Oper} (S:Nat->St) (n1:Nat)
structure DI (N:Nat->Prop) (H0 F0:Nat->Option Obj) (w0:W0) (nt:Slt) (ops:Array Oper) (S:Nat->St) (n1:Nat) (listed:Array Bool) (a:Act) (w:World):Prop where
 size:listed.size=ops.size
 closed:∀ (j:Nat) oj,ops[j]?=some oj->listed.getD j false=true->∀ e∈oj.after.toList,Region.binds .any e=true->listed.getD e.on false=true
 tsz:TS nt w0.kp a.tmps
 defers:Mu w0.w w
 ex:∃ F ρ q,(RK w0 nt ρ/\Dfr w0 nt F a.defers)/\n1<=q/\q<=ops.size/\(∀ (i:Nat) o,ops[i]?=some o->isW o.op=true->(listed.getD i false=true↔i<q))/\Sim N H0 F0 F ρ (S q).objs w.heap /\
  (∀ t,(∀ (i:Nat) o,ops[i]?=some o->o.dst=some t->listed.getD i false=true->Ak F ρ (lkA (S (i+1)).env t) (a.tmps.getD t undef))/\((∀ (i:Nat) o,ops[i]?=some o->o.dst=some t->listed.getD i false=false)->Ak F ρ (lkA (S 0).env t) (a.tmps.getD t undef))) /\
  (q=n1->∀ k L,ρ k=some L->k<(S 0).objs.length\/∃ i,listed.getD i false=true/\i<n1/\(S i).objs.length<=k/\k<(S (i+1)).objs.length)
variable {S} {n1}
theorem Sm (_ok:Wm ops) (hst:∀ (i:Nat) o,ops[i]?=some o->A1 Γ true ops.toList o (λ x=>x=S (i+1)) (S i)):∀ j,j<=ops.size->∀ t,(∃ i o,i<j/\ops[i]?=some o/\o.dst=some t/\lkA (S j).env t=lkA (S (i+1)).env t)\/((∀ i o,i<j->ops[i]?=some o->o.dst≠some t)/\lkA (S j).env t=lkA (S 0).env t):=by
 intro j;induction j with
 | zero=>intro _ t;exact .inr ⟨λ i o hi=>by omega,rfl⟩
 | succ j ih=>
  intro hj t;have hoj:=Jl4 (show j<ops.size by omega);obtain⟨hsh,_⟩:=F8 (hst j _ hoj);by_cases hd:(ops[j]).dst=some t
  ·exact .inl ⟨j,_,by omega,hoj,hd,rfl⟩
  ·have hlk:lkA (S (j+1)).env t=lkA (S j).env t:=by
    rcases hsh with⟨_,h⟩|⟨d,x,hdd,h⟩
    ·rw[h]
    ·rw[h,Bi,if_neg];intro e;subst e;exact hd hdd
   rcases ih (by omega) t with⟨i,o,h1,h2,h3,h4⟩|⟨h1,h2⟩
   ·exact .inl ⟨i,o,by omega,h2,h3,by rw[hlk,h4]⟩
   ·refine .inr ⟨λ i o hi ho=>?_,by rw[hlk,h2]⟩;by_cases e:i=j
    ·subst e;rw[hoj]at ho;cases ho;exact hd
    ·exact h1 i o (by omega) ho
theorem Ir (hst:∀ (i:Nat) o,ops[i]?=some o->A1 Γ true ops.toList o (λ x=>x=S (i+1)) (S i)) (hn1:n1<=ops.size) (hhead:∀ (i:Nat) o,ops[i]?=some o->i<n1->isW o.op=false):∀ d i,i+d<=n1->∃ obs,(S (i+d)).objs=(S i).objs++obs:=by
 intro d;induction d with
 | zero=>intro i _;exact⟨[],by simp⟩
 | succ d ih=>
  intro i hi;obtain⟨obs,h⟩:=ih i (by omega);have ho:=Jl4 (show i+d<ops.size by omega);obtain⟨_,h1,_⟩:=F8 (hst (i+d) _ ho);obtain⟨obs',h'⟩:=h1 (hhead _ _ ho (by omega));exact⟨obs++obs',by rw[← JlT,h',h,List.append_assoc]⟩
theorem Sn (hst:∀ (i:Nat) o,ops[i]?=some o->A1 Γ true ops.toList o (λ x=>x=S (i+1)) (S i)):∀ d q,q+d<=ops.size->(∀ (i:Nat) o,ops[i]?=some o->q<=i->i<q+d->isW o.op=false/\DG o.op=false)->(S (q+d)).objs=(S q).objs:=by
 intro d;induction d with
 | zero=>intro q _ _;rfl
 | succ d ih=>
  intro q hq hno;have ho:=Jl4 (show q+d<ops.size by omega);obtain⟨_,_,h1⟩:=F8 (hst (q+d) _ ho);obtain⟨a1,a2⟩:=hno _ _ ho (by omega) (by omega);rw[← JlT,h1 a1 a2];exact ih q (by omega) λ i o hi h1 h2=>hno i o hi h1 (by omega)
theorem BJ {listed:Array Bool} (hcl:∀ (j:Nat) oj,ops[j]?=some oj->listed.getD j false=true->∀ e∈oj.after.toList,Region.binds .any e=true->listed.getD e.on false=true) {j i:Nat} (h:Gw ops j i) :
  (∀ k,Region.waitsFor .any ops j k=true->listed.getD k false=true)->listed.getD i false=true:=by
 induction h with
 | one h1=>intro hd;exact hd _ h1
 | @step j k i h1 h2 ih=>
  intro hd;refine ih λ m hm=>?_;obtain⟨ok,hok,e,he,hb,hon⟩:=Region.waitsFor_spec hm;rw[← hon];exact hcl k ok hok (hd k h1) e (by simpa using he) hb
theorem Z0 (hΓ:Gv P Γ) (ok:Wm ops) (hst:∀ (i:Nat) o,ops[i]?=some o->A1 Γ true ops.toList o (λ x=>x=S (i+1)) (S i)) (hn1:n1<=ops.size) (hhead:∀ (i:Nat) o,ops[i]?=some o->i<n1->isW o.op=false) (hW1:n1<ops.size->∃ o,ops[n1]?=some o/\isW o.op=true)
  {Qw:Exit->Act->World->Prop} (hQ:∀ a w,Inv N H0 F0 w0 Γ.nt (S ops.size) a w->Qw .normal a w) :
  ∀ (fuel:Nat) (listed:Array Bool) (a:Act) (w:World),DI N H0 F0 w0 Γ.nt ops S n1 listed a w->unl listed ops.size=fuel->wpAny P .any ops Qw fuel listed a w:=by
 have hmem1:∀ (i:Nat) o,ops[i]?=some o->DG o.op=true->i<n1:=λ i o ho hm=>by
  rcases JlP n1 ops.size with h|h
  ·obtain⟨o1,h1,h2⟩:=hW1 h;exact(ok.mem i n1 o o1 ho h1 h2 hm).1
  ·have:=Av ho;omega
 have hall:∀ listed a w,DI N H0 F0 w0 Γ.nt ops S n1 listed a w->Region.ready .any ops listed=[]->∀ k,k<ops.size->listed.getD k false=true:=by
  intro listed a w hD hr k;induction k using Nat.strongRecOn with
  | _ k ih=>
   intro hk;cases hl:listed.getD k false with
   | true=>rfl
   | false=>
    have:k∈Region.ready .any ops listed:=by
     rw[mem_ready];refine⟨getD_in (by rw[hD.size];exact hk) hl,_,Jl4 hk,λ e he hb=>?_⟩;have hlt:=ok.back k _ (Jl4 hk) e (by simpa using he) hb;exact ih e.on hlt (by omega)
    rw[hr]at this;cases this
 have hfin:∀ listed a w,DI N H0 F0 w0 Γ.nt ops S n1 listed a w->(∀ k,k<ops.size->listed.getD k false=true)->Qw .normal a w:=by
  intro listed a w hD hl;obtain⟨F,ρ,q,hrk,hq1,hq2,hqW,hS,hsl,_⟩:=hD.ex;refine hQ a w ⟨F,ρ,?_,λ t=>?_,hD.tsz,hrk.2,hD.defers,hrk.1⟩
  ·have:=Sn hst (ops.size-q) q (by omega) λ i o ho h1 h2=>by
    refine⟨?_,?_⟩
    ·cases hW:isW o.op with
     | false=>rfl
     | true=>
      have hi:=Av ho;have:=(hqW i o ho hW).1 (hl i hi);omega
    ·cases hm:DG o.op with
     | false=>rfl
     | true=>have:=hmem1 i o ho hm;omega
   rw[show q+(ops.size-q)=ops.size by omega]at this;rw[this];exact hS
  ·rcases Sm ok hst ops.size (JlO _) t with⟨i,o,h1,h2,h3,h4⟩|⟨h1,h2⟩
   ·rw[h4];exact(hsl t).1 i o h2 h3 (hl i h1)
   ·rw[h2];refine(hsl t).2 λ i o ho hd=>?_;exact absurd hd (h1 i o (Av ho) ho)
 intro fuel;induction fuel with
 | zero=>
  intro listed a w hD hu;have hl:=M1 ops.size hu;refine⟨?_,hfin listed a w hD hl⟩;rw[List.eq_nil_iff_forall_not_mem];intro k hk;obtain⟨h1,o,ho,_⟩:=mem_ready.1 hk;have:=hl k (Av ho);rw[getD_both h1]at this;cases this
 | succ fuel ih=>
  intro listed a w hD hu;refine⟨λ hr=>hfin listed a w hD (hall listed a w hD hr),λ i hi=>?_⟩;obtain⟨hun,o,ho,hedges⟩:=mem_ready.1 hi;have hui:=getD_both hun;have hio:=Av ho;have hidx:i<listed.size:=by rw[hD.size];exact hio
  obtain⟨F,ρ,q,hrk,hq1,hq2,hqW,hS,hsl,hdom⟩:=hD.ex;have hdirect:∀ k,Region.waitsFor .any ops i k=true->listed.getD k false=true:=λ k hk=>by
   obtain⟨o',ho',e,he,hb,hon⟩:=Region.waitsFor_spec hk;rw[ho]at ho';cases ho';rw[← hon];exact hedges e he hb
  have hrs:RS F ρ (S i).env a.tmps (CH ops.toList o):=by
   intro t ht;rcases Sm ok hst i (by omega) t with⟨k,ok',h1,h2,h3,h4⟩|⟨h1,h2⟩
   ·rw[h4];exact(hsl t).1 k ok' h2 h3 (hdirect k (ok.deps k i ok' o t h2 ho h1 h3 ht))
   ·rw[h2];refine(hsl t).2 λ k ok' hk hd=>?_;rcases Nat.lt_trichotomy k i with hlt|heq|hgt
    ·exact absurd hd (h1 k ok' hlt hk)
    ·rw[heq];exact hui
    ·cases hl:listed.getD k false with
     | false=>rfl
     | true=>
      obtain⟨o',ho',e,he,hb,hon⟩:=Region.waitsFor_spec (ok.anti k i ok' o t hk ho hgt hd ht);have:=hD.closed k o' ho' hl e (by simpa using he) hb;rw[hon,hui]at this;cases this
  have hstep:=hst i o ho;have hdst:=UW hstep;obtain⟨s',⟨s'',rfl,hobj',henv'⟩,hstep'⟩:=PZ (PX rfl (ts:=CH ops.toList o) (λ t h=>h) hstep);have hlk':∀ d,o.dst=some d->lkA s'.env d=lkA (S (i+1)).env d:=λ d hd=>by
   rcases henv' with⟨h,_⟩|⟨d',x,h1,h2,h3⟩
   ·rw[h]at hd;cases hd
   ·rw[h1]at hd;cases hd;rw[h2,h3,Bi,Bi,if_pos rfl,if_pos rfl]
  have hSl:Cf F ρ (Ef (S i).env (CH ops.toList o)) a.tmps:=Jlu hrs;have hne:∀ k,k≠i->(listed.setIfInBounds i true).getD k false=listed.getD k false:=λ k hk=>by
   rw[Jl5,Jl5,JlQ (Ne.symm hk)]
  have heq:(listed.setIfInBounds i true).getD i false=true:=by simp[hidx]
  have next:∀ (v:Value) (w':World) (F':Nat->Option Obj) (ρ':Nat->Option Loc) (q':Nat),FLe F F'->RLe ρ ρ'->n1<=q'->q'<=ops.size->(∀ (k:Nat) ok',ops[k]?=some ok'->isW ok'.op=true->((listed.setIfInBounds i true).getD k false=true↔k<q'))->Sim N H0 F0 F' ρ' (S q').objs w'.heap->(∀ d,o.dst=some d->Ak F' ρ' (lkA s'.env d) v)->Mu w w' ->
    (q'=n1->∀ k L,ρ' k=some L->k<(S 0).objs.length\/∃ i',(listed.setIfInBounds i true).getD i' false=true/\i'<n1/\(S i').objs.length<=k/\k<(S (i'+1)).objs.length) ->
    wpAny P .any ops Qw fuel (listed.setIfInBounds i true) (a.put o.dst v) w':=by
   intro v w' F' ρ' q' hF hρ hq1' hq2' hqW' hS' hv hmu hdom';refine ih _ _ _ { size:=by simpa using hD.size,closed:=λ j oj hj hl e he hb=>?_,tsz:=hD.tsz.put hdst,defers:=hD.defers.trans hmu,ex:=⟨F',ρ',q',⟨hrk.1.mono hρ,by rw[put_defers];exact hrk.2.mono hF⟩,hq1',hq2',hqW',hS',λ t=>?_,hdom'⟩ } (by have:=Pr hidx hui ops.size hio;omega)
   ·by_cases hji:j=i
    ·subst hji;rw[ho]at hj;cases hj;have:=hedges e (by simpa using he) hb;by_cases hee:e.on=j
     ·rw[hee];exact heq
     ·rw[hne _ hee];exact this
    ·rw[hne j hji]at hl;have:=hD.closed j oj hj hl e he hb;by_cases hee:e.on=i
     ·rw[hee];exact heq
     ·rw[hne _ hee];exact this
   ·by_cases hdt:o.dst=some t
    ·have hval:(a.put o.dst v).tmps.getD t undef=v:=by
      rw[hdt];have:t<a.tmps.size:=by rw[hdt]at hdst;exact hD.tsz.lt hdst
      simp[Act.put,this]
     rw[hval];refine⟨λ k ok' hk hd _=>?_,λ hno=>?_⟩
     ·by_cases hki:k=i
      ·subst hki;rw[← hlk' t hdt];exact hv t hdt
      ·exact absurd hd (ok.dst i k o ok' t ho hk (Ne.symm hki) hdt)
     ·have:=hno i o ho hdt;rw[heq]at this;cases this
    ·have hval:(a.put o.dst v).tmps.getD t undef=a.tmps.getD t undef:=by
      cases hdd:o.dst with
      | none=>rfl
      | some d=>
       have hdne:d≠t:=λ e=>hdt (by rw[hdd,e]);rw[Jl5,Jl5];simp only[Act.put];rw[JlQ hdne]
     rw[hval];refine⟨λ k ok' hk hd hl=>?_,λ hno=>?_⟩
     ·have hki:k≠i:=λ e=>by subst e;rw[ho]at hk;cases hk;exact hdt hd
      rw[hne k hki]at hl;exact((hsl t).1 k ok' hk hd hl).mono hF hρ
     ·refine((hsl t).2 λ k ok' hk hd=>?_).mono hF hρ;have hki:k≠i:=λ e=>by subst e;rw[ho]at hk;cases hk;exact hdt hd
      have:=hno k ok' hk hd;rwa[hne k hki]at this
  unfold wpOp;rw[ho];simp only;have wrap:∀ {A B C:Prop} {c:Bool},(if c=true then A else B)->(if c=true then A\/C else B):=λ {A B C c} h=>by
   cases c with
   | true=>rw[if_pos rfl]at h⊢;exact .inl h
   | false=>rw[if_neg (by simp)]at h⊢;exact h
  refine wrap ?_;cases hW:isW o.op with
  | true=>
   have hq:q<=i:=by
    rcases JlP i q with h|h
    ·have:=(hqW i o ho hW).2 h;rw[hui]at this;cases this
    ·exact h
   have hn1i:n1<=i:=by
    rcases JlP i n1 with h|h
    ·rw[hhead i o ho h]at hW;cases hW
    ·exact h
   have hsame:=Sn hst (i-q) q (by omega) λ k ok' hk h1 h2=>by
    refine⟨?_,?_⟩
    ·cases hWk:isW ok'.op with
     | false=>rfl
     | true=>
      have hr:=ok.ww k i ok' o hk ho hW hWk (by omega);have hl:=BJ hD.closed hr hdirect;have:=(hqW k ok' hk hWk).1 hl;omega
    ·cases hm:DG ok'.op with
     | false=>rfl
     | true=>have:=hmem1 k ok' hk hm;omega
   rw[show q+(i-q)=i by omega]at hsame;refine Jfm hΓ hW hstep' (by simp only;rw[hsame];exact hS) hSl λ v w' F' ρ' hF hρ hS' hv hmu=>?_;refine next v w' F' ρ' (i+1) hF hρ (by omega) (by omega) (λ k ok' hk hWk=>?_) (by rw[hobj'];exact hS') hv hmu (λ e=>by omega)
   by_cases hki:k=i
   ·subst hki;exact⟨λ _=>by omega,λ _=>heq⟩
   ·rw[hne k hki];constructor
    ·intro hl;have:=(hqW k ok' hk hWk).1 hl;omega
    ·intro hlt;exact BJ hD.closed (ok.ww k i ok' o hk ho hW hWk (by omega)) hdirect
  | false=>
   have hq':DG o.op=true->q=n1:=λ hm=>by
    rcases JlP n1 q with h|h
    ·obtain⟨o1,h1,h2⟩:=hW1 (by omega);have hl:=(hqW n1 o1 h1 h2).2 h;have hr:=(ok.mem i n1 o o1 ho h1 h2 hm).2;have:=BJ hD.closed hr λ k hk=>by
      obtain⟨o',ho',e,he,hb,hon⟩:=Region.waitsFor_spec hk;rw[← hon];exact hD.closed n1 o' ho' hl e (by simpa using he) hb
     rw[hui]at this;cases this
    ·omega
   refine US hΓ hW hstep' hS hSl (λ hm=>?_) λ v w' F' ρ' hF hρ hkeep hS' hv hmu=>?_
   ·have hqe:=hq' hm;have hin1:=hmem1 i o ho hm;obtain⟨obs,hobs⟩:=Ir hst hn1 hhead (n1-(i+1)) (i+1) (by omega);rw[show i+1+(n1-(i+1))=n1 by omega]at hobs;rw[← hobj',hqe,hobs];refine⟨λ k ob hk=>by rw[AM,if_pos (A6 hk)];exact hk,λ k h1 h2=>?_,by simp⟩;cases hρ:ρ k with
    | none=>rfl
    | some L=>
     simp only at h1;rcases hdom hqe k L hρ with h|⟨i',g1,g2,g3,g4⟩
     ·obtain⟨obs0,hobs0⟩:=Ir hst hn1 hhead i 0 (by omega);rw[Jmd]at hobs0;rw[hobs0]at h1;simp at h1;omega
     ·rcases Nat.lt_trichotomy i' i with hlt|heq'|hgt
      ·obtain⟨obs0,hobs0⟩:=Ir hst hn1 hhead (i-(i'+1)) (i'+1) (by omega);rw[show i'+1+(i-(i'+1))=i by omega]at hobs0;rw[hobs0]at h1;simp at h1;omega
      ·rw[heq',hui]at g1;cases g1
      ·obtain⟨obs0,hobs0⟩:=Ir hst hn1 hhead (i'-(i+1)) (i+1) (by omega);rw[show i+1+(i'-(i+1))=i' by omega]at hobs0;rw[hobs0]at g3;simp at g3;omega
   ·refine next v w' F' ρ' q hF hρ hq1 hq2 (λ k ok' hk hWk=>?_) hS' hv hmu (λ e k L hk=>?_)
    ·have hki:k≠i:=λ e=>by subst e;rw[ho]at hk;cases hk;rw[hW]at hWk;cases hWk
     rw[hne k hki];exact hqW k ok' hk hWk
    ·have hlist:∀ i',listed.getD i' false=true->(listed.setIfInBounds i true).getD i' false=true:=λ i' h=>by
      by_cases hii:i'=i
      ·rw[hii];exact heq
      ·rw[hne i' hii];exact h
     by_cases hr:(S i).objs.length<=k/\k<(S (i+1)).objs.length
     ·have hin1:i<n1:=by
       rcases JlP i n1 with h|h
       ·exact h
       ·cases hm:DG o.op with
        | true=>exact hmem1 i o ho hm
        | false=>
         obtain⟨_,_,h3⟩:=F8 hstep;rw[h3 hW hm]at hr;omega
      exact .inr ⟨i,heq,hin1,hr.1,hr.2⟩
     ·have hkk:=hkeep k (by rw[← hobj'];exact hr);rw[hkk]at hk;rcases hdom e k L hk with h|⟨i',g1,g2⟩
      ·exact .inl h
      ·exact .inr ⟨i',hlist i' g1,g2⟩
end law
theorem P0 {Γ:Cx} (hΓ:Gv P Γ) {ops:Array Oper} (hB:MP ops=true) {Q:St->Prop} {st:St} {a:Act} (h:HR Γ true ops.toList ops.toList Q st) (hI:Inv N H0 F0 w0 Γ.nt st a w)
  {Qw:Exit->Act->World->Prop} (hQ:∀ st' a' w',Q st'->Inv N H0 F0 w0 Γ.nt st' a' w'->Qw .normal a' w'):wpAny P .any ops Qw ops.size (Array.replicate ops.size false) a { w with drawn:=w.drawn+1 }:=by
 have ok:=ZY hB;obtain⟨S,h0,hst,hQS⟩:=F7 _ _ _ h;have hst':∀ (i:Nat) o,ops[i]?=some o->A1 Γ true ops.toList o (λ x=>x=S (i+1)) (S i):=λ i o hi=>hst i o (by simpa using hi);let n1:=ops.toList.findIdx λ o=>isW o.op;have hn1:n1<=ops.size:=by have:=List.findIdx_le_length (p:=λ o:Oper=>isW o.op) (xs:=ops.toList);simpa using this
 have hhead:∀ (i:Nat) o,ops[i]?=some o->i<n1->isW o.op=false:=λ i o ho hi=>by
  have hl:i<ops.toList.length:=by simpa using Av ho
  have:=List.not_of_lt_findIdx (p:=λ o:Oper=>isW o.op) (xs:=ops.toList) hi;have hg:ops.toList[i]=o:=by
   have:ops.toList[i]?=some o:=by simpa using ho
   rw[JlZ hl]at this;exact Option.some.inj this
  rw[hg]at this;simpa using this
 have hW1:n1<ops.size->∃ o,ops[n1]?=some o/\isW o.op=true:=λ hlt=>by
  have hl:n1<ops.toList.length:=by simpa using hlt
  refine⟨ops.toList[n1],by rw[← Array.getElem?_toList];exact JlZ hl,?_⟩;exact List.findIdx_getElem (xs:=ops.toList) (p:=λ o:Oper=>isW o.op) (w:=hl)
 obtain⟨F,ρ,hS,hSl,hn,hd⟩:=hI;have hz:∀ k,(Array.replicate ops.size false).getD k false=false:=λ k=>getD_replicate_false _ _;have hobs:∃ obs,(S n1).objs=(S 0).objs++obs:=by
  have:=Ir hst' hn1 hhead n1 0 (by omega);rwa[Jmd]at this
 obtain⟨obs,hobs⟩:=hobs;refine Z0 (S:=S) (n1:=n1) hΓ ok hst' hn1 hhead hW1 (λ a' w' hI'=>hQ _ _ _ (by simpa using hQS) hI') ops.size _ a _ ?_ ?_
 ·refine { size:=by simp,closed:=(λ j oj _ hl=>by rw[hz]at hl;cases hl),tsz:=hn,defers:=hd.2.1.draw,ex:=⟨F,ρ,n1,⟨hd.2.2,hd.1⟩,JlO _,hn1,λ i o ho hW=>?_,?_,λ t=>⟨(λ i o _ _ hl=>by rw[hz]at hl;cases hl),λ _=>by rw[h0];exact hSl t⟩,λ _ k L hk=>.inl (by rw[h0];exact hS.dom k L hk)⟩ }
  ·rw[hz];constructor
   ·intro h;cases h
   ·intro h;rw[hhead i o ho h]at hW;cases hW
  ·rw[hobs,h0];exact hS.grow _
 ·have:∀ n,unl (Array.replicate ops.size false) n=n:=by
   intro n;induction n with
   | zero=>rfl
   | succ n ih=>simp only[unl,ih,hz];rfl
  exact this _
end Go.AI
end
section
namespace Go.AI
variable {P:Program} {F F':Nat->Option Obj} {ρ ρ':Nat->Option Loc} {N:Nat->Prop} {H0 F0:Nat->Option Obj} {O objs:List (Option Ob)} {w:World} {w0:W0}
def LD (objs:List (Option Ob)) (a r:AV):Prop:=
 match a,r with
 | .d .nil,.own _ es=>es=[]
 | .osl k sz lo n,.own sz' es=>match obA objs k with
  | some (.arr sz0 es0)=>Nat.beq sz sz0=true/\(bif Nat.beq sz sz' then True else sz=0/\es=[])/\lo+n<=es0.length/\es=(es0.drop lo).take n
  | _=>False
 | .d .nil,.d y=>y=.nil\/y=.sl []
 | .d x,.d y=>x=y
 | _,_=>False
def Kl (a r:AV):List (Option (Nat×Nat×Nat)):=
 match a,r with
 | .osl k sz lo _,.own _ _=>[some (k,lo,sz)]
 | _,.own _ _=>[none]
 | _,_=>[]
def YA (objs:List (Option Ob)):List AV->List AV->Prop
 | [],[]=>True
 | a::l,r::m=>LD objs a r/\YA objs l m
 | _,_=>False
def P3:List AV->List AV->List (Option (Nat×Nat×Nat))
 | a::l,r::m=>Kl a r++P3 l m
 | _,_=>[]
def P4 (objs:List (Option Ob)) (a r:AV):Prop:=
 match a,r with
 | .agg l,.agg m=>YA objs l m
 | a,r=>LD objs a r
def LE (a r:AV):List (Option (Nat×Nat×Nat)):=
 match a,r with
 | .agg l,.agg m=>P3 l m
 | a,r=>Kl a r
def Wn (objs:List (Option Ob)):List AV->List AV->Prop
 | [],[]=>True
 | a::l,r::m=>P4 objs a r/\Wn objs l m
 | _,_=>False
def LF:List AV->List AV->List (Option (Nat×Nat×Nat))
 | a::l,r::m=>LE a r++LF l m
 | _,_=>[]
def ksE:List (Option (Nat×Nat×Nat))->List Nat
 | []=>[]
 | some (k,_,_)::l=>k::ksE l
 | none::l=>ksE l
def G1 (ρ:Nat->Option Loc) (E:List (Option (Nat×Nat×Nat))):Nat->Option Loc:=λ j=>
 match E[j]? with
 | some (some (k,lo,sz))=>(ρ k).map λ L=>⟨L.b,L.base+lo*sz,L.size⟩
 | _=>none
def UX (objs:List (Option Ob)) (x:Option (Nat×Nat×Nat)) (ob:Ob):Prop:=
 match x with
 | some (k,lo,sz)=>∃ es0 n sz' es,obA objs k=some (.arr sz es0)/\ob=.arr sz' es/\lo+n<=es0.length/\es=(es0.drop lo).take n/\(sz=sz'\/sz=0/\es=[])
 | none=>∃ sz',ob=.arr sz' []
theorem Tc {a r:AV} (h:LD objs a r) (i:Nat):(Kl a r).length=(Bn true i [r]).2.length/\∀ (j:Nat) x ob,(Kl a r)[j]?=some x->(Bn true i [r]).2[j]?=some ob->UX objs x ob:=by
 unfold LD at h;split at h
 ·rename_i sz es;refine⟨rfl,λ j x ob hx ho=>?_⟩;cases j with
  | zero=>simp[Kl,Bn]at hx ho;subst hx;subst ho;subst h;exact⟨sz,rfl⟩
  | succ j=>simp[Kl]at hx
 ·rename_i k sz lo n sz' es;split at h
  ·rename_i sz0 es0 hob;obtain⟨h1,h12,h2,h3⟩:=h;have e1:=Jl6 h1;subst e1;have hsz:sz=sz'\/sz=0/\es=[]:=by
    cases hb:Nat.beq sz sz' with
    | true=>exact .inl (Jl6 hb)
    | false=>rw[hb]at h12;exact .inr h12
   refine⟨rfl,λ j x ob hx ho=>?_⟩;cases j with
   | zero=>
    simp[Kl,Bn]at hx ho;subst hx;subst ho;exact⟨es0,n,sz',es,hob,rfl,h2,h3,hsz⟩
   | succ j=>simp[Kl]at hx
  ·exact h.elim
 ·exact⟨rfl,λ j x ob hx=>by simp[Kl]at hx⟩
 ·exact⟨rfl,λ j x ob hx=>by simp[Kl]at hx⟩
 ·exact h.elim
theorem So (i:Nat) (r:AV) (m:List AV):Bn true i (r::m)=((Bn true i [r]).1++(Bn true (i+(Bn true i [r]).2.length) m).1,(Bn true i [r]).2++(Bn true (i+(Bn true i [r]).2.length) m).2):=by
 cases r<;>simp[Bn]
theorem UY {a r:AV} {v:Value} {E:List (Option (Nat×Nat×Nat))} {i:Nat} (h:LD objs a r) (hE:∀ (j:Nat) x,(Kl a r)[j]?=some x->E[i+j]?=some x) (hr:Ak F ρ a v):∃ r',(Bn true i [r]).1=[r']/\(B6 true i r).1=r'/\Ak F (G1 ρ E) r' v:=by
 unfold LD at h;split at h
 ·rename_i sz es;subst h;rw[hr.nil];exact⟨_,rfl,rfl,.osl0 _ _ _ _⟩
 ·rename_i k sz lo n sz' es;split at h
  ·rename_i sz0 es0 hob;obtain⟨h1,h12,h2,h3⟩:=h;have hsz':sz=sz'\/sz=0/\es=[]:=by
    cases hb:Nat.beq sz sz' with
    | true=>exact .inl (Jl6 hb)
    | false=>rw[hb]at h12;exact .inr h12
   refine⟨.osl i sz' 0 es.length,rfl,rfl,?_⟩;have hlen:es.length=n:=by rw[h3];simp;omega
   rw[hlen];have hEi:E[i]?=some (some (k,lo,sz)):=by have:=hE 0 _ (by simp[Kl];rfl);simpa using this
   cases hr with
   | osl _ _ _ _ cap L hL hc hs hz=>
    have hsz:sz=sz':=by
     rcases hsz' with h|h
     ·exact h
     ·omega
    subst hsz;have hρ:G1 ρ E i=some ⟨L.b,L.base+lo*sz,L.size⟩:=by unfold G1;rw[hEi];simp[hL]
    have:=Ak.osl (F:=F) (ρ:=G1 ρ E) i sz 0 n cap ⟨L.b,L.base+lo*sz,L.size⟩ hρ hc (by simp only[Jmd];rw[Jmc]at hs;omega) hz;simpa using this
   | osl0=>exact .osl0 _ _ _ _
  ·exact h.elim
 ·rcases h with h|h
  ·subst h;exact⟨_,rfl,rfl,by rw[hr.nil];exact .d _ _ .nil⟩
  ·subst h;exact⟨_,rfl,rfl,by rw[hr.nil];exact .d _ _ (.sl0 _ _)⟩
 ·subst h;cases hr with
  | d _ _ hd=>exact⟨_,rfl,rfl,.d _ _ hd⟩
 ·exact h.elim
theorem Jdg:∀ (l m:List AV) (i:Nat),YA objs l m->(P3 l m).length=(Bn true i m).2.length/\(∀ (j:Nat) x ob,(P3 l m)[j]?=some x->(Bn true i m).2[j]?=some ob->UX objs x ob):=by
 intro l;induction l with
 | nil=>intro m i h;cases m with|nil=>exact⟨rfl,λ j x ob hx=>by simp[P3]at hx⟩|cons=>exact h.elim
 | cons a l ih=>
  intro m i h;cases m with
  | nil=>exact h.elim
  | cons r m=>
   obtain⟨h1,h2⟩:=h;obtain⟨g1,g2⟩:=Tc h1 i;obtain⟨k1,k2⟩:=ih m (i+(Bn true i [r]).2.length) h2;rw[So];simp only[P3];refine⟨by simp[g1,k1],λ j x ob hx ho=>?_⟩;rw[List.getElem?_append]at hx ho;by_cases hj:j<(Kl a r).length
   ·rw[if_pos hj]at hx;rw[if_pos (by omega)]at ho;exact g2 j x ob hx ho
   ·rw[if_neg hj]at hx;rw[if_neg (by omega)]at ho;exact k2 _ x ob hx (by rw[g1];exact ho)
theorem Z1 {E:List (Option (Nat×Nat×Nat))}:∀ (l m:List AV) (i:Nat) (vs:List Value),YA objs l m->(∀ (j:Nat) x,(P3 l m)[j]?=some x->E[i+j]?=some x)->CR F ρ l vs->CR F (G1 ρ E) (Bn true i m).1 vs:=by
 intro l;induction l with
 | nil=>intro m i vs h _ hc;cases m with|nil=>exact⟨hc.1,λ j a v ha=>by simp[Bn]at ha⟩|cons=>exact h.elim
 | cons a l ih=>
  intro m i vs h hE hc;cases m with
  | nil=>exact h.elim
  | cons r m=>
   cases vs with
   | nil=>have:=hc.1;simp at this
   | cons v vs=>
    obtain⟨h1,h2⟩:=h;obtain⟨g1,g2⟩:=Tc h1 i;obtain⟨r',e1,_,hr'⟩:=UY (F:=F) (ρ:=ρ) (E:=E) (i:=i) h1 (λ j x hx=>hE j x (by simp only[P3];rw[Jl7 (Af hx)];exact hx)) (hc.2 0 a v rfl rfl);have hrec:=ih m (i+(Bn true i [r]).2.length) vs h2 (λ j x hx=>by
     have:=hE ((Kl a r).length+j) x (by simp only[P3];rw[Jmh (by omega),show(Kl a r).length+j-(Kl a r).length=j by omega];exact hx);rw[← g1,JlT];exact this) ⟨by have:=hc.1;simpa using this,λ j a v ha hv=>hc.2 (j+1) a v (by simpa using ha) (by simpa using hv)⟩
    rw[So,e1];refine⟨by simp[hrec.1],λ j x u hx hu=>?_⟩;cases j with
    | zero=>simp at hx hu;subst hx;subst hu;exact hr'
    | succ j=>exact hrec.2 j x u (by simpa using hx) (by simpa using hu)
theorem UZ {r:AV} (h:∀ l,r≠.agg l) (i:Nat):(B6 true i r).2=(Bn true i [r]).2:=by
 cases r<;>first|rfl|(exact absurd rfl (h _))
theorem Td {a r:AV} (h:P4 objs a r) (i:Nat):(LE a r).length=(B6 true i r).2.length/\(∀ (j:Nat) x ob,(LE a r)[j]?=some x->(B6 true i r).2[j]?=some ob->UX objs x ob):=by
 unfold P4 at h;unfold LE;split at h
 ·exact Jdg _ _ i h
 ·rename_i hno;have hr:∀ l,r≠.agg l:=λ l e=>by
   subst e;unfold LD at h;split at h<;>first|exact h|(rename_i e;cases e)|skip
   all_goals simp_all
  rw[UZ hr i];exact Tc h i
theorem U0 {a r:AV} {v:Value} {E:List (Option (Nat×Nat×Nat))} {i:Nat} (h:P4 objs a r) (hE:∀ (j:Nat) x,(LE a r)[j]?=some x->E[i+j]?=some x) (hr:Ak F ρ a v):Ak F (G1 ρ E) (B6 true i r).1 v:=by
 unfold P4 at h;revert hE;unfold LE;split at h<;>intro hE
 ·rename_i l m;cases hr with
  | agg _ vs hl hv=>
   have:=Z1 (F:=F) (ρ:=ρ) (E:=E) l m i vs.toList h hE ⟨by simpa using hl,λ j a v ha hv'=>hv j a v ha (by simpa using hv')⟩;exact .agg _ vs (by have:=this.1;simpa using this) λ j a v ha hv'=>this.2 j a v ha (by simpa using hv')
 ·obtain⟨r',_,e2,hr'⟩:=UY (F:=F) (ρ:=ρ) (E:=E) (i:=i) h hE hr;rw[e2];exact hr'
theorem Jdh:∀ (l m:List AV) (i:Nat),Wn objs l m->(LF l m).length=(CY true i m).2.length/\(∀ (j:Nat) x ob,(LF l m)[j]?=some x->(CY true i m).2[j]?=some ob->UX objs x ob):=by
 intro l;induction l with
 | nil=>intro m i h;cases m with|nil=>exact⟨rfl,λ j x ob hx=>by simp[LF]at hx⟩|cons=>exact h.elim
 | cons a l ih=>
  intro m i h;cases m with
  | nil=>exact h.elim
  | cons r m=>
   obtain⟨h1,h2⟩:=h;obtain⟨g1,g2⟩:=Td h1 i;obtain⟨k1,k2⟩:=ih m (i+(B6 true i r).2.length) h2;simp only[LF,CY];refine⟨by simp[g1,k1],λ j x ob hx ho=>?_⟩;rw[List.getElem?_append]at hx ho;by_cases hj:j<(LE a r).length
   ·rw[if_pos hj]at hx;rw[if_pos (by omega)]at ho;exact g2 j x ob hx ho
   ·rw[if_neg hj]at hx;rw[if_neg (by omega)]at ho;exact k2 _ x ob hx (by rw[g1];exact ho)
theorem Z2 {E:List (Option (Nat×Nat×Nat))}:∀ (l m:List AV) (i:Nat) (vs:List Value),Wn objs l m->(∀ (j:Nat) x,(LF l m)[j]?=some x->E[i+j]?=some x)->CR F ρ l vs->CR F (G1 ρ E) (CY true i m).1 vs:=by
 intro l;induction l with
 | nil=>intro m i vs h _ hc;cases m with|nil=>exact⟨hc.1,λ j a v ha=>by simp[CY]at ha⟩|cons=>exact h.elim
 | cons a l ih=>
  intro m i vs h hE hc;cases m with
  | nil=>exact h.elim
  | cons r m=>
   cases vs with
   | nil=>have:=hc.1;simp at this
   | cons v vs=>
    obtain⟨h1,h2⟩:=h;obtain⟨g1,g2⟩:=Td h1 i;have hr':=U0 (F:=F) (ρ:=ρ) (E:=E) (i:=i) h1 (λ j x hx=>hE j x (by simp only[LF];rw[Jl7 (Af hx)];exact hx)) (hc.2 0 a v rfl rfl);have hrec:=ih m (i+(B6 true i r).2.length) vs h2 (λ j x hx=>by
     have:=hE ((LE a r).length+j) x (by simp only[LF];rw[Jmh (by omega),show(LE a r).length+j-(LE a r).length=j by omega];exact hx);rw[← g1,JlT];exact this) ⟨by have:=hc.1;simpa using this,λ j a v ha hv=>hc.2 (j+1) a v (by simpa using ha) (by simpa using hv)⟩
    simp only[CY];refine⟨by simp[hrec.1],λ j x u hx hu=>?_⟩;cases j with
    | zero=>simp at hx hu;subst hx;subst hu;exact hr'
    | succ j=>exact hrec.2 j x u (by simpa using hx) (by simpa using hu)
theorem XC {E:List (Option (Nat×Nat×Nat))}:∀ (i:Nat) (k lo sz:Nat),E[i]?=some (some (k,lo,sz))->k∈ksE E:=by
 induction E with
 | nil=>intro i k lo sz h;simp at h
 | cons x E ih=>
  intro i k lo sz h;cases i with
  | zero=>simp at h;subst h;simp[ksE]
  | succ i=>
   have:=ih i k lo sz (by simpa using h);cases x with
   | none=>exact this
   | some y=>simp[ksE,this]
theorem Jdi {E:List (Option (Nat×Nat×Nat))}:(ksE E).Nodup->∀ (i j:Nat) (k lo sz lo' sz':Nat),E[i]?=some (some (k,lo,sz))->E[j]?=some (some (k,lo',sz'))->i=j:=by
 induction E with
 | nil=>intro _ i j k lo sz lo' sz' h;simp at h
 | cons x E ih=>
  intro hn i j k lo sz lo' sz' hi hj;have hn':(ksE E).Nodup:=by
   cases x with
   | none=>exact hn
   | some y=>exact(List.nodup_cons.1 hn).2
  cases i with
  | zero=>
   cases j with
   | zero=>rfl
   | succ j=>
    simp at hi;subst hi;have:=XC j k lo' sz' (by simpa using hj);exact absurd this (List.nodup_cons.1 hn).1
  | succ i=>
   cases j with
   | zero=>
    simp at hj;subst hj;have:=XC i k lo sz (by simpa using hi);exact absurd this (List.nodup_cons.1 hn).1
   | succ j=>rw[ih hn' i j k lo sz lo' sz' (by simpa using hi) (by simpa using hj)]
theorem Sim.out {h:Array Obj} (hS:Sim N H0 F0 F ρ objs h) {E:List (Option (Nat×Nat×Nat))} {obs:List Ob} (hlen:E.length=obs.length) (hn:(ksE E).Nodup) (hE:∀ (j:Nat) x ob,E[j]?=some x->obs[j]?=some ob->UX objs x ob) :
  Sim N H0 F0 F (G1 ρ E) (obs.map some) h:=by
 have key:∀ j L,G1 ρ E j=some L->∃ k lo sz L0,E[j]?=some (some (k,lo,sz))/\ρ k=some L0/\L=⟨L0.b,L0.base+lo*sz,L0.size⟩:=by
  intro j L hj;unfold G1 at hj;split at hj
  ·rename_i k lo sz hEj;rw[Jl2]at hj;obtain⟨L0,h1,h2⟩:=hj;exact⟨k,lo,sz,L0,hEj,h1,h2.symm⟩
  ·cases hj
 refine { size:=hS.size,old:=hS.old,f0:=hS.f0,fnew:=hS.fnew,frz:=hS.frz,loc:=λ j L hj=>?_,dom:=λ j L hj=>?_,obj:=λ j L ob hj ho=>?_,sep:=λ j j' L L' ob ob' hj hj' ho ho' hne=>?_,inn:=⟨λ _ _=>none,λ _ _ _ h=>(by cases h),λ _ _ _ _ _ _ h=>(by cases h),λ _ _ _ _ _ _ h=>(by cases h),λ j L ob0 sz es hj ho hr0 i e m isz xs hi hm o1 v hb hv=>?_⟩ }
 ·obtain⟨k,lo,sz,L0,_,h2,rfl⟩:=key j L hj;exact hS.loc k L0 h2
 ·obtain⟨k,lo,sz,L0,h1,_,_⟩:=key j L hj;have:=Af h1;simp;omega
 ·obtain⟨k,lo,sz,L0,h1,h2,rfl⟩:=key j L hj;obtain⟨es0,n,sz',es,g1,g2,g3,g4,g5⟩:=hE j _ ob h1 (Dq ho);obtain⟨⟨p1,p2,cs,t,fr,p3,p4,p5,p6⟩,q2,q3⟩:=hS.obj k L0 _ h2 g1;subst g2;refine⟨?_,q2,q3⟩;have hlen:es.length=n:=by rw[g4];simp;omega
  have hget:∀ (i:Nat) (e:List D),es[i]?=some e->es0[lo+i]?=some e:=λ i e he=>by
   have:=Af he;rw[g4]at he;rw[Jmj (by omega),JlS]at he;exact he
  have hsub:(lo+n)*sz<=es0.length*sz:=JlI _ g3;rw[Jmc]at hsub;by_cases hz:sz=sz'
  ·subst hz;refine⟨λ e he=>p1 e (by rw[g4]at he;exact List.mem_of_mem_drop (List.mem_of_mem_take he)),by simp only;rw[hlen];omega,cs,t,fr,p3,p4,p5,λ i e hi j x hx=>?_⟩;obtain⟨v,hv,hd⟩:=p6 _ e (hget i e hi) j x hx;refine⟨v,?_,hd⟩;rw[← hv,Jmc];congr 1;simp only;omega
  ·obtain⟨hz0,hes⟩:sz=0/\es=[]:=by rcases g5 with h|h;exact absurd h hz;exact h
   subst hz0;subst hes;exact⟨by simp,by simp only;simp;omega,cs,t,fr,p3,p4,p5,λ i e hi=>by simp at hi⟩
 ·obtain⟨k,lo,sz,L0,h1,h2,rfl⟩:=key j L hj;obtain⟨k',lo',sz',L0',h1',h2',rfl⟩:=key j' L' hj';have hkk:k≠k':=λ e=>by subst e;exact hne (Jdi hn j j' k lo sz lo' sz' h1 h1')
  obtain⟨es0,n,_,es,g1,_⟩:=hE j _ ob h1 (Dq ho);obtain⟨es0',n',_,es',g1',_⟩:=hE j' _ ob' h1' (Dq ho');exact hS.sep k k' L0 L0' _ _ h2 h2' g1 g1' hkk
 ·obtain⟨k,lo,sz',L0,h1,h2,rfl⟩:=key j L hj;obtain⟨es0,n,sz2,es2,g1,g2,_⟩:=hE j _ _ h1 (Dq ho);subst g2;cases hr0
end Go.AI
end
section
namespace Go.AI
variable {P:Program} {F F':Nat->Option Obj} {ρ ρ':Nat->Option Loc} {N:Nat->Prop} {H0 F0:Nat->Option Obj} {O objs:List (Option Ob)} {w:World} {w0:W0}
theorem Sim.retable {h:Array Obj} (hS:Sim N H0 F0 F ρ O h) {O':List (Option Ob)} (hl:O.length<=O'.length) (hO:∀ k L ob,ρ k=some L->obA O' k=some ob->∃ ob0,obA O k=some ob0/\(ob=ob0\/Bv F ρ h L ob)) (hinn:∃ σ,Inn N F ρ O' h σ):Sim N H0 F0 F ρ O' h:=
 { hS with
  dom:=λ k L hk=>Nat.lt_of_lt_of_le (hS.dom k L hk) hl
  obj:=λ k L ob hk hob=>by
   obtain⟨ob0,h1,h2⟩:=hO k L ob hk hob;obtain⟨g1,g2,g3⟩:=hS.obj k L ob0 hk h1;rcases h2 with rfl|h2
   ·exact⟨g1,g2,g3⟩
   ·exact⟨h2,g2,g3⟩
  sep:=λ k k' L L' ob ob' hk hk' h1 h2=>by
   obtain⟨o1,e1,_⟩:=hO k L ob hk h1;obtain⟨o2,e2,_⟩:=hO k' L' ob' hk' h2;exact hS.sep k k' L L' o1 o2 hk hk' e1 e2
  inn:=hinn }
theorem AT {O:List (Option Ob)} {k:Nat} {ob:Ob} {x:Option Ob} (h:obA O k=some ob):obA (O.set k x) k=x:=by
 rw[BT,if_pos ⟨rfl,A6 h⟩]
theorem AJ {O:List (Option Ob)} {k j:Nat} {x:Option Ob} (h:j≠k):obA (O.set k x) j=obA O j:=by
 rw[BT,if_neg (λ hh=>h hh.1)]
theorem YB {h:Array Obj} (hS:Sim N H0 F0 F ρ O h) {k sz:Nat} {es:List (List D)} (ho:obA O k=some (.arr sz es)):Sim N H0 F0 F ρ (O.set k (some (.narr sz (es.map λ e=>e.map toN)))) h:=by
 have hrep:∀ L,ρ k=some L->Bv F ρ h L (.narr sz (es.map λ e=>e.map toN)):=λ L hL=>by
  obtain⟨⟨p1,p2,cs,t,fr,p3,p4,p5,p6⟩,_⟩:=hS.obj k L _ hL ho;refine⟨λ e he=>?_,by simpa using p2,cs,t,fr,p3,p4,p5,λ i e hi j a ha=>?_⟩
  ·simp only[JlR]at he;obtain⟨e',h1,rfl⟩:=he;simpa using p1 e' h1
  ·simp only[Jl3,Jl2]at hi;obtain⟨e',h1,rfl⟩:=hi;simp only[Jl3,Jl2]at ha;obtain⟨x,h2,rfl⟩:=ha;obtain⟨v,hv,hd⟩:=p6 i e' h1 j x h2;refine⟨v,hv,λ hn=>?_⟩;cases x<;>first|exact .d _ _ hd|cases hn
 refine hS.retable (by simp) (λ j L ob hj hob=>?_) ?_
 ·by_cases e:j=k
  ·subst e;rw[AT ho]at hob;cases hob;exact⟨_,ho,.inr (hrep L hj)⟩
  ·rw[AJ e]at hob;exact⟨ob,hob,.inl rfl⟩
 ·obtain⟨σ,hσ⟩:=hS.inn;refine⟨σ,hσ.new,λ k' c M j L ob hM hj hob=>?_,hσ.sep,λ j L ob0 sz' es' hj hob hr0 i e m isz xs hi hm o1 v hb hv=>?_⟩
  ·by_cases e:j=k
   ·subst e;exact hσ.obj k' c M j L _ hM hj ho
   ·rw[AJ e]at hob;exact hσ.obj k' c M j L ob hM hj hob
  ·by_cases e:j=k
   ·subst e;rw[AT ho]at hob;cases hob;cases hr0;simp only[Jl3,Jl2]at hi;obtain⟨e',h1,rfl⟩:=hi;simp only[Jl3,Jl2]at hm;obtain⟨x,h2,h3⟩:=hm;obtain⟨⟨p1,p2,cs',t',fr',p3,p4,p5,p6⟩,_⟩:=hS.obj j L _ hj ho;rw[p3]at hb;cases hb;simp only[E8]at hv;obtain⟨v',hv',hd⟩:=p6 i e' h1 m x h2;rw[hv]at hv';cases hv';cases x<;>simp only[toN,AV.own.injEq]at h3<;>try (cases h3;done)
    obtain⟨rfl,rfl⟩:=h3;cases hd;exact .inl ⟨rfl,_,rfl⟩
   ·rw[AJ e]at hob;exact hσ.rep j L ob0 sz' es' hj hob hr0 i _ m isz xs hi hm o1 v hb hv
theorem U1 {h:Array Obj} {L:Loc} {sz i j:Nat} {es:List (List AV)} {e:List AV} {a:AV} (hρ:RLe ρ ρ') (H:Bv F ρ h L (.narr sz es)) (hi:es[i]?=some e) (hj:j<e.length) (ha:∀ v cs t fr,h[L.b]?=some (.cells cs t fr)->cs[L.base+i*sz+j]?=some v->JE a=false->Ak F ρ' a v) :
  Bv F ρ' h L (.narr sz (es.set i (e.set j a))):=by
 obtain⟨p1,p2,cs,t,fr,p3,p4,p5,p6⟩:=H;refine⟨λ e' he=>?_,by simpa using p2,cs,t,fr,p3,p4,p5,λ i' e' hi' j' a' ha'=>?_⟩
 ·rcases List.mem_or_eq_of_mem_set he with h1|h1
  ·exact p1 e' h1
  ·subst h1;simpa using p1 e (Jl1 hi)
 ·by_cases e1:i'=i
  ·subst e1;rw[Jma (Af hi)]at hi';cases hi';by_cases e2:j'=j
   ·subst e2;rw[Jma hj]at ha';cases ha';obtain⟨v,hv,_⟩:=p6 i' e hi j' _ (JlZ hj);exact⟨v,hv,λ hn=>ha v cs t fr p3 hv hn⟩
   ·rw[Jmf (Ne.symm e2)]at ha';obtain⟨v,hv,hd⟩:=p6 i' e hi j' a' ha';exact⟨v,hv,λ hn=>(hd hn).mono (FLe.refl _) hρ⟩
  ·rw[Jmf (Ne.symm e1)]at hi';obtain⟨v,hv,hd⟩:=p6 i' e' hi' j' a' ha';exact⟨v,hv,λ hn=>(hd hn).mono (FLe.refl _) hρ⟩
def upS (σ:Nat->Nat->Option Loc) (k c:Nat) (M:Option Loc):Nat->Nat->Option Loc:=λ k' c'=>if k'=k/\c'=c then M else σ k' c'
theorem Fz {σ:Nat->Nat->Option Loc} {k c k' c':Nat} {M:Loc} (h:upS σ k c none k' c'=some M):σ k' c'=some M/\¬(k'=k/\c'=c):=by
 unfold upS at h;split at h
 ·cases h
 ·rename_i hn;exact⟨h,hn⟩
theorem U2 {sz i j i' j':Nat} (h:i*sz+j=i'*sz+j') (hj:j<sz) (hj':j'<sz):i=i'/\j=j':=by
 have h1:(i*sz+j) / sz=i:=by rw[Nat.mul_comm,Nat.mul_add_div (by omega),Nat.div_eq_of_lt hj];rfl
 have h2:(i'*sz+j') / sz=i':=by rw[Nat.mul_comm,Nat.mul_add_div (by omega),Nat.div_eq_of_lt hj'];rfl
 have:i=i':=by rw[← h1,← h2,h]
 subst this;exact⟨rfl,by omega⟩
theorem U3 {h:Array Obj} (hS:Sim N H0 F0 F ρ O h) {k sz i j isz:Nat} {ob1 ob2:Ob} {es:List (List AV)} {e:List AV} {xs:List (List D)} (ho:obA O k=some ob1) (hr1:ob1.rows=some (sz,es)) (hr2:ob2.rows=some (sz,es.set i (e.set j (.osl O.length isz 0 xs.length)))) (hi:es[i]?=some e) (hj:e[j]?=some (.own isz xs)) (hsz:∀ e∈es,e.length=sz)
  (hcell:∀ L,Bv F ρ h L ob1->∃ o v,h[L.b]?=some o/\E8 o (L.base+i*sz+j)=some v/\∀ ρ',RLe ρ ρ'->Ak F ρ' (.osl O.length isz 0 xs.length) v->Bv F ρ' h L ob2) :
  ∃ ρ',RLe ρ ρ'/\Sim N H0 F0 F ρ' (O.set k (some ob2)++[some (.arr isz xs)]) h:=by
 have hkl:=A6 ho;have hjl:=Af hj;have hne:ρ O.length=none:=by
  cases hq:ρ O.length with
  | none=>rfl
  | some L=>have:=hS.dom _ L hq;omega
 have hobA:∀ m ob,obA (O.set k (some ob2)++[some (.arr isz xs)]) m=some ob->(m=k/\ob=ob2)\/(m≠k/\obA O m=some ob)\/(m=O.length/\ob=.arr isz xs):=by
  intro m ob hm;rw[AM,Jmg]at hm;split at hm
  ·rename_i hlt;by_cases e1:m=k
   ·subst e1;rw[AT ho]at hm;cases hm;exact .inl ⟨rfl,rfl⟩
   ·rw[AJ e1]at hm;exact .inr (.inl ⟨e1,hm⟩)
  ·rename_i hlt;have:=A6 hm;simp at this;have e1:m=O.length:=by omega
   subst e1;simp[obA]at hm;exact .inr (.inr ⟨rfl,hm.symm⟩)
 have noloc:ρ k=none->∃ ρ',RLe ρ ρ'/\Sim N H0 F0 F ρ' (O.set k (some ob2)++[some (.arr isz xs)]) h:=λ hk=>by
  refine⟨ρ,RLe.refl _,hS.table (by simp) λ m L ob hm hob=>?_⟩;rcases hobA m ob hob with⟨rfl,_⟩|⟨_,h1⟩|⟨rfl,_⟩
  ·rw[hk]at hm;cases hm
  ·exact h1
  ·rw[hne]at hm;cases hm
 cases hk:ρ k with
 | none=>exact noloc hk
 | some L=>
  obtain⟨g1,g2,g3⟩:=hS.obj k L _ hk ho;obtain⟨σ,hσ⟩:=hS.inn;have hesz:=hsz e (Jl1 hi);obtain⟨o0,v,p3,hv,hset⟩:=hcell L g1;have hown:=hσ.rep k L ob1 sz es hk ho hr1 i e j isz xs hi hj o0 v p3 hv;have hrepO:∀ (ρ':Nat->Option Loc),RLe ρ ρ'->(∀ m L',ρ' m=some L'->m≠O.length->ρ m=some L')->∀ m L' ob0 sz' es',ρ' m=some L'->obA (O.set k (some ob2)++[some (.arr isz xs)]) m=some ob0->ob0.rows=some (sz',es')->∀ (i':Nat) (e':List AV) (j' isz':Nat) (xs':List (List D)),es'[i']?=some e'->e'[j']?=some (.own isz' xs') ->
    ∀ o1 v,h[L'.b]?=some o1->E8 o1 (L'.base+i'*sz'+j')=some v->Fx F h (upS σ k (i*sz+j) none m (i'*sz'+j')) isz' xs' v:=by
   intro ρ' hle hold m L' ob0 sz' es' hm hob hr0 i' e' j' isz' xs' hi' hj' o1 v' hb hv';rcases hobA m _ hob with⟨rfl,h1⟩|⟨hmk,h1⟩|⟨_,h1⟩
   ·subst h1;rw[hr2]at hr0;cases hr0;have hm':=hold m L' hm (by omega);rw[hk]at hm';cases hm';by_cases e1:i'=i
    ·subst e1;rw[Jma (Af hi)]at hi';cases hi';by_cases e2:j'=j
     ·subst e2;rw[Jma hjl]at hj';cases hj'
     ·rw[Jmf (Ne.symm e2)]at hj';have:=hσ.rep m L ob1 sz es hk ho hr1 i' e j' isz' xs' hi hj' o1 v' hb hv';unfold upS;rw[if_neg (λ hh=>e2 (by omega))];exact this
    ·rw[Jmf (Ne.symm e1)]at hi';have:=hσ.rep m L ob1 sz es hk ho hr1 i' e' j' isz' xs' hi' hj' o1 v' hb hv';unfold upS;rw[if_neg (λ hh=>e1 ((U2 hh.2 (by have:=Af hj';have:=hsz e' (Jl1 hi');omega) (by omega)).1))];exact this
   ·have hm':=hold m L' hm (by have:=A6 h1;omega);have:=hσ.rep m L' ob0 sz' es' hm' h1 hr0 i' e' j' isz' xs' hi' hj' o1 v' hb hv';unfold upS;rw[if_neg (λ hh=>hmk hh.1)];exact this
   ·subst h1;cases hr0
  rcases hown with⟨hx,a,hva⟩|⟨L1,cap,hM,hva,hcap,hsize,h1sz,hob1⟩
  ·refine⟨ρ,RLe.refl _,hS.retable (by simp) (λ m L' ob hm hob=>?_) ⟨upS σ k (i*sz+j) none,λ k' c M hM=>hσ.new k' c M (Fz hM).1,λ k' c M m L' ob hM hm hob=>?_,λ k' c M k'' c' M' hM hM'=>hσ.sep k' c M k'' c' M' (Fz hM).1 (Fz hM').1,hrepO ρ (RLe.refl _) λ m L' hm _=>hm⟩⟩
   ·rcases hobA m ob hob with⟨rfl,h1⟩|⟨_,h1⟩|⟨rfl,h1⟩
    ·rw[hk]at hm;cases hm;refine⟨_,ho,.inr ?_⟩;rw[h1];subst hx;subst hva;exact hset ρ (RLe.refl _) (.osl0 _ _ _ _)
    ·exact⟨ob,h1,.inl rfl⟩
    ·rw[hne]at hm;cases hm
   ·rcases hobA m ob hob with⟨rfl,h1⟩|⟨_,h1⟩|⟨rfl,h1⟩
    ·exact hσ.obj k' c M m L' _ (Fz hM).1 hm ho
    ·exact hσ.obj k' c M m L' ob (Fz hM).1 hm h1
    ·rw[hne]at hm;cases hm
  ·have hle:RLe ρ (upR ρ O.length L1):=Dp hne;have hold:∀ m L',upR ρ O.length L1 m=some L'->m≠O.length->ρ m=some L':=λ m L' hm hn=>by rwa[Bj hn]at hm
   obtain⟨n1,n2,n3⟩:=hσ.new k _ L1 hM;refine⟨upR ρ O.length L1,hle,?_⟩;refine { size:=hS.size,old:=hS.old,f0:=hS.f0,fnew:=hS.fnew,frz:=hS.frz,loc:=λ m L' hm=>?_,dom:=λ m L' hm=>?_,obj:=λ m L' ob hm hob=>?_,sep:=λ m m' L' L'' ob ob' hm hm' hob hob' hn=>?_,inn:=⟨upS σ k (i*sz+j) none,λ k' c M hM=>hσ.new k' c M (Fz hM).1,λ k' c M m L' ob hM' hm hob=>?_,λ k' c M k'' c' M' hM hM'=>hσ.sep k' c M k'' c' M' (Fz hM).1 (Fz hM').1,hrepO _ hle hold⟩ }
   ·by_cases e1:m=O.length
    ·subst e1;rw[AP]at hm;cases hm;exact n2
    ·exact hS.loc m L' (hold m L' hm e1)
   ·by_cases e1:m=O.length
    ·subst e1;simp
    ·have:=hS.dom m L' (hold m L' hm e1);simp;omega
   ·rcases hobA m ob hob with⟨rfl,h1⟩|⟨hmk,h1⟩|⟨rfl,h1⟩
    ·have hm':=hold m L' hm (by omega);rw[hk]at hm';cases hm';refine⟨?_,g2,g3⟩;rw[h1];subst hva;refine hset _ hle ?_;have:=Ak.osl (F:=F) (ρ:=upR ρ O.length L1) O.length isz 0 xs.length cap L1 (AP _ _ _) hcap (by simpa using hsize) h1sz;simpa using this
    ·have hm':=hold m L' hm (by have:=A6 h1;omega);obtain⟨q1,q2,q3⟩:=hS.obj m L' ob hm' h1;exact⟨q1.mono (FLe.refl _) hle rfl,q2,q3⟩
    ·rw[AP]at hm;cases hm;subst h1;exact⟨hob1.arr_any _,n1,n3⟩
   ·
    have key:∀ m L' ob,upR ρ O.length L1 m=some L'->obA (O.set k (some ob2)++[some (.arr isz xs)]) m=some ob->(m≠O.length/\ρ m=some L'/\∃ ob0,obA O m=some ob0)\/(m=O.length/\L'=L1):=λ m L' ob hm hob=>by
     rcases hobA m ob hob with⟨rfl,h1⟩|⟨hmk,h1⟩|⟨rfl,h1⟩
     ·exact .inl ⟨by omega,hold m L' hm (by omega),_,ho⟩
     ·have:=A6 h1;exact .inl ⟨by omega,hold m L' hm (by omega),_,h1⟩
     ·rw[AP]at hm;cases hm;exact .inr ⟨rfl,rfl⟩
    rcases key m L' ob hm hob with⟨a1,a2,o1,a3⟩|⟨rfl,rfl⟩
    ·rcases key m' L'' ob' hm' hob' with⟨b1,b2,o2,b3⟩|⟨rfl,rfl⟩
     ·exact hS.sep m m' L' L'' o1 o2 a2 b2 a3 b3 hn
     ·exact hσ.obj k _ L'' m L' o1 hM a2 a3
    ·rcases key m' L'' ob' hm' hob' with⟨b1,b2,o2,b3⟩|⟨rfl,_⟩
     ·exact(hσ.obj k _ L' m' L'' o2 hM b2 b3).symm
     ·exact absurd rfl hn
   ·obtain⟨hM1,hM2⟩:=Fz hM';rcases hobA m ob hob with⟨rfl,h1⟩|⟨hmk,h1⟩|⟨rfl,h1⟩
    ·exact hσ.obj k' c M m L' _ hM1 (hold m L' hm (by omega)) ho
    ·exact hσ.obj k' c M m L' ob hM1 (hold m L' hm (by have:=A6 h1;omega)) h1
    ·rw[AP]at hm;cases hm;refine hσ.sep k _ L1 k' c M hM hM1 ?_;by_cases e1:k=k'
     ·subst e1;exact .inr λ e2=>hM2 ⟨rfl,e2.symm⟩
     ·exact .inl e1
theorem YC {h:Array Obj} (hS:Sim N H0 F0 F ρ O h) {k sz i j isz:Nat} {es:List (List AV)} {e:List AV} {xs:List (List D)} (ho:obA O k=some (.narr sz es)) (hi:es[i]?=some e) (hj:e[j]?=some (.own isz xs)) :
  ∃ ρ',RLe ρ ρ'/\Sim N H0 F0 F ρ' (O.set k (some (.narr sz (es.set i (e.set j (.osl O.length isz 0 xs.length)))))++[some (.arr isz xs)]) h:=by
 cases hk:ρ k with
 | none=>
  refine⟨ρ,RLe.refl _,hS.table (by simp) λ m L ob hm hob=>?_⟩;rw[AM,Jmg]at hob;split at hob
  ·by_cases e1:m=k
   ·subst e1;rw[hk]at hm;cases hm
   ·rwa[AJ e1]at hob
  ·have:=hS.dom m L hm;omega
 | some L0=>
  have hsz:=(hS.obj k L0 _ hk ho).1.1;refine U3 hS (ob2:=.narr sz (es.set i (e.set j (.osl O.length isz 0 xs.length)))) ho rfl rfl hi hj hsz λ L g1=>?_;obtain⟨cs,t,fr,p3,p4,p5,p6⟩:=g1.2.2;obtain⟨v,hv,_⟩:=p6 i e hi j _ hj;exact⟨_,v,p3,hv,λ ρ' hρ hav=>U1 hρ g1 hi (Af hj) λ v' cs' t' fr' hb' hv' _=>by
   rw[p3]at hb';cases hb';rw[hv]at hv';cases hv';exact hav⟩
end Go.AI
end
section
namespace Go.AI
variable {P:Program} {F F':Nat->Option Obj} {ρ ρ':Nat->Option Loc} {N:Nat->Prop} {H0 F0:Nat->Option Obj} {O objs:List (Option Ob)} {w:World} {w0:W0}
theorem U4 {h:Array Obj} (hS:Sim N H0 F0 F ρ O h) {k sz i j m isz:Nat} {ob1 ob2:Ob} {es:List (List AV)} {e:List AV} {xs:List (List D)} (ho:obA O k=some ob1) (hr1:ob1.rows=some (sz,es)) (hr2:ob2.rows=some (sz,es.set i (e.set j (.own isz xs)))) (hi:es[i]?=some e) (hj:e[j]?=some (.osl m isz 0 xs.length)) (hm:obA O m=some (.arr isz xs)) (hsz:∀ e∈es,e.length=sz)
  (hcell:∀ L,Bv F ρ h L ob1->∃ o v,h[L.b]?=some o/\E8 o (L.base+i*sz+j)=some v/\Ak F ρ (.osl m isz 0 xs.length) v/\Bv F ρ h L ob2) :
  Sim N H0 F0 F ρ ((O.set m none).set k (some ob2)) h:=by
 have hmk:m≠k:=λ e1=>by subst e1;rw[ho]at hm;cases hm;cases hr1
 have hjl:=Af hj;have hobA:∀ q ob,obA ((O.set m none).set k (some ob2)) q=some ob->(q=k/\ob=ob2)\/(q≠k/\q≠m/\obA O q=some ob):=by
  intro q ob hq;have ho':obA (O.set m none) k=some ob1:=by rw[AJ (Ne.symm hmk)];exact ho
  by_cases e1:q=k
  ·subst e1;rw[AT ho']at hq;cases hq;exact .inl ⟨rfl,rfl⟩
  ·rw[AJ e1]at hq;by_cases e2:q=m
   ·subst e2;rw[AT hm]at hq;cases hq
   ·rw[AJ e2]at hq;exact .inr ⟨e1,e2,hq⟩
 obtain⟨σ,hσ⟩:=hS.inn;cases hk:ρ k with
 | none=>
  refine hS.table (by simp) λ q L ob hq hob=>?_;rcases hobA q ob hob with⟨rfl,_⟩|⟨_,_,h1⟩
  ·rw[hk]at hq;cases hq
  ·exact h1
 | some L=>
  obtain⟨g1,g2,g3⟩:=hS.obj k L _ hk ho;have hesz:=hsz e (Jl1 hi);obtain⟨o0,v,p3,hv,hav,hrepk⟩:=hcell L g1;have hcase:(xs=[]/\∃ a,v=.slice a 0 0)\/∃ L1 cap,ρ m=some L1/\v=.slice (some ⟨L1.b,L1.base,none⟩) xs.length cap/\xs.length<=cap/\L1.base+cap*isz<=L1.size/\1<=isz:=by
   generalize hn:xs.length=n at hav;cases hav with
   | osl _ _ _ _ cap L1 hL hc hs hz=>exact .inr ⟨L1,cap,hL,by simp,hc,by simpa using hs,hz⟩
   | osl0 _ _ _ a=>exact .inl ⟨List.length_eq_zero_iff.1 hn,a,rfl⟩
  have fin:∀ M:Option Loc,(∀ L1,M=some L1->ρ m=some L1)->Fx F h M isz xs v->Sim N H0 F0 F ρ ((O.set m none).set k (some ob2)) h:=by
   intro M hM hown;have hup:∀ k' c' M',upS σ k (i*sz+j) M k' c'=some M'->(σ k' c'=some M'/\¬(k'=k/\c'=i*sz+j))\/(k'=k/\c'=i*sz+j/\ρ m=some M'):=λ k' c' M' h=>by
    unfold upS at h;split at h
    ·rename_i hh;exact .inr ⟨hh.1,hh.2,hM M' h⟩
    ·rename_i hh;exact .inl ⟨h,hh⟩
   refine hS.retable (by simp) (λ q L' ob hq hob=>?_) ⟨upS σ k (i*sz+j) M,λ k' c' M' h'=>?_,λ k' c' M' q L' ob h' hq hob=>?_,λ k' c' M' k'' c'' M'' h' h'' hne=>?_,λ q L' ob0 sz' es' hq hob hr0 i' e' j' isz' xs' hi' hj' o1 v' hb hv'=>?_⟩
   ·rcases hobA q ob hob with⟨rfl,h1⟩|⟨_,_,h1⟩
    ·rw[hk]at hq;cases hq;exact⟨_,ho,.inr (by rw[h1];exact hrepk)⟩
    ·exact⟨ob,h1,.inl rfl⟩
   ·rcases hup k' c' M' h' with⟨h1,_⟩|⟨_,_,h1⟩
    ·exact hσ.new k' c' M' h1
    ·obtain⟨_,q2,q3⟩:=hS.obj m M' _ h1 hm;exact⟨q2,hS.loc m M' h1,q3⟩
   ·rcases hup k' c' M' h' with⟨h1,_⟩|⟨_,_,h1⟩
    ·rcases hobA q ob hob with⟨rfl,_⟩|⟨_,_,h2⟩
     ·exact hσ.obj k' c' M' q L' _ h1 hq ho
     ·exact hσ.obj k' c' M' q L' ob h1 hq h2
    ·rcases hobA q ob hob with⟨rfl,_⟩|⟨_,hqm,h2⟩
     ·exact hS.sep q m L' M' _ _ hq h1 ho hm (Ne.symm hmk)
     ·exact hS.sep q m L' M' _ _ hq h1 h2 hm hqm
   ·rcases hup k' c' M' h' with⟨h1,_⟩|⟨a1,a2,h1⟩
    ·rcases hup k'' c'' M'' h'' with⟨h2,_⟩|⟨_,_,h2⟩
     ·exact hσ.sep k' c' M' k'' c'' M'' h1 h2 hne
     ·exact(hσ.obj k' c' M' m M'' _ h1 h2 hm).symm
    ·rcases hup k'' c'' M'' h'' with⟨h2,_⟩|⟨b1,b2,h2⟩
     ·exact hσ.obj k'' c'' M'' m M' _ h2 h1 hm
     ·rcases hne with hne|hne
      ·exact absurd (a1.trans b1.symm) hne
      ·exact absurd (a2.trans b2.symm) hne
   ·rcases hobA q _ hob with⟨rfl,h1⟩|⟨hqk,_,h1⟩
    ·subst h1;rw[hr2]at hr0;cases hr0;rw[hk]at hq;cases hq;by_cases e1:i'=i
     ·subst e1;rw[Jma (Af hi)]at hi';cases hi';by_cases e2:j'=j
      ·subst e2;rw[Jma hjl]at hj';cases hj';rw[p3]at hb;cases hb;rw[hv]at hv';cases hv';unfold upS;rw[if_pos ⟨rfl,rfl⟩];exact hown
      ·rw[Jmf (Ne.symm e2)]at hj';have:=hσ.rep q L ob1 sz es hk ho hr1 i' e j' isz' xs' hi hj' o1 v' hb hv';unfold upS;rw[if_neg (λ hh=>e2 (by omega))];exact this
     ·rw[Jmf (Ne.symm e1)]at hi';have:=hσ.rep q L ob1 sz es hk ho hr1 i' e' j' isz' xs' hi' hj' o1 v' hb hv';unfold upS;rw[if_neg (λ hh=>e1 ((U2 hh.2 (by have:=Af hj';have:=hsz e' (Jl1 hi');omega) (by omega)).1))];exact this
    ·have:=hσ.rep q L' ob0 sz' es' hq h1 hr0 i' e' j' isz' xs' hi' hj' o1 v' hb hv';unfold upS;rw[if_neg (λ hh=>hqk hh.1)];exact this
  rcases hcase with⟨h1,h2⟩|⟨L1,cap,h1,h2,h3,h4,h5⟩
  ·exact fin none (λ L1 h=>by cases h) (.inl ⟨h1,h2⟩)
  ·exact fin (some L1) (λ L2 h=>by cases h;exact h1) (.inr ⟨L1,cap,rfl,h2,h3,h4,h5,(hS.obj m L1 _ h1 hm).1.arr_any _⟩)
theorem YD {h:Array Obj} (hS:Sim N H0 F0 F ρ O h) {k sz i j m isz:Nat} {es:List (List AV)} {e:List AV} {xs:List (List D)} (ho:obA O k=some (.narr sz es)) (hi:es[i]?=some e) (hj:e[j]?=some (.osl m isz 0 xs.length)) (hm:obA O m=some (.arr isz xs)) :
  Sim N H0 F0 F ρ ((O.set m none).set k (some (.narr sz (es.set i (e.set j (.own isz xs)))))) h:=by
 cases hk:ρ k with
 | none=>
  refine hS.table (by simp) λ q L ob hq hob=>?_;by_cases e1:q=k
  ·subst e1;rw[hk]at hq;cases hq
  ·rw[AJ e1]at hob;by_cases e2:q=m
   ·subst e2;rw[AT hm]at hob;cases hob
   ·rwa[AJ e2]at hob
 | some L0=>
  refine U4 hS (ob2:=.narr sz (es.set i (e.set j (.own isz xs)))) ho rfl rfl hi hj hm (hS.obj k L0 _ hk ho).1.1 λ L g1=>?_;obtain⟨cs,t,fr,p3,p4,p5,p6⟩:=g1.2.2;obtain⟨v,hv,hav⟩:=p6 i e hi j _ hj;exact⟨_,v,p3,hv,hav rfl,U1 (RLe.refl _) g1 hi (Af hj) λ _ _ _ _ _ _ hn=>by cases hn⟩
open Classical in
theorem Sq {h:Array Obj} (hS:Sim N H0 F0 F ρ O h) {k sz:Nat} {es:List (List AV)} (ho:obA O k=some (.narr sz es)) (hn:∀ e∈es,∀ a∈e,isN a=true) :
  ∃ F',FLe F F'/\Sim N H0 F0 F' ρ (O.set k none) h/\∀ v,Ak F ρ (.osl k sz 0 es.length) v->Bo F' (.sl (es.map λ e=>e.map ofN)) v:=by
 have hobA:∀ q ob,obA (O.set k none) q=some ob->q≠k/\obA O q=some ob:=λ q ob hq=>by
  by_cases e1:q=k
  ·subst e1;rw[AT ho]at hq;cases hq
  ·rw[AJ e1]at hq;exact⟨e1,hq⟩
 obtain⟨σ,hσ⟩:=hS.inn;cases hk:ρ k with
 | none=>
  refine⟨F,FLe.refl _,hS.table (by simp) λ q L ob hq hob=>(hobA q ob hob).2,λ v hv=>?_⟩;generalize hl:es.length=n at hv;cases hv with
  | osl _ _ _ _ cap L1 hL=>rw[hk]at hL;cases hL
  | osl0 _ _ _ a=>have:=List.length_eq_zero_iff.1 hl;subst this;exact .sl0 _ _
 | some L=>
  obtain⟨g1,g2,g3⟩:=hS.obj k L _ hk ho;let F':Nat->Option Obj:=λ b=>if b=L.b\/∃ c M,σ k c=some M/\M.b=b then h[b]? else F b
  have hF':∀ b,F' b=if b=L.b\/∃ c M,σ k c=some M/\M.b=b then h[b]? else F b:=λ _=>rfl
  have hle:FLe F F':=λ b o hb=>by
   rw[hF'];split
   ·exact hS.frz b o hb
   ·exact hb
  have hfL:F' L.b=h[L.b]? := by rw[hF',if_pos (.inl rfl)]
  have hfM:∀ c M,σ k c=some M->F' M.b=h[M.b]? := λ c M hM=>by rw[hF',if_pos (.inr ⟨c,M,hM,rfl⟩)]
  have hno:∀ b,b≠L.b->(∀ c M,σ k c=some M->M.b≠b)->F' b=F b:=λ b h1 h2=>by
   rw[hF',if_neg];rintro (h3|⟨c,M,h3,h4⟩)
   ·exact h1 h3
   ·exact h2 c M h3 h4
  refine⟨F',hle,?_,λ v hv=>?_⟩
  ·refine { size:=hS.size,old:=hS.old,f0:=hS.f0.trans hle,fnew:=λ b o hb hN=>?_,frz:=λ b o hb=>?_,loc:=hS.loc,dom:=λ q L' hq=>by simpa using hS.dom q L' hq,obj:=λ q L' ob hq hob=>?_,sep:=λ q q' L1 L2 ob ob' hq hq' h1 h2=>hS.sep q q' L1 L2 ob ob' hq hq' (hobA q ob h1).2 (hobA q' ob' h2).2,inn:=?_ }
   ·rw[hF']at hb;split at hb
    ·rename_i hx;rcases hx with rfl|⟨c,M,hM,rfl⟩
     ·contradiction
     ·exact absurd (hσ.new k c M hM).1 hN
    ·exact hS.fnew b o hb hN
   ·rw[hF']at hb;split at hb
    ·exact hb
    ·exact hS.frz b o hb
   ·obtain⟨h1,h2⟩:=hobA q ob hob;obtain⟨q1,q2,q3⟩:=hS.obj q L' ob hq h2;refine⟨q1.mono hle (RLe.refl _) rfl,q2,?_⟩;rw[hno L'.b (hS.sep q k L' L ob _ hq hk h2 ho h1) (λ c M hM=>(hσ.obj k c M q L' ob hM hq h2).symm)];exact q3
   ·refine⟨λ k' c=>if k'=k then none else σ k' c,λ k' c M hM=>?_,λ k' c M q L' ob hM hq hob=>?_,λ k' c M k'' c' M' hM hM' hne=>?_,λ q L' ob0 sz' es' hq hob hr0 i e j isz xs hi hj o1 v hb hv=>?_⟩
    ·split at hM
     ·cases hM
     ·rename_i hkk;obtain⟨n1,n2,n3⟩:=hσ.new k' c M hM;refine⟨n1,n2,?_⟩;rw[hno M.b (λ e1=>hσ.obj k' c M k L _ hM hk ho e1.symm) (λ c' M' hM'=>hσ.sep k c' M' k' c M hM' hM (.inl (Ne.symm hkk)))];exact n3
    ·split at hM
     ·cases hM
     ·exact hσ.obj k' c M q L' ob hM hq (hobA q ob hob).2
    ·split at hM
     ·cases hM
     ·split at hM'
      ·cases hM'
      ·exact hσ.sep k' c M k'' c' M' hM hM' hne
    ·obtain⟨h1,h2⟩:=hobA q _ hob;simp only[if_neg h1];exact(hσ.rep q L' ob0 sz' es' hq h2 hr0 i e j isz xs hi hj o1 v hb hv).mono hle λ _ _=>rfl
  ·obtain⟨p1,p2,cs,t,fr,p3,p4,p5,p6⟩:=g1;have hcell:∀ (i:Nat) (e:List D),(es.map λ e=>e.map ofN)[i]?=some e->∀ (j:Nat) (x:D),e[j]?=some x->∃ v,cs[L.base+i*sz+j]?=some v/\Bo F' x v:=by
    intro i e hi j x hx;simp only[Jl3,Jl2]at hi;obtain⟨e0,h1,rfl⟩:=hi;simp only[Jl3,Jl2]at hx;obtain⟨a,h2,rfl⟩:=hx;obtain⟨v',hv',hav⟩:=p6 i e0 h1 j a h2;refine⟨v',hv',?_⟩;have hisN:=hn e0 (Jl1 h1) a (Jl1 h2);cases a with
    | d y=>
     have:=hav rfl;cases this with
     | d _ _ hy=>exact hy.mono hle
    | own isz xs=>
     show Bo F' (.sl xs) v';rcases hσ.narr k L sz es hk ho i e0 j isz xs h1 h2 cs t fr v' p3 hv' with⟨rfl,a,rfl⟩|⟨M,cap,hM,rfl,hcap,_,_,⟨q1,q2,cs1,t1,fr1,q3,q4,q5,q6⟩⟩
     ·exact .sl0 _ _
     ·refine .sl xs M.b M.base cap isz cs1 t1 fr1 (λ i j=>(cs1[M.base+i*isz+j]?).getD undef) (by rw[hfM _ M hM];exact q3) q1 hcap (λ i e hi j x hx=>?_) (λ i e hi j x hx=>?_)
      ·obtain⟨u,hu,_⟩:=q6 i e hi j x hx;simp only[hu,JlK]
      ·obtain⟨u,hu,hd⟩:=q6 i e hi j x hx;simp only[hu,JlK];exact hd.mono hle
    | _=>cases hisN
   have main:∀ cap,es.length<=cap->Bo F' (.sl (es.map λ e=>e.map ofN)) (.slice (some ⟨L.b,L.base,none⟩) es.length cap):=λ cap hcap=>by
    have:=Bo.sl (F:=F') (es.map λ e=>e.map ofN) L.b L.base cap sz cs t fr (λ i j=>(cs[L.base+i*sz+j]?).getD undef) (by rw[hfL];exact p3) (λ e he=>by
     simp only[JlR]at he;obtain⟨e0,h1,rfl⟩:=he;simpa using p1 e0 h1) (by simpa using hcap) (λ i e hi j x hx=>by
      obtain⟨u,hu,_⟩:=hcell i e hi j x hx;simp only[hu,JlK]) (λ i e hi j x hx=>by
      obtain⟨u,hu,hd⟩:=hcell i e hi j x hx;simp only[hu,JlK];exact hd)
    simpa using this
   generalize hl:es.length=n at hv;cases hv with
   | osl _ _ _ _ cap L1 hL hc hs hz=>
    rw[hk]at hL;cases hL;subst hl;simpa using main cap hc
   | osl0 _ _ _ a=>have:=List.length_eq_zero_iff.1 hl;subst this;exact .sl0 _ _
theorem XD (O:List (Option Ob)) (k:Nat):rmA O [k]=O.set k none:=rfl
theorem P5 {h:Array Obj} (hS:Sim N H0 F0 F ρ O h) {k sz lo n:Nat} {es:List (List D)} (ho:obA O k=some (.arr sz es)) (hn:lo+n<=es.length) :
  ∃ F',FLe F F'/\Sim N H0 F0 F' ρ (O.set k none) h/\∀ v,Ak F ρ (.osl k sz lo n) v->Bo F' (.sl ((es.drop lo).take n)) v:=by
 refine⟨HS F ρ h [k],Fy hS _,?_,λ v hv=>?_⟩
 ·rw[← XD];exact hS.freeze [k] λ k' hk'=>by simp at hk';subst hk';exact⟨_,ho⟩
 ·refine I2 (objs:=O) (r:=⟨.sl ((es.drop lo).take n),[k],lo+n<=es.length⟩) hS (λ _ _ h=>h) (Fy hS _) (λ k' L hk' hL=>?_) ?_ hn hv
  ·exact Lg hk' hL
  ·simp[IS,ho]
theorem Jdj {h:Array Obj} {L:Loc} {i:Nat} {cells:List AV} {a:AV} (hρ:RLe ρ ρ') (H:Bv F ρ h L (.box cells)) (ha:∀ v b,cells[i]?=some b->Ak F ρ b v->Ak F ρ' a v):Bv F ρ' h L (.box (cells.set i a)):=by
 obtain⟨p1,p2,cs,t,fr,p3,p4,p5,p6⟩:=H;refine⟨p1,by simpa using p2,cs,t,fr,p3,p4,p5,λ i' a' v ha' hv=>?_⟩;by_cases e1:i'=i
 ·subst e1;have hlt:i'<cells.length:=by have:=Af ha';simpa using this
  rw[Jma hlt]at ha';cases ha';exact ha v _ (JlZ hlt) (p6 i' _ v (JlZ hlt) hv)
 ·rw[Jmf (Ne.symm e1)]at ha';exact(p6 i' a' v ha' hv).mono (FLe.refl _) hρ
theorem Inn.box {h:Array Obj} {σ:Nat->Nat->Option Loc} {kb:Nat} {cells cells':List AV} (hσ:Inn N F ρ O h σ) (hb:obA O kb=some (.box cells)):Inn N F ρ (O.set kb (some (.box cells'))) h σ:=by
 refine⟨hσ.new,λ k c M q L ob hM hq hob=>?_,hσ.sep,λ q L ob0 sz es hq hob=>?_⟩
 ·by_cases e1:q=kb
  ·subst e1;exact hσ.obj k c M q L _ hM hq hb
  ·rw[AJ e1]at hob;exact hσ.obj k c M q L ob hM hq hob
 ·by_cases e1:q=kb
  ·subst e1;rw[AT hb]at hob;cases hob;intro hr0;cases hr0
  ·rw[AJ e1]at hob;exact hσ.rep q L ob0 sz es hq hob
theorem Sim.setbox {h:Array Obj} {kb i:Nat} {cells:List AV} {a:AV} (hS:Sim N H0 F0 F ρ O h) (hb:obA O kb=some (.box cells)) (ha:∀ v b,cells[i]?=some b->Ak F ρ b v->Ak F ρ a v):Sim N H0 F0 F ρ (O.set kb (some (.box (cells.set i a)))) h:=by
 refine hS.retable (by simp) (λ q L ob hq hob=>?_) (by obtain⟨σ,hσ⟩:=hS.inn;exact⟨σ,hσ.box hb⟩);by_cases e1:q=kb
 ·subst e1;rw[AT hb]at hob;cases hob;exact⟨_,hb,.inr (Jdj (RLe.refl _) (hS.obj q L _ hq hb).1 ha)⟩
 ·rw[AJ e1]at hob;exact⟨ob,hob,.inl rfl⟩
theorem Cf.cons {env:List (Nat×AV)} {tmps:Array Value} {t:Nat} {a:AV} (H:Cf F ρ env tmps) (ha:Ak F ρ a (tmps.getD t undef)):Cf F ρ ((t,a)::env) tmps:=by
 intro t';rw[Bi];split
 ·rename_i e1;subst e1;exact ha
 ·exact H t'
theorem U5 {h:Array Obj} (hS:Sim N H0 F0 F ρ O h) {k sz:Nat} {es es':List (List AV)} (ho:obA O k=some (.narr sz es)) (hl:es.length=es'.length)
  (hr:∀ (i:Nat) (e e':List AV),es[i]?=some e->es'[i]?=some e'->e.length=e'.length/\∀ (j:Nat) (a a':AV),e[j]?=some a->e'[j]?=some a'->a=a'\/(a=.own 0 []/\∃ s,a'=.own s [])):Sim N H0 F0 F ρ (O.set k (some (.narr sz es'))) h:=by
 have hget:∀ (i:Nat) (e':List AV),es'[i]?=some e'->∃ e,es[i]?=some e/\e.length=e'.length:=λ i e' hi=>by
  have:=Af hi;have hi0:es[i]?=some es[i]:=JlZ (by omega);exact⟨_,hi0,(hr i _ e' hi0 hi).1⟩
 have hgetc:∀ (i:Nat) (e':List AV) (j:Nat) (a':AV),es'[i]?=some e'->e'[j]?=some a'->∃ e a,es[i]?=some e/\e[j]?=some a/\(a=a'\/(a=.own 0 []/\∃ s,a'=.own s [])):=λ i e' j a' hi hj=>by
  obtain⟨e,h1,h2⟩:=hget i e' hi;have:=Af hj;have hj0:e[j]?=some e[j]:=JlZ (by omega);exact⟨e,_,h1,hj0,(hr i e e' h1 hi).2 j _ a' hj0 hj⟩
 refine hS.retable (by simp) (λ q L ob hq hob=>?_) ?_
 ·by_cases e1:q=k
  ·subst e1;rw[AT ho]at hob;cases hob;refine⟨_,ho,.inr ?_⟩;obtain⟨p1,p2,cs,t,fr,p3,p4,p5,p6⟩:=(hS.obj q L _ hq ho).1;refine⟨λ e' he=>?_,by rw[← hl];exact p2,cs,t,fr,p3,p4,p5,λ i e' hi j a' ha=>?_⟩
   ·obtain⟨i,hi⟩:=List.mem_iff_getElem?.1 he;obtain⟨e,h1,h2⟩:=hget i e' hi;rw[← h2];exact p1 e (Jl1 h1)
   ·obtain⟨e,a,h1,h2,h3⟩:=hgetc i e' j a' hi ha;obtain⟨v,hv,hd⟩:=p6 i e h1 j a h2;refine⟨v,hv,λ hn=>?_⟩;rcases h3 with rfl|⟨_,s,rfl⟩
    ·exact hd hn
    ·cases hn
  ·rw[AJ e1]at hob;exact⟨ob,hob,.inl rfl⟩
 ·obtain⟨σ,hσ⟩:=hS.inn;refine⟨σ,hσ.new,λ k' c M q L ob hM hq hob=>?_,hσ.sep,λ q L ob0 sz' es2 hq hob hr0 i e' j isz xs hi hj o1 v hb hv=>?_⟩
  ·by_cases e1:q=k
   ·subst e1;exact hσ.obj k' c M q L _ hM hq ho
   ·rw[AJ e1]at hob;exact hσ.obj k' c M q L ob hM hq hob
  ·by_cases e1:q=k
   ·subst e1;rw[AT ho]at hob;cases hob;cases hr0;obtain⟨e,a,h1,h2,h3⟩:=hgetc i e' j _ hi hj;rcases h3 with rfl|⟨rfl,s,h4⟩
    ·exact hσ.rep q L _ sz es hq ho rfl i e j isz xs h1 h2 o1 v hb hv
    ·cases h4;have:=hσ.rep q L _ sz es hq ho rfl i e j 0 [] h1 h2 o1 v hb hv;rcases this with h5|⟨_,_,_,_,_,_,h6,_⟩
     ·exact .inl h5
     ·omega
   ·rw[AJ e1]at hob;exact hσ.rep q L ob0 sz' es2 hq hob hr0 i e' j isz xs hi hj o1 v hb hv
theorem Sr {h:Array Obj} (hS:Sim N H0 F0 F ρ O h) {k sz lo n:Nat} {es:List (List D)} (ho:obA O k=some (.arr sz es)) (hn:lo+n<=es.length) {v:Value} (hv:Ak F ρ (.osl k sz lo n) v) :
  ∃ ρ',RLe ρ ρ'/\Sim N H0 F0 F ρ' (O.set k none++[some (.arr sz ((es.drop lo).take n))]) h/\Ak F ρ' (.osl O.length sz 0 n) v:=by
 have hkl:=A6 ho;have hne:ρ O.length=none:=by
  cases hq:ρ O.length with
  | none=>rfl
  | some L=>have:=hS.dom _ L hq;omega
 have hobA:∀ m ob,obA (O.set k none++[some (.arr sz ((es.drop lo).take n))]) m=some ob->(m≠k/\m≠O.length/\obA O m=some ob)\/(m=O.length/\ob=.arr sz ((es.drop lo).take n)):=by
  intro m ob hm;rw[AM,Jmg]at hm;split at hm
  ·rename_i hlt;by_cases e1:m=k
   ·subst e1;rw[AT ho]at hm;cases hm
   ·rw[AJ e1]at hm;exact .inl ⟨e1,by omega,hm⟩
  ·have:=A6 hm;simp at this;have e1:m=O.length:=by omega
   subst e1;simp[obA]at hm;exact .inr ⟨rfl,hm.symm⟩
 cases hv with
 | osl0 _ _ _ a=>
  refine⟨ρ,RLe.refl _,hS.table (by simp) λ m L ob hm hob=>?_,.osl0 _ _ _ _⟩;rcases hobA m ob hob with⟨_,_,h1⟩|⟨rfl,_⟩
  ·exact h1
  ·rw[hne]at hm;cases hm
 | osl _ _ _ _ cap L hL hc hs hz=>
  obtain⟨σ,hσ⟩:=hS.inn;obtain⟨⟨p1,p2,cs,t,fr,p3,p4,p5,p6⟩,g2,g3⟩:=hS.obj k L _ hL ho;have hle:RLe ρ (upR ρ O.length ⟨L.b,L.base+lo*sz,L.size⟩):=Dp hne;have hold:∀ m L',upR ρ O.length ⟨L.b,L.base+lo*sz,L.size⟩ m=some L'->m≠O.length->ρ m=some L':=λ m L' hm hn=>by rwa[Bj hn]at hm
  refine⟨upR ρ O.length ⟨L.b,L.base+lo*sz,L.size⟩,hle,?_,?_⟩
  ·refine { size:=hS.size,old:=hS.old,f0:=hS.f0,fnew:=hS.fnew,frz:=hS.frz,loc:=λ m L' hm=>?_,dom:=λ m L' hm=>?_,obj:=λ m L' ob hm hob=>?_,sep:=λ m m' L' L'' ob ob' hm hm' hob hob' hn'=>?_,inn:=⟨σ,hσ.new,λ k' c M m L' ob hM hm hob=>?_,hσ.sep,λ m L' ob0 sz' es' hm hob hr0=>?_⟩ }
   ·by_cases e1:m=O.length
    ·subst e1;rw[AP]at hm;cases hm;exact hS.loc k L hL
    ·exact hS.loc m L' (hold m L' hm e1)
   ·by_cases e1:m=O.length
    ·subst e1;simp
    ·have:=hS.dom m L' (hold m L' hm e1);simp;omega
   ·rcases hobA m ob hob with⟨_,h2,h1⟩|⟨rfl,rfl⟩
    ·obtain⟨q1,q2,q3⟩:=hS.obj m L' ob (hold m L' hm h2) h1;exact⟨q1.mono (FLe.refl _) hle rfl,q2,q3⟩
    ·rw[AP]at hm;cases hm;refine⟨⟨λ e he=>p1 e (List.mem_of_mem_drop (List.mem_of_mem_take he)),?_,cs,t,fr,p3,p4,p5,λ i e hi j x hx=>?_⟩,g2,g3⟩
     ·have h1:((es.drop lo).take n).length=n:=by simp;omega
      rw[h1];have h2:(lo+n)*sz<=es.length*sz:=JlI sz hn;rw[Jmc]at h2;simp only;omega
     ·have hi':i<n:=by have:=Af hi;simp at this;omega
      rw[Jmj hi',JlS]at hi;obtain⟨u,hu,hd⟩:=p6 (lo+i) e hi j x hx;refine⟨u,?_,hd⟩;rw[← hu];congr 1;simp only[Jmc];omega
   ·have key:∀ m L' ob,upR ρ O.length ⟨L.b,L.base+lo*sz,L.size⟩ m=some L'->obA (O.set k none++[some (.arr sz ((es.drop lo).take n))]) m=some ob->(m≠O.length/\m≠k/\ρ m=some L'/\obA O m=some ob)\/(m=O.length/\L'.b=L.b):=λ m L' ob hm hob=>by
     rcases hobA m ob hob with⟨h1,h2,h3⟩|⟨rfl,h1⟩
     ·exact .inl ⟨h2,h1,hold m L' hm h2,h3⟩
     ·rw[AP]at hm;cases hm;exact .inr ⟨rfl,rfl⟩
    rcases key m L' ob hm hob with⟨a1,a2,a3,a4⟩|⟨rfl,a1⟩
    ·rcases key m' L'' ob' hm' hob' with⟨b1,b2,b3,b4⟩|⟨rfl,b1⟩
     ·exact hS.sep m m' L' L'' ob ob' a3 b3 a4 b4 hn'
     ·rw[b1];exact hS.sep m k L' L ob _ a3 hL a4 ho a2
    ·rcases key m' L'' ob' hm' hob' with⟨b1,b2,b3,b4⟩|⟨rfl,_⟩
     ·rw[a1];exact hS.sep k m' L L'' _ ob' hL b3 ho b4 (Ne.symm b2)
     ·exact absurd rfl hn'
   ·rcases hobA m ob hob with⟨_,h2,h1⟩|⟨rfl,rfl⟩
    ·exact hσ.obj k' c M m L' ob hM (hold m L' hm h2) h1
    ·rw[AP]at hm;cases hm;exact hσ.obj k' c M k L _ hM hL ho
   ·rcases hobA m _ hob with⟨_,h2,h1⟩|⟨rfl,h1⟩
    ·exact hσ.rep m L' _ sz' es' (hold m L' hm h2) h1 hr0
    ·subst h1;cases hr0
  ·have:=Ak.osl (F:=F) (ρ:=upR ρ O.length ⟨L.b,L.base+lo*sz,L.size⟩) O.length sz 0 n cap ⟨L.b,L.base+lo*sz,L.size⟩ (AP _ _ _) hc (by simp only[Jmd];rw[Jmc]at hs;omega) hz;simpa using this
theorem Dr {nt:Slt} {st st':St} {a:Act} {nk:Nat} (hnk:nt.nk=nk) (h:Ay nk st st'):Inv N H0 F0 w0 nt st a w->Inv N H0 F0 w0 nt st' a w:=by
 induction h with
 | refl st=>exact id
 | trans _ _ ih1 ih2=>exact λ h=>ih2 (ih1 h)
 | gc ts=>exact ZU hnk ts
 | sem hsem=>exact hsem _ _ _ _ _ _ _ hnk
 | toN k sz es ho=>
  rintro⟨F,ρ,hS,hSl,hn,hd⟩;exact⟨F,ρ,YB hS ho,hSl,hn,hd⟩
 | out k sz i j isz es e xs ho hi hj=>
  rintro⟨F,ρ,hS,hSl,hn,hd⟩;obtain⟨ρ',h1,h2⟩:=YC hS ho hi hj;exact⟨F,ρ',h2,hSl.mono (FLe.refl _) h1,hn,hd.1,hd.2.1,hd.2.2.mono h1⟩
 | inn k sz i j m isz es e xs ho hi hj hm=>
  rintro⟨F,ρ,hS,hSl,hn,hd⟩;exact⟨F,ρ,YD hS ho hi hj hm,hSl,hn,hd⟩
 | frz t k sz es ht ho hN=>
  rintro⟨F,ρ,hS,hSl,hn,hd⟩;obtain⟨F',h1,h2,h3⟩:=Sq hS ho hN;exact⟨F',ρ,h2,(hSl.mono h1 (RLe.refl _)).cons (.d _ _ (h3 _ (by have:=hSl t;rwa[ht]at this))),hn,hd.1.mono h1,hd.2⟩
 | frzA t k sz lo n es ht ho hN=>
  rintro⟨F,ρ,hS,hSl,hn,hd⟩;obtain⟨F',h1,h2,h3⟩:=P5 hS ho hN;exact⟨F',ρ,h2,(hSl.mono h1 (RLe.refl _)).cons (.d _ _ (h3 _ (by have:=hSl t;rwa[ht]at this))),hn,hd.1.mono h1,hd.2⟩
 | nilo t sz ht=>
  rintro⟨F,ρ,hS,hSl,hn,hd⟩;refine⟨F,ρ,hS.grow _,hSl.cons ?_,hn,hd⟩;have:=hSl t;rw[ht]at this;rw[this.nil];exact .osl0 _ _ _ _
 | nilD t ht=>
  rintro⟨F,ρ,hS,hSl,hn,hd⟩;refine⟨F,ρ,hS,hSl.cons ?_,hn,hd⟩;have:=hSl t;rw[ht]at this;rw[this.nil];exact .d _ _ (.sl0 _ _)
 | nilDc k i cells hb hi=>
  rintro⟨F,ρ,hS,hSl,hn,hd⟩;refine⟨F,ρ,hS.setbox hb λ v b hb' hv=>?_,hSl,hn,hd⟩;rw[hi]at hb';cases hb';rw[hv.nil];exact .d _ _ (.sl0 _ _)
 | dup t=>
  rintro⟨F,ρ,hS,hSl,hn,hd⟩;exact⟨F,ρ,hS,hSl.cons (hSl t),hn,hd⟩
 | reown k sz es es' ho hl hr=>
  rintro⟨F,ρ,hS,hSl,hn,hd⟩;exact⟨F,ρ,U5 hS ho hl hr,hSl,hn,hd⟩
 | sub t k sz lo n es ht ho hN=>
  rintro⟨F,ρ,hS,hSl,hn,hd⟩;obtain⟨ρ',h1,h2,h3⟩:=Sr hS ho hN (by have:=hSl t;rwa[ht]at this);exact⟨F,ρ',h2,(hSl.mono (FLe.refl _) h1).cons h3,hn,hd.1,hd.2.1,hd.2.2.mono h1⟩
 | @subC s0 kb i k sz lo n cells es hb hi ho hN=>
  rintro⟨F,ρ,hS,hSl,hn,hd⟩;have hne:kb≠k:=λ e1=>by subst e1;rw[hb]at ho;cases ho
  have hkl:=A6 hb;have hset:(s0.objs.set k none).set kb (some (Ob.box (cells.set i (AV.osl s0.objs.length sz 0 n))))++[some (Ob.arr sz ((es.drop lo).take n))]=(s0.objs.set k none++[some (Ob.arr sz ((es.drop lo).take n))]).set kb (some (Ob.box (cells.set i (AV.osl s0.objs.length sz 0 n)))):=by
   rw[List.set_append_left _ _ (by simpa using hkl)]
  have hb':obA (s0.objs.set k none++[some (Ob.arr sz ((es.drop lo).take n))]) kb=some (Ob.box cells):=by
   rw[AM,Jmg,if_pos hkl,AJ hne];exact hb
  cases hkb:ρ kb with
  | none=>
   have hsub:∃ ρ',RLe ρ ρ'/\Sim N H0 F0 F ρ' (s0.objs.set k none++[some (.arr sz ((es.drop lo).take n))]) w.heap:=by
    refine⟨ρ,RLe.refl _,hS.table (by simp) λ m L ob hm hob=>?_⟩;rw[AM,Jmg]at hob;split at hob
    ·by_cases e1:m=k
     ·subst e1;rw[AT ho]at hob;cases hob
     ·rw[AJ e1]at hob;exact hob
    ·have:=hS.dom m L hm;omega
   refine⟨F,ρ,?_,hSl,hn,hd⟩;show Sim N H0 F0 F ρ ((s0.objs.set k none).set kb _++_) w.heap;rw[hset];refine hS.table (by simp) λ m L ob hm hob=>?_;by_cases e0:m=kb
   ·subst e0;rw[hkb]at hm;cases hm
   ·rw[AJ e0,AM,Jmg]at hob;split at hob
    ·by_cases e1:m=k
     ·subst e1;rw[AT ho]at hob;cases hob
     ·rw[AJ e1]at hob;exact hob
    ·have:=hS.dom m L hm;omega
  | some Lb=>
   obtain⟨p1,p2,cs,t,fr,p3,p4,p5,p6⟩:=(hS.obj kb Lb _ hkb hb).1;have hil:=Af hi;have hv0:cs[i]?=some cs[i]:=Jl4 (by omega);obtain⟨ρ',h1,h2,h3⟩:=Sr hS ho hN (p6 i _ _ hi hv0);refine⟨F,ρ',?_,hSl.mono (FLe.refl _) h1,hn,hd.1,hd.2.1,hd.2.2.mono h1⟩;show Sim N H0 F0 F ρ' ((s0.objs.set k none).set kb _++_) w.heap;rw[hset];refine h2.retable (by simp) (λ q L ob hq hob=>?_) (by obtain⟨σ,hσ⟩:=h2.inn;exact⟨σ,hσ.box hb'⟩);by_cases e1:q=kb
   ·subst e1;rw[AT hb']at hob;cases hob;refine⟨_,hb',.inr ?_⟩;have hL:L=Lb:=by have:=h1 q Lb hkb;rw[hq]at this;exact Option.some.inj this
    subst hL;refine⟨p1,by simpa using p2,cs,t,fr,p3,p4,p5,λ i' a' v ha' hv=>?_⟩;by_cases e2:i'=i
    ·subst e2;rw[Jma hil]at ha';cases ha';rw[hv0]at hv;cases hv;exact h3
    ·rw[Jmf (Ne.symm e2)]at ha';exact(p6 i' a' v ha' hv).mono (FLe.refl _) h1
   ·rw[AJ e1]at hob;exact⟨ob,hob,.inl rfl⟩
 | nilc k i sz cells hb hi=>
  rintro⟨F,ρ,hS,hSl,hn,hd⟩;refine⟨F,ρ,(hS.setbox hb λ v b hb' hv=>?_).grow _,hSl,hn,hd⟩;rw[hi]at hb';cases hb';rw[hv.nil];exact .osl0 _ _ _ _
 | @frzC s0 kb i k sz lo n cells es hb hi ho hN=>
  rintro⟨F,ρ,hS,hSl,hn,hd⟩;obtain⟨F',h1,h2,h3⟩:=P5 hS ho hN;have hne:kb≠k:=λ e1=>by subst e1;rw[hb]at ho;cases ho
  have hb':obA (s0.objs.set k none) kb=some (.box cells):=by rw[AJ hne];exact hb
  refine⟨F',ρ,?_,hSl.mono h1 (RLe.refl _),hn,hd.1.mono h1,hd.2⟩;refine h2.retable (by simp) (λ q L ob hq hob=>?_) (by obtain⟨σ,hσ⟩:=h2.inn;exact⟨σ,hσ.box hb'⟩);by_cases e1:q=kb
  ·subst e1;rw[AT hb']at hob;cases hob;refine⟨_,hb',.inr ?_⟩;obtain⟨p1,p2,cs,t,fr,p3,p4,p5,p6⟩:=(hS.obj q L _ hq hb).1;refine⟨p1,by simpa using p2,cs,t,fr,p3,p4,p5,λ i' a' v ha' hv=>?_⟩;by_cases e2:i'=i
   ·subst e2;rw[Jma (Af hi)]at ha';cases ha';exact .d _ _ (h3 v (p6 i' _ v hi hv))
   ·rw[Jmf (Ne.symm e2)]at ha';exact(p6 i' a' v ha' hv).mono h1 (RLe.refl _)
  ·rw[AJ e1]at hob;exact⟨ob,hob,.inl rfl⟩
end Go.AI
end
section
namespace Go.AI
variable {P:Program} {F F':Nat->Option Obj} {ρ ρ':Nat->Option Loc} {N:Nat->Prop} {H0 F0:Nat->Option Obj} {O objs objs':List (Option Ob)} {w:World} {w0:W0}
theorem Eg {ev:Operand->AV} {op:Op} {x:Operand} (hx:x∈op.operands.toList) {k:Nat} (hk:k∈Bp (Ar (ev x))):k∈EP ev op:=by
 unfold EP;rw[List.mem_flatMap];exact⟨x,hx,hk⟩
def Ext (objs objs':List (Option Ob)) (K:List Nat):Prop:=∀ k∈K,∀ ob,obA objs k=some ob->obA objs' k=some ob
theorem Ext.sub {K K':List Nat} (h:Ext objs objs' K) (hs:∀ k∈K',k∈K):Ext objs objs' K':=λ k hk=>h k (hs k hk)
theorem NQ {v:AV} {r:Rd D} (h:Ext objs objs' (DH v)) (he:IS objs v=some r):IS objs' v=some r:=by
 cases v with
 | osl k sz lo n=>
  simp only[IS]at he⊢;split at he
  ·rename_i sz' es ho;rw[h k (by simp[DH]) _ ho];exact he
  ·cases he
 | d x=>cases x<;>exact he
 | _=>exact he
theorem F9:∀ {l:List AV} {r:Rd (List D)},Ext objs objs' (Bp l)->D0 objs l=some r->D0 objs' l=some r:=by
 intro l;induction l with
 | nil=>intro r _ he;exact he
 | cons v l ih=>
  intro r h he;simp only[D0]at he⊢;split at he
  ·rename_i r1 r2 h1 h2;rw[NQ (h.sub λ k hk=>by simp[Bp,hk]) h1,ih (h.sub λ k hk=>by simp[Bp,hk]) h2];exact he
  ·cases he
theorem OH {v:AV} {r:List (List D)×Prop} (h:Ext objs objs' (Bp (Ar v))) (he:FY objs v=some r):FY objs' v=some r:=by
 cases v with
 | osl k sz lo n=>
  simp only[FY]at he⊢;split at he
  ·rename_i sz' es ho;rw[h k (by simp[Ar,Bp,DH]) _ ho];exact he
  ·cases he
 | d x=>cases x<;>exact he
 | _=>exact he
theorem Wo {t:Ty} {v:AV} {e:Eff} (h:Ext objs objs' (Bp (Ar v))) (he:CX t objs v=some e):CX t objs' v=some e:=by
 cases v with
 | ptr k off=>
  simp only[CX]at he⊢;split at he
  ·rename_i cells ho;rw[h k (by simp[Ar,Bp,DH]) _ ho];exact he
  ·cases he
 | eptr k sz i off=>
  simp only[CX]at he⊢;split at he
  ·rename_i sz' es ho;rw[h k (by simp[Ar,Bp,DH]) _ ho];exact he
  ·rename_i sz' es ho;rw[h k (by simp[Ar,Bp,DH]) _ ho];exact he
  ·cases he
 | _=>exact he
theorem U6 {t:Ty} {a v:AV} {e:Eff} (h:Ext objs objs' (Bp (Ar a))) (hv:Ext objs objs' (Bp (Ar v))) (he:EO t objs a v=some e):EO t objs' a v=some e:=by
 cases a with
 | ptr k off=>
  simp only[EO]at he⊢;split at he
  ·rename_i cells ho;rw[h k (by simp[Ar,Bp,DH]) _ ho];exact he
  ·cases he
 | eptr k sz i off=>
  simp only[EO]at he⊢;split at he
  ·rename_i sz' es ho;rw[h k (by simp[Ar,Bp,DH]) _ ho];exact he
  ·rename_i sz' es r ho hx;rw[h k (by simp[Ar,Bp,DH]) _ ho,F9 hv hx];exact he
  ·cases he
 | _=>exact he
theorem Km {agg:Bool} {v:AV} {r:Rd (List D)} (h:Ext objs objs' (Bp (Ar v))) (he:kvA objs agg v=some r):kvA objs' agg v=some r:=by
 unfold kvA at he⊢;split at he
 ·cases agg with
  | false=>cases he
  | true=>exact F9 h he
 ·rename_i hn;cases agg with
  | true=>cases he
  | false=>
   refine F9 (h.sub λ k hk=>?_) he;cases v with
   | agg l=>exact absurd rfl (hn l)
   | _=>exact hk
theorem Wp {kind:TK} {m key:AV} {ok:Bool} {e:Eff} (hm:Ext objs objs' (Bp (Ar m))) (hk:Ext objs objs' (Bp (Ar key))) (he:FT kind objs m key ok=some e):FT kind objs' m key ok=some e:=by
 unfold FT at he⊢;split at he
 ·rename_i ks ka va vz k;split at he
  ·rename_i ka' va' ents r ho hr;rw[hm k (by simp[Ar,Bp,DH]) _ ho,Km hk hr];exact he
  ·rename_i ka' dv ents r ho hr;rw[hm k (by simp[Ar,Bp,DH]) _ ho,Km hk hr];exact he
  ·cases he
 ·cases he
theorem P6 {kind:TK} {m key v:AV} {e:Eff} (hm:Ext objs objs' (Bp (Ar m))) (hk:Ext objs objs' (Bp (Ar key))) (hv:Ext objs objs' (Bp (Ar v))) (he:G8 kind objs m key v=some e):G8 kind objs' m key v=some e:=by
 unfold G8 at he⊢;split at he
 ·rename_i ks ka va vz k;split at he
  ·rename_i ka' va' ents r s ho hr hs;rw[hm k (by simp[Ar,Bp,DH]) _ ho,Km hk hr,Km hv hs];exact he
  ·rename_i _ ka' dv ents r ho hr;rw[hm k (by simp[Ar,Bp,DH]) _ ho,Km hk hr];exact he
  ·cases he
 ·cases he
theorem YE {v:AV} {r:Rd (List D)} (h:Ext objs objs' (Bp (Ar v))) (he:Yd objs v=some r):Yd objs' v=some r:=by
 unfold Yd at he⊢;split at he
 ·exact he
 ·exact F9 h he
theorem Wq {esz:Nat}:∀ {parts:List (Nat×AV)} {es:List (List D)} {r:Rd (List (List D))},(∀ p∈parts,Ext objs objs' (Bp (Ar p.2)))->Im objs esz es parts=some r->Im objs' esz es parts=some r:=by
 intro parts;induction parts with
 | nil=>intro es r _ he;exact he
 | cons p parts ih=>
  intro es r h he;obtain⟨i,v⟩:=p;simp only[Im]at he⊢;split at he
  ·rename_i r1 h1;rw[YE (h (i,v) (by simp)) h1];simp only;cases hc:(Bz v&&r1.x.length==esz&&decide (i<es.length))with
   | false=>rw[hc]at he;cases he
   | true=>
    rw[hc,cond_true]at he;rw[cond_true];split at he
    ·rename_i r2 h2;rw[ih (λ p hp=>h p (by simp[hp])) h2];exact he
    ·cases he
  ·cases he
theorem M3 {esz eb:Nat} {s:AV} {ys:List (List D)} {ob:Prop} {e:Eff} (hl:objs.length=objs'.length) (h:Ext objs objs' (Bp (Ar s))) (he:Ct esz eb objs s ys ob=some e):Ct esz eb objs' s ys ob=some e:=by
 cases s with
 | osl k sz lo n=>
  simp only[Ct]at he⊢;split at he
  ·rename_i sz' es ho;rw[h k (by simp[Ar,Bp,DH]) _ ho,← hl];exact he
  ·rename_i sz' es ho;rw[h k (by simp[Ar,Bp,DH]) _ ho,← hl];exact he
  ·cases he
 | d x=>
  cases x with
  | nil=>simp only[Ct]at he⊢;rw[← hl];exact he
  | _=>exact he
 | _=>exact he
theorem DS {b:Bool} {x y:Option Eff} {e:Eff} (h:x=some e->y=some e) (he:(bif b then x else none)=some e):(bif b then y else none)=some e:=by
 cases b with
 | false=>cases he
 | true=>exact h he
theorem P7 {Γ:Nat->Ty} {ev:Operand->AV} (op:Op) (hl:objs.length=objs'.length\/Yo op=true) (h:Ext objs objs' (EP ev op)) {e:Eff} (he:opA Γ ev objs op=some e):opA Γ ev objs' op=some e:=by
 have hx:∀ x∈op.operands.toList,Ext objs objs' (Bp (Ar (ev x))):=λ x hx=>h.sub λ k hk=>Eg hx hk;by_cases hreg:DG op=false/\isW op=false
 ·rw[M0 op hreg.1 hreg.2]at he⊢;exact he
 cases op with
 | call c=>
  obtain⟨callee,args,ts⟩:=c;cases callee with
  | value f=>cases he
  | invoke r m=>cases he
  | builtin b=>
   cases b<;>first|exact absurd ⟨rfl,rfl⟩ hreg|skip
   have hl:objs.length=objs'.length:=by rcases hl with h|h;exact h;cases h
   simp only[opA]at he⊢;split at he
   ·rename_i s x t t' hargs hts;have hs:=hx s (by simp[Op.operands,Call.operands,hargs]);have hxx:=hx x (by simp[Op.operands,Call.operands,hargs]);refine DS (λ he=>?_) he;split at he
    ·rename_i hel;rw[OH hxx hel];simp only[*];exact DS (M3 hl hs) he
    ·rename_i hel;rw[OH hxx hel];simp only[*];exact DS (M3 hl hs) he
    ·cases he
   ·cases he
 | load t x=>
  simp only[opA]at he⊢;exact DS (Wo (hx x (by simp[Op.operands]))) he
 | store t x y=>
  simp only[opA]at he⊢;exact DS (U6 (hx x (by simp[Op.operands])) (hx y (by simp[Op.operands]))) he
 | mapUpdate t m k v=>
  simp only[opA]at he⊢;exact DS (P6 (hx m (by simp[Op.operands])) (hx k (by simp[Op.operands])) (hx v (by simp[Op.operands]))) he
 | insert t m k v=>
  simp only[opA]at he⊢;exact DS (P6 (hx m (by simp[Op.operands])) (hx k (by simp[Op.operands])) (hx v (by simp[Op.operands]))) he
 | lookup t m k ok=>
  simp only[opA]at he⊢;exact DS (Wp (hx m (by simp[Op.operands])) (hx k (by simp[Op.operands]))) he
 | alloc t=>
  have hl:objs.length=objs'.length:=by rcases hl with h|h;exact h;cases h
  simp only[opA,← hl]at he⊢;exact he
 | box t x=>
  have hl:objs.length=objs'.length:=by rcases hl with h|h;exact h;cases h
  simp only[opA,← hl]at he⊢;exact he
 | makeSlice t x y=>
  have hl:objs.length=objs'.length:=by rcases hl with h|h;exact h;cases h
  simp only[opA,← hl]at he⊢;exact he
 | makeMap t x=>
  cases x with
  | none=>
   have hl':objs.length=objs'.length:=by rcases hl with h|h;exact h;cases h
   simp only[opA,← hl']at he⊢;exact he
  | some x=>
   have hl':objs.length=objs'.length:=by rcases hl with h|h;exact h;cases h
   simp only[opA,← hl']at he⊢;exact he
 | buildSlice t len parts=>
  have hl:objs.length=objs'.length:=by rcases hl with h|h;exact h;cases h
  simp only[opA]at he⊢;refine DS (λ he=>?_) he;split at he
  ·rename_i esz eb ez hk;refine DS (λ he=>?_) he;split at he
   ·rename_i r hr;rw[Wq (λ p hp=>?_) hr]
    ·rw[← hl];exact he
    ·rw[JlR]at hp;obtain⟨q,hq,rfl⟩:=hp;exact hx q.2 (by simp only[Op.operands,JlR];exact⟨q,hq,rfl⟩)
   ·cases he
  ·cases he
 | _=>exact absurd ⟨rfl,rfl⟩ hreg
theorem YF {v:AV} {r:Rd AV} (h:Ext objs objs' (Bp (Ar v))) (hp:Jff v=true->∀ k ob,obA objs k=some ob->obA objs' k=some ob) (he:MM objs v=some r):MM objs' v=some r:=by
 unfold MM at he⊢;split at he
 ·rename_i l;split at he
  ·rename_i r1 h1;rw[F9 (l:=l) h h1];exact he
  ·cases he
 ·rename_i k off;have hp:=hp rfl;split at he
  ·rename_i cells hk;rw[hp k _ hk];simp only;split at he
   ·rename_i r1 h1;rw[F9 (λ k _=>hp k) h1];exact he
   ·cases he
  ·cases he
 ·rename_i k sz i off;have hp:=hp rfl;split at he
  ·rename_i sz' es hk;rw[hp k _ hk];exact he
  ·rename_i sz' es hk;rw[hp k _ hk];exact he
  ·cases he
 ·exact he
 ·rename_i k sz lo n;have hk1:k∈Bp (Ar (.osl k sz lo n)):=by simp[Ar,Bp,DH]
  split at he
  ·rename_i sz' es hk;rw[h k hk1 _ hk];exact he
  ·rename_i hne;split at he
   ·rename_i r1 h1;rw[NQ (h.sub λ k hk=>by simpa [Ar,Bp]using hk) h1];split
    ·rename_i sz' es hk;exfalso;simp only[IS]at h1;split at h1
     ·rename_i ho;rw[h k hk1 _ ho]at hk;cases hk
     ·cases h1
    ·exact he
   ·cases he
 ·rename_i hn _ _ _ _;split at he
  ·rename_i r1 h1;rw[NQ (h.sub λ k hk=>?_) h1]
   ·exact he
   ·cases v with
    | agg l=>exact absurd rfl (hn l)
    | _=>simp only[Ar,Bp,List.append_nil];exact hk
  ·cases he
theorem Ws:∀ {l:List AV} {r:Rd (List AV)},(∀ v∈l,Ext objs objs' (Bp (Ar v))/\(Jff v=true->∀ k ob,obA objs k=some ob->obA objs' k=some ob))->LS objs l=some r->LS objs' l=some r:=by
 intro l;induction l with
 | nil=>intro r _ he;exact he
 | cons v l ih=>
  intro r h he;simp only[LS]at he⊢;split at he
  ·rename_i r1 r2 h1 h2;rw[YF (h v (by simp)).1 (h v (by simp)).2 h1,ih (λ v hv=>h v (by simp[hv])) h2];exact he
  ·cases he
end Go.AI
end
section
namespace Go.AI
variable {P:Program} {F F':Nat->Option Obj} {ρ ρ':Nat->Option Loc} {N:Nat->Prop} {H0 F0:Nat->Option Obj} {O objs objs':List (Option Ob)} {w:World} {w0:W0}
def mkT (n:Nat) (f:Nat->Option Ob):List (Option Ob):=(List.range n).map f
theorem Fa (n:Nat) (f:Nat->Option Ob):(mkT n f).length=n:=by simp[mkT]
theorem Li (n:Nat) (f:Nat->Option Ob) (k:Nat):obA (mkT n f) k=if k<n then f k else none:=by
 unfold obA mkT;by_cases h:k<n
 ·rw[if_pos h,Jl3,List.getElem?_range h];cases hf:f k<;>simp[hf]
 ·rw[if_neg h,Jl3,Jmk (by simp;omega)];rfl
def I8 (K:List Nat) (O:List (Option Ob)):List (Option Ob):=mkT O.length λ k=>bif K.contains k then obA O k else none
theorem Gx (K:List Nat) (O:List (Option Ob)):(I8 K O).length=O.length:=Fa _ _
theorem Te (K:List Nat) (O:List (Option Ob)) (k:Nat):obA (I8 K O) k=if k∈K then obA O k else none:=by
 unfold I8;rw[Li];by_cases hk:k∈K
 ·rw[if_pos hk,List.contains_iff_mem.2 hk,cond_true];split
  ·rfl
  ·rename_i hl;cases ho:obA O k with
   | none=>rfl
   | some ob=>exact absurd (A6 ho) hl
 ·rw[if_neg hk];have:K.contains k=false:=by
   cases hc:K.contains k with
   | false=>rfl
   | true=>exact absurd (List.contains_iff_mem.1 hc) hk
  rw[this,cond_false];split<;>rfl
theorem Ext.cut {K:List Nat}:Ext objs (I8 K objs) K:=λ k hk ob ho=>by rw[Te,if_pos hk];exact ho
def B0 (s:St) (o:Oper):List Nat:=bif IY (λ x=>unG (Al s.env x)) o.op then List.range s.objs.length else EP (λ x=>unG (Al s.env x)) o.op
theorem Is {s:St} {o:Oper} {T:List (Option Ob)} (h:Ext s.objs T (B0 s o)):Ext s.objs T (EP (λ x=>unG (Al s.env x)) o.op)/\(IY (λ x=>unG (Al s.env x)) o.op=true->∀ k ob,obA s.objs k=some ob->obA T k=some ob):=by
 unfold B0 at h;cases hd:IY (λ x=>unG (Al s.env x)) o.op with
 | true=>
  rw[hd,cond_true]at h;have:∀ k ob,obA s.objs k=some ob->obA T k=some ob:=λ k ob ho=>h k (List.mem_range.2 (A6 ho)) ob ho;exact⟨λ k _=>this k,λ _=>this⟩
 | false=>rw[hd,cond_false]at h;exact⟨h,λ h=>by cases h⟩
theorem Ss {ev:Operand->AV} {op:Op} (h:isW op=true):IY ev op=false:=by
 cases op with
 | call c=>obtain⟨callee,args,ts⟩:=c;cases callee<;>first|rfl|cases h
 | _=>rfl
theorem Ps {s:St} {o:Oper} (h:isW o.op=true):B0 s o=EP (λ x=>unG (Al s.env x)) o.op:=by
 unfold B0;rw[Ss h];rfl
theorem Jfn {e:Eff} {gd dr W:Bool} (hc:((e.upd.isSome&&gd)||(!e.rm.isEmpty&&(gd||(dr&&!W))))=false) (hd:dr=true) (hW:W=false):e.rm=[]:=by
 subst hd;subst hW;simp only[Bool.not_false,Bool.and_true,Bool.or_true,JlY]at hc;exact isEmpty_nil (by simpa using hc.2)
theorem YG {Γ:Cx} {all:List Oper} {o:Oper} {s s':St} (hnW:isW o.op=false) (h:A1 Γ true all o (λ x=>x=s') s) :
  ∃ new,s'.objs=s.objs++new/\A1 Γ true all o (λ x=>x=⟨s'.env,I8 (B0 s o) s.objs++new⟩) ⟨s.env,I8 (B0 s o) s.objs⟩:=by
 unfold A1 at h⊢;cases hg:Bw all s.env o.guard with
 | none=>rw[hg]at h;exact h.elim
 | some g=>
  rw[hg]at h;simp only at h⊢;cases hdst:BE Γ.nt o.dst with
  | false=>rw[hdst]at h;exact h.elim
  | true=>
   rw[hdst]at h;simp only[JlM,cond_false]at h⊢;cases hgv:g with
   | false=>
    obtain⟨v,obs,hm,hQ⟩:=h.2 hgv;subst hQ;refine⟨obs.map some,rfl,?_⟩;exact⟨λ h=>by simp at h,λ _=>⟨v,obs,hm,rfl⟩⟩
   | true=>
    rw[hgv]at h;have h:=h.1 rfl
    suffices hs:∃ new,s'.objs=s.objs++new/\(stepG Γ true o (λ x=>x=⟨s'.env,I8 (B0 s o) s.objs++new⟩) ⟨s.env,I8 (B0 s o) s.objs⟩ true\/Fg Γ o (λ x=>x=⟨s'.env,I8 (B0 s o) s.objs++new⟩) ⟨s.env,I8 (B0 s o) s.objs⟩ true) by
     obtain⟨new,h1,h2⟩:=hs;exact⟨new,h1,⟨λ _=>Or.imp id Or.inl h2,λ h=>by simp at h⟩⟩
    rcases h with h|h|h
    case inr.inr=>exact absurd h.1 (by simp)
    case inr.inl=>
     unfold Fg at h⊢;split at h
     ·rename_i es hes;obtain⟨h1,h2⟩:=h;subst h2;refine⟨[],by simp,.inr ?_⟩;simp only[hes];exact⟨h1,by simp⟩
     ·exact h.elim
    have hext:Ext s.objs (I8 (B0 s o) s.objs) (B0 s o):=Ext.cut;have others:∀ op,o.op=op->(match opA Γ.ty (λ x=>unG (Al s.env x)) s.objs op with
      | some e=>Fu true (op.operands.toList.map (Al s.env))/\(true=true->e.ob)/\(bif (e.upd.isSome&&o.guard.isSome)||(!e.rm.isEmpty&&(o.guard.isSome||(true&&!isW op)))then False else(DV o.dst o.guard.isSome true e s)=s')
      | none=>False)->∃ new,s'.objs=s.objs++new/\(match opA Γ.ty (λ x=>unG (Al s.env x)) (I8 (B0 s o) s.objs) op with
      | some e=>Fu true (op.operands.toList.map (Al s.env))/\(true=true->e.ob)/\(bif (e.upd.isSome&&o.guard.isSome)||(!e.rm.isEmpty&&(o.guard.isSome||(true&&!isW op)))then False else(DV o.dst o.guard.isSome true e ⟨s.env,I8 (B0 s o) s.objs⟩)=⟨s'.env,I8 (B0 s o) s.objs++new⟩)
      | none=>False):=by
     intro op hop h;subst hop;split at h
     ·rename_i e he;obtain⟨h1,h2,h3⟩:=h;cases hc:((e.upd.isSome&&o.guard.isSome)||(!e.rm.isEmpty&&(o.guard.isSome||(true&&!isW o.op))))with
      | true=>rw[hc]at h3;exact h3.elim
      | false=>
       rw[hc,cond_false]at h3;have hrm:=Jfn hc rfl hnW;have hup:=NP hnW he;subst h3;refine⟨e.obs.map some,by simp only[DV,hrm,hup,rmA,BG],?_⟩;rw[P7 o.op (.inl (Gx _ _).symm) (Is hext).1 he];simp only[hc,cond_false];exact⟨h1,λ _=>h2 rfl,by simp only[DV,hrm,hup,rmA,BG]⟩
     ·exact h.elim
    unfold stepG at h⊢;split at h
    ·rename_i f args ts hop;obtain⟨h1,h⟩:=h;unfold JD at h;split at h
     ·rename_i ra hra;obtain⟨hob,m,r,hcall,hflat,hQ⟩:=h;subst hQ;refine⟨_,rfl,.inl ?_⟩;simp only[];refine⟨h1,?_⟩;unfold JD;have he:=Ws (objs':=I8 (B0 s o) s.objs) (λ v hv=>?_) hra
      ·simp only[he,Gx];exact⟨λ _=>hob rfl,m,r,λ _=>hcall rfl,hflat,rfl⟩
      ·rw[JlR]at hv;obtain⟨x,hx,rfl⟩:=hv;refine⟨(Is hext).1.sub λ k hk=>Eg (ev:=λ x=>unG (Al s.env x)) (x:=x) (by rw[hop];simp[Op.operands,Call.operands];exact .inr (by simpa using hx)) hk,λ hp=>(Is hext).2 ?_⟩;rw[hop];simp only[IY,List.any_eq_true];exact⟨x,hx,hp⟩
     ·exact h.elim
    ·rename_i c x y hop;have hreg:∀ objs:List (Option Ob),opA Γ.ty (Al s.env) objs (.pick c x y)=opA Γ.ty (Al s.env) [] (.pick c x y):=λ objs=>M0 _ rfl rfl;rw[hreg]at h;simp only[];split at h
     ·rename_i e he;obtain⟨h2,h3⟩:=h;subst h3;have hq:=Tb (op:=.pick c x y) rfl he;refine⟨[],by simp only[DV,hq.1,hq.2.1,hq.2.2,rmA,BG,List.map_nil],.inl ?_⟩;rw[hreg,he];exact⟨λ _=>h2 rfl,by simp only[DV,hq.1,hq.2.1,hq.2.2,rmA,BG,List.map_nil]⟩
     ·exact h.elim
    ·obtain⟨new,g1,g2⟩:=others _ rfl h;refine⟨new,g1,.inl ?_⟩;exact g2
theorem Jdk {v:AV} {r:Rd D} (he:IS objs v=some r):∀ k∈r.ks,k∈DH v:=by
 cases v with
 | osl k sz lo n=>
  simp only[IS]at he;split at he
  ·rename_i sz' es ho;generalize Nat.beq sz sz'=b at he;cases b with
   | false=>cases he
   | true=>cases he;intro j hj;simpa [DH]using hj
  ·cases he
 | d x=>cases x<;>(cases he;intro j hj;simp at hj)
 | _=>cases he
theorem P8:∀ {l:List AV} {r:Rd (List D)},D0 objs l=some r->∀ k∈r.ks,k∈Bp l:=by
 intro l;induction l with
 | nil=>intro r he;cases he;intro k hk;simp at hk
 | cons v l ih=>
  intro r he;simp only[D0]at he;split at he
  ·rename_i r1 r2 h1 h2;cases he;intro k hk;simp only[List.mem_append]at hk;simp only[Bp,List.mem_append];exact hk.imp (Jdk h1 k) (ih h2 k)
  ·cases he
theorem Jfo {agg:Bool} {v:AV} {r:Rd (List D)} (he:kvA objs agg v=some r):∀ k∈r.ks,k∈Bp (Ar v):=by
 unfold kvA at he;split at he
 ·cases agg with
  | false=>cases he
  | true=>exact P8 he
 ·rename_i hn;cases agg with
  | true=>cases he
  | false=>
   intro k hk;have:=P8 he k hk;cases v with
   | agg l=>exact absurd rfl (hn l)
   | _=>exact this
structure Wt (objs:List (Option Ob)) (ev:Operand->AV) (op:Op) (e:Eff):Prop where
 rm:∀ k∈e.rm,k∈EP ev op/\k<objs.length
 upd:∀ k ob,e.upd=some (k,ob)->k∈EP ev op/\k<objs.length/\∀ (F:Nat->Option Obj) (ρ:Nat->Option Loc) (ρv:Operand->Value),(∀ x∈op.operands.toList,Ak F ρ (ev x) (ρv x))->∃ L,ρ k=some L
theorem OI {Γ:Nat->Ty} {ev:Operand->AV} {args:Array Operand} {ts:Array TypeId} {e:Eff} (he:opA Γ ev objs (.call ⟨.builtin .append,args,ts⟩)=some e):Wt objs ev (.call ⟨.builtin .append,args,ts⟩) e:=by
 simp only[opA]at he;split at he
 ·rename_i s x t t' hargs hts;have hs:∀ k∈Bp (Ar (ev s)),k∈EP ev (.call ⟨.builtin .append,args,ts⟩):=λ k hk=>Eg (x:=s) (by simp[Op.operands,Call.operands,hargs]) hk;have key:∀ {esz eb:Nat} {ys:List (List D)} {ob:Prop} {b:Bool},(bif b then Ct esz eb objs (ev s) ys ob else none)=some e->Wt objs ev (.call ⟨.builtin .append,args,ts⟩) e:=by
   intro esz eb ys ob b h;cases b with
   | false=>cases h
   | true=>
    rw[cond_true]at h;unfold Ct at h;split at h
    ·cases h;exact⟨λ k hk=>by simp at hk,λ k ob h=>by cases h⟩
    ·rename_i k sz lo n hsv;have hk:k∈EP ev (.call ⟨.builtin .append,args,ts⟩):=hs k (by rw[hsv];simp[Ar,Bp,DH]);split at h
     ·rename_i sz' es ho;generalize (Nat.beq _ sz'&&(Nat.beq _ esz||Nat.beq _ 0))=b at h;cases b with
      | false=>cases h
      | true=>cases h;exact⟨λ j hj=>by simp at hj;subst hj;exact⟨hk,A6 ho⟩,λ k ob h=>by cases h⟩
     ·rename_i sz' es ho;generalize (Nat.beq _ sz'&&Nat.beq _ esz&&Nat.beq _ 0)=b at h;cases b with
      | false=>cases h
      | true=>cases h;exact⟨λ j hj=>by simp at hj;subst hj;exact⟨hk,A6 ho⟩,λ k ob h=>by cases h⟩
     ·cases h
    ·cases h
  generalize ((Γ t).ok&&(Γ t').ok)=b at he;cases b with
  | false=>cases he
  | true=>
   rw[cond_true]at he;split at he
   ·exact key he
   ·exact key he
   ·cases he
 ·cases he
theorem Tf {Γ:Nat->Ty} {ev:Operand->AV} {args:Array Operand} {ts:Array TypeId} {e:Eff} (he:opA Γ ev objs (.call ⟨.builtin .append,args,ts⟩)=some e):e.upd=none:=by
 simp only[opA]at he;split at he
 ·have he:=E2 he;have key:∀ {esz eb:Nat} {s:AV} {ys:List (List D)} {ob:Prop},Ct esz eb objs s ys ob=some e->e.upd=none:=by
   intro esz eb s ys ob h;unfold Ct at h;split at h
   ·cases h;rfl
   ·split at h
    ·have h:=E2 h;cases h;rfl
    ·have h:=E2 h;cases h;rfl
    ·cases h
   ·cases h
  split at he
  ·exact key (E2 he)
  ·exact key (E2 he)
  ·cases he
 ·cases he
theorem Su {ev:Operand->AV} {kind:TK} {op:Op} {m key v:Operand} {e:Eff} (hm:m∈op.operands.toList) (hv:v∈op.operands.toList) (he:G8 kind objs (ev m) (ev key) (ev v)=some e):Wt objs ev op e/\e.obs=[]:=by
 unfold G8 at he;split at he
 ·rename_i ks ka va vz k hmv;split at he
  ·rename_i ka' va' ents r s ho hr hs;generalize (r.ks.isEmpty&&_&&_)=b at he;cases b with
   | false=>cases he
   | true=>
    cases he;refine⟨⟨λ j hj=>⟨Eg hv (Jfo hs j hj),?_⟩,λ j ob hj=>?_⟩,rfl⟩
    ·obtain⟨ob,hob⟩:=Si hs j hj;exact A6 hob
    ·cases hj;refine⟨Eg hm (by rw[hmv];simp[Ar,Bp,DH]),A6 ho,λ F ρ ρv hev=>?_⟩;have:=hev m hm;rw[hmv]at this;generalize ρv m=x at this;cases this with
     | mp _ L hL=>exact⟨L,hL⟩
  ·rename_i _ ka' dv ents r ho hr;generalize (_&&_&&_&&_)=b at he;cases b with
   | false=>cases he
   | true=>
    cases he;refine⟨⟨λ j hj=>by simp at hj,λ j ob hj=>?_⟩,rfl⟩;cases hj;refine⟨Eg hm (by rw[hmv];simp[Ar,Bp,DH]),A6 ho,λ F ρ ρv hev=>?_⟩;have:=hev m hm;rw[hmv]at this;generalize ρv m=x at this;cases this with
    | mp _ L hL=>exact⟨L,hL⟩
  ·cases he
 ·cases he
theorem XE {Γ:Nat->Ty} {ev:Operand->AV} {op:Op} {e:Eff} (hst:Yo op=true) (he:opA Γ ev objs op=some e):Wt objs ev op e/\e.obs=[]:=by
 cases op with
 | mapUpdate t m k v=>
  simp only[opA]at he;exact Su (op:=.mapUpdate t m k v) (by simp[Op.operands]) (by simp[Op.operands]) (E2 he)
 | insert t m k v=>
  simp only[opA]at he;exact Su (op:=.insert t m k v) (by simp[Op.operands]) (by simp[Op.operands]) (E2 he)
 | store t a v=>
  simp only[opA]at he;have he:=E2 he;have hav:∀ k∈Bp (Ar (ev a)),k∈EP ev (.store t a v):=λ k hk=>Eg (x:=a) (by simp[Op.operands]) hk;have hvv:∀ k∈Bp (Ar (ev v)),k∈EP ev (.store t a v):=λ k hk=>Eg (x:=v) (by simp[Op.operands]) hk;unfold EO at he;split at he
  ·rename_i k off ha;split at he
   ·rename_i cells ho;have he:=E2 he;cases he;refine⟨⟨λ j hj=>by simp at hj,λ j ob hj=>?_⟩,rfl⟩;cases hj;refine⟨hav k (by rw[ha];simp[Ar,Bp,DH]),A6 ho,λ F ρ ρv hev=>?_⟩;have:=hev a (by simp[Op.operands]);rw[ha]at this;generalize ρv a=x at this;cases this with
    | ptr _ _ L hL=>exact⟨L,hL⟩
   ·cases he
  ·rename_i k sz i off ha;have born:∀ (F:Nat->Option Obj) (ρ:Nat->Option Loc) (ρv:Operand->Value),(∀ x∈(Op.store t a v).operands.toList,Ak F ρ (ev x) (ρv x))->∃ L,ρ k=some L:=λ F ρ ρv hev=>by
    have:=hev a (by simp[Op.operands]);rw[ha]at this;generalize ρv a=x at this;cases this with
    | eptr _ _ _ _ L hL=>exact⟨L,hL⟩
   split at he
   ·rename_i sz' es ho;have he:=E2 he;cases he;refine⟨⟨λ j hj=>by simp at hj,λ j ob hj=>?_⟩,rfl⟩;cases hj;exact⟨hav k (by rw[ha];simp[Ar,Bp,DH]),A6 ho,born⟩
   ·rename_i sz' es r ho hx;have he:=E2 he;cases he;refine⟨⟨λ j hj=>⟨hvv j (P8 hx j hj),?_⟩,λ j ob hj=>?_⟩,rfl⟩
    ·obtain⟨ob,hob⟩:=Gt _ _ hx j hj;exact A6 hob
    ·cases hj;exact⟨hav k (by rw[ha];simp[Ar,Bp,DH]),A6 ho,born⟩
   ·cases he
  ·cases he
 | _=>cases hst
theorem XF {op:Op} (h:isW op=true):Yo op=true\/∃ args ts,op=.call ⟨.builtin .append,args,ts⟩:=by
 cases op with
 | call c=>
  obtain⟨callee,args,ts⟩:=c;cases callee with
  | value f=>cases h
  | invoke r m=>cases h
  | builtin b=>cases b<;>first|exact .inr ⟨args,ts,rfl⟩|cases h
 | store=>exact .inl rfl
 | mapUpdate=>exact .inl rfl
 | insert=>exact .inl rfl
 | _=>cases h
theorem Kn (O:List (Option Ob)) (u:Option (Nat×Ob)):(BG O u).length=O.length:=by
 cases u with
 | none=>rfl
 | some p=>simp[BG]
theorem M4 (O:List (Option Ob)) (u:Option (Nat×Ob)) (k:Nat):obA (BG O u) k=match u with
  | some (j,ob)=>if k=j/\j<O.length then some ob else obA O k
  | none=>obA O k:=by
 cases u with
 | none=>rfl
 | some p=>obtain⟨j,ob⟩:=p;simp only[BG,BT]
theorem Jdl {Γ:Cx} (hΓ:Gv P Γ) {all:Array Oper} {o:Oper} {s s':St} {a:Act} {T:List (Option Ob)} (hW:isW o.op=true) (h:A1 Γ true all.toList o (λ x=>x=s') s) (hS:Sim N H0 F0 F ρ T w.heap) (hSl:Cf F ρ s.env a.tmps)
  (hT:Ext s.objs T (B0 s o)) (hfresh:∀ k,s.objs.length<=k->k<s'.objs.length->ρ k=none) (hlen:s'.objs.length<=T.length) (hnew:∀ k ob,s.objs.length<=k->obA s'.objs k=some ob->obA T k=some ob)
  {K:Act->World->Prop} {Qw:Exit->Act->World->Prop}
  (hK:∀ v w' F' ρ' T',FLe F F'->RLe ρ ρ'->(∀ k,¬(s.objs.length<=k/\k<s'.objs.length)->ρ' k=ρ k)->Sim N H0 F0 F' ρ' T' w'.heap->T'.length=T.length ->
   (∀ k ob,k<s.objs.length->k∈B0 s o->obA s'.objs k=some ob->obA T' k=some ob)->(∀ k,¬(k∈B0 s o/\k<s.objs.length)->obA T' k=obA T k) ->
   (∀ k ob,ρ k=none->k<s.objs.length->obA s'.objs k=some ob->obA s.objs k=some ob)->(∀ d,o.dst=some d->Ak F' ρ' (lkA s'.env d) v)->Mu w w'->K (a.put o.dst v) w') :
  if Region.wanted o (yielded all a.tmps)then o.wp P a w K Qw else K (a.put o.dst undef) w:=by
 unfold A1 at h;split at h
 ·exact h.elim
 ·rename_i g hg;have hw:=Gu hSl hg;rw[hw];have hgN:o.guard=none->g=true:=λ hx=>by rw[hx]at hg;cases hg;rfl
  cases hdst:BE Γ.nt o.dst with
  | false=>rw[hdst]at h;exact h.elim
  | true=>
   rw[hdst,JlM,cond_false]at h;have hlk:∀ (v:AV) (d:Tmp),o.dst=some d->lkA (putA o.dst o.guard.isSome g v s.env) d=bif o.guard.isSome then .gv g v else v:=λ v d hd=>by
    rw[hd];simp only[putA,Bi,if_true]
   have skip:∀ (v:AV) (obs:List (Option Ob)),s'.env=putA o.dst o.guard.isSome g v s.env->s'.objs=s.objs++obs->g=false->K (a.put o.dst undef) w:=λ v obs he hob hgf=>by
    have hgs:o.guard.isSome=true:=by
     cases hgo:o.guard with
     | none=>rw[hgN hgo]at hgf;cases hgf
     | some x=>rfl
    refine hK undef w F ρ T (FLe.refl _) (RLe.refl _) (λ _ _=>rfl) hS rfl (λ k ob hk hr ho=>?_) (λ _ _=>rfl) (λ k ob _ hk ho=>?_) (λ d hd=>?_) (Mu.refl _)
    ·rw[hob,AM,if_pos hk]at ho;exact hT k hr ob ho
    ·rw[hob,AM,if_pos hk]at ho;exact ho
    ·rw[he,hlk v d hd,hgs,hgf];exact .gvF _
   by_cases hgc:g=true
   case neg=>
    have hgf:g=false:=by simpa using hgc
    obtain⟨v,obs,hm,hQ⟩:=h.2 hgf;rw[if_neg hgc];exact skip v (obs.map some) (by rw[← hQ,hgf]) (by rw[← hQ]) hgf
   replace h:=h.1 hgc;rcases h with h|h|h
   case inr.inr=>exact absurd h.1 (by simp)
   case inr.inl=>
    unfold Fg at h;split at h
    ·rename_i es hes;cases hop:o.op with
     | buildSlice=>rw[hop]at hW;cases hW
     | _=>rw[hop]at hes;cases hes
    ·exact h.elim
   unfold stepG at h;split at h
   ·rename_i f args ts hop;rw[hop]at hW;cases hW
   ·rename_i c x y hop;rw[hop]at hW;cases hW
   ·split at h
    ·rename_i e he;obtain⟨h1,h2,h3⟩:=h;cases hc:((e.upd.isSome&&o.guard.isSome)||(!e.rm.isEmpty&&(o.guard.isSome||(true&&!isW o.op))))with
     | true=>rw[hc]at h3;exact h3.elim
     | false=>
      rw[hc,cond_false]at h3;have hev:∀ x∈o.op.operands.toList,Ak F ρ (unG (Al s.env x)) (a.eval x):=λ x hx=>BM hgc _ h1 _ (List.mem_map_of_mem hx) _ (A5 hSl x);have henv:s'.env=putA o.dst o.guard.isSome g e.v s.env:=by rw[← h3];rfl
      have hobj:s'.objs=BG (rmA s.objs e.rm) e.upd++e.obs.map some:=by rw[← h3];rfl
      have hll:(BG (rmA s.objs e.rm) e.upd).length=s.objs.length:=by rw[Kn,BL]
      rw[if_pos hgc];have hdv:∀ F' ρ' v,Ak F' ρ' e.v v->∀ d,o.dst=some d->Ak F' ρ' (lkA s'.env d) v:=λ F' ρ' v hv d hd=>by
       rw[henv,hlk e.v d hd];cases o.guard.isSome with
       | true=>rw[hgc];exact .gvT _ _ hv
       | false=>exact hv
      have tabs:Wt s.objs (λ x=>unG (Al s.env x)) o.op e->∀ T',T'=BG (rmA T e.rm) e.upd->T'.length=T.length/\(∀ k ob,k<s.objs.length->k∈B0 s o->obA s'.objs k=some ob->obA T' k=some ob)/\(∀ k,¬(k∈B0 s o/\k<s.objs.length)->obA T' k=obA T k) /\
        (∀ k ob,ρ k=none->k<s.objs.length->obA s'.objs k=some ob->obA s.objs k=some ob):=by
       intro hf T' hT';have hTl:s.objs.length<=T.length:=by rw[hobj,List.length_append,hll]at hlen;omega
       have hsk:∀ k,k<s.objs.length->obA s'.objs k=obA (BG (rmA s.objs e.rm) e.upd) k:=λ k hk=>by rw[hobj,AM,if_pos (by rw[hll];exact hk)]
       subst hT';refine⟨by rw[Kn,BL],λ k ob hk hr ho=>?_,λ k hk=>?_,λ k ob hρ hk ho=>?_⟩
       ·rw[hsk k hk,M4]at ho;rw[M4];cases hu:e.upd with
        | none=>
         rw[hu]at ho;simp only at ho⊢;rw[DW]at ho⊢;split at ho
         ·cases ho
         ·rename_i hkr;rw[if_neg hkr];exact hT k hr ob ho
        | some p=>
         obtain⟨j,ob1⟩:=p;rw[hu]at ho;simp only[BL]at ho⊢;by_cases hj:k=j
         ·subst hj;rw[if_pos ⟨rfl,hk⟩]at ho;rw[if_pos ⟨rfl,by omega⟩];exact ho
         ·rw[if_neg (λ h=>hj h.1)]at ho⊢;rw[DW]at ho⊢;split at ho
          ·cases ho
          ·rename_i hkr;rw[if_neg hkr];exact hT k hr ob ho
       ·have hnr:k ∉ e.rm:=λ hr=>hk (by rw[Ps hW];exact hf.rm k hr);rw[M4];cases hu:e.upd with
        | none=>simp only;rw[DW,if_neg hnr]
        | some p=>
         obtain⟨j,ob1⟩:=p;simp only;rw[if_neg (λ h=>?_),DW,if_neg hnr];obtain⟨q1,q2,_⟩:=hf.upd j ob1 hu;exact hk ⟨by rw[h.1,Ps hW];exact q1,by rw[h.1];exact q2⟩
       ·rw[hsk k hk,M4]at ho;cases hu:e.upd with
        | none=>
         rw[hu]at ho;simp only at ho;rw[DW]at ho;split at ho
         ·cases ho
         ·exact ho
        | some p=>
         obtain⟨j,ob1⟩:=p;rw[hu]at ho;simp only at ho;by_cases hj:k=j
         ·subst hj;obtain⟨L,hL⟩:=(hf.upd k ob1 hu).2.2 F ρ _ hev;rw[hρ]at hL;cases hL
         ·rw[if_neg (λ h=>hj h.1),DW]at ho;split at ho
          ·cases ho
          ·exact ho
      rcases XF hW with hst|⟨args,ts,hop⟩
      ·obtain⟨hf,hob0⟩:=XE hst he;have he':=P7 o.op (.inr hst) (Is hT).1 he;obtain⟨_,hv0,w',F',hr,hle,hs',hmu⟩:=UG hΓ.ty hS o hst he' (h2 hgc) hev;obtain⟨t1,t2,t3,t4⟩:=tabs hf _ rfl;unfold Oper.wp;rw[hr,Oper.upon_skip];exact hK undef w' F' ρ _ hle (RLe.refl _) (λ _ _=>rfl) hs' t1 t2 t3 t4 (hdv F' ρ undef (by rw[hv0];exact .top _)) hmu
      ·have hf:Wt s.objs (λ x=>unG (Al s.env x)) o.op e:=by
        rw[hop]at he⊢;exact OI he
       obtain⟨ob,hone⟩:=PL hop he;have hl1:s'.objs.length=s.objs.length+1:=by rw[hobj,List.length_append,hll,hone];rfl
       have hupd:e.upd=none:=by
        rw[hop]at he;have:=Tf he;exact this
       have hcut:opA Γ.ty (λ x=>unG (Al s.env x)) (I8 (B0 s o) s.objs) o.op=some e:=P7 o.op (.inl (Gx _ _).symm) (Is Ext.cut).1 he;have hcl:=Gx (B0 s o) s.objs;obtain⟨_,v,w',ρ',hr,hs',hle,hkeep,hv,hmu⟩:=PM (O':=rmA T e.rm) hΓ.ty hS (objs:=I8 (B0 s o) s.objs) (λ k ob hk=>by
        rw[Te]at hk;split at hk
        ·rename_i hm;exact hT k hm ob hk
        ·cases hk) (by rw[hcl];exact hfresh _ (JlO _) (by omega)) (by rw[BL];exact JlO _) (by rw[hcl,BL];omega) o (λ j ob' _ ho=>by
        rw[DW]at ho;split at ho
        ·cases ho
        ·rename_i hj;exact⟨ho,hj⟩) (λ ob' ho=>by
        rw[hcl,DW,if_neg (λ hm=>by have:=(hf.rm _ hm).2;omega)];refine hnew _ ob' (JlO _) ?_;rw[hobj,AM,hll,if_neg (by omega),ho,Nat.sub_self];simp[obA]) hop hcut (h2 hgc) hev
       obtain⟨t1,t2,t3,t4⟩:=tabs hf (rmA T e.rm) (by rw[hupd];rfl);unfold Oper.wp;rw[hr,Oper.upon_value];exact hK v w' F ρ' _ (FLe.refl _) hle (λ k hk=>hkeep k (λ e=>hk (by rw[e,hcl];omega))) hs' t1 t2 t3 t4 (hdv F ρ' v hv) hmu
    ·exact h.elim
end Go.AI
end
