/- The theorem: the last one of this text; part 6 of 6 of its proof. It holds with no condition beyond the given statement. -/
import Derived.Test.YtbegmnhifelfoaaGreatLE
import Derived.Test.YtbegmnhifelfoaaGreatRows
section
namespace Go.AI
def crS (a b q:Aa):Int:=(q.Y-a.Y)*(b.X-a.X)-(q.X-a.X)*(b.Y-a.Y)
def OnP (a b q:Aa):Prop:=crS a b q=0/\(min a.X b.X<=q.X/\q.X<=max a.X b.X)/\min a.Y b.Y<=q.Y/\q.Y<=max a.Y b.Y
instance (a b q:Aa):Decidable (OnP a b q):=by unfold OnP;infer_instance
def psS (a b q:Aa):Bool:=(decide (a.Y<=q.Y) != decide (b.Y<=q.Y))&&(bif decide (a.Y<b.Y) then decide (0<crS a b q) else decide (crS a b q<0))
def sd (P:List Aa) (i:Nat):Aa×Aa:=(P.getD i default,P.getD ((i+1) % P.length) default)
def onB (P:List Aa) (q:Aa) (i:Nat):Bool:=decide (OnP (sd P i).1 (sd P i).2 q)
def psB (P:List Aa) (q:Aa) (i:Nat):Bool:=psS (sd P i).1 (sd P i).2 q
def Vx (P:List Aa) (q:Aa) (i:Nat):Nat:=(List.range i).countP (psB P q)
def Oq (P:List Aa) (q:Aa):Bool:=(List.range P.length).any (onB P q)||decide (Vx P q P.length % 2=1)
theorem XI (a b q:Aa):crS b a q=-crS a b q:=by
 unfold crS
 have e1:q.Y-b.Y=(q.Y-a.Y)-(b.Y-a.Y):=by omega
 have e2:q.X-b.X=(q.X-a.X)-(b.X-a.X):=by omega
 have e3:a.X-b.X=-(b.X-a.X):=by omega
 have e4:a.Y-b.Y=-(b.Y-a.Y):=by omega
 rw [e1,e2,e3,e4]
 generalize q.Y-a.Y=u
 generalize q.X-a.X=v
 generalize b.X-a.X=s
 generalize b.Y-a.Y=r
 rw [Int.mul_neg,Int.mul_neg,Int.sub_mul,Int.sub_mul,Int.mul_comm r s]
 omega
theorem Jj4 {a b q:Aa} (ha:Nr a) (hb:Nr b) (hq:Nr q) :
  (-4000000<=(q.Y-a.Y)*(b.X-a.X)/\(q.Y-a.Y)*(b.X-a.X)<=4000000)/\-4000000<=(q.X-a.X)*(b.Y-a.Y)/\(q.X-a.X)*(b.Y-a.Y)<=4000000:=by
 unfold Nr at ha hb hq
 have h1:=Jeg (a:=q.Y-a.Y) (b:=b.X-a.X) 2000 2000 (by omega) (by omega) (by omega) (by omega)
 have h2:=Jeg (a:=q.X-a.X) (b:=b.Y-a.Y) 2000 2000 (by omega) (by omega) (by omega) (by omega)
 omega
theorem JeY {a b q:Aa} (ha:Nr a) (hb:Nr b) (hq:Nr q) :
  (AT .i64 b.X a.X=b.X-a.X/\AT .i64 b.Y a.Y=b.Y-a.Y/\AT .i64 q.X a.X=q.X-a.X/\AT .i64 q.Y a.Y=q.Y-a.Y) /\
  BS .i64 (q.Y-a.Y) (b.X-a.X)=(q.Y-a.Y)*(b.X-a.X)/\BS .i64 (q.X-a.X) (b.Y-a.Y)=(q.X-a.X)*(b.Y-a.Y) /\
  BS .i64 (b.X-a.X) (q.Y-a.Y)=(q.Y-a.Y)*(b.X-a.X)/\BS .i64 (b.Y-a.Y) (q.X-a.X)=(q.X-a.X)*(b.Y-a.Y) /\
  AT .i64 ((q.Y-a.Y)*(b.X-a.X)) ((q.X-a.X)*(b.Y-a.Y))=crS a b q:=by
 obtain ⟨h1,h2⟩:=Jj4 ha hb hq
 have e1:=Int.mul_comm (q.Y-a.Y) (b.X-a.X)
 have e2:=Int.mul_comm (q.X-a.X) (b.Y-a.Y)
 unfold Nr at ha hb hq
 exact ⟨⟨CB (by omega) (by omega),CB (by omega) (by omega),CB (by omega) (by omega),CB (by omega) (by omega)⟩,FV (by omega) (by omega),FV (by omega) (by omega),(FV (by omega) (by omega)).trans e1.symm,(FV (by omega) (by omega)).trans e2.symm,CB (by omega) (by omega)⟩
theorem Jei (n:Nat) {a b q:Aa} (ha:Nr a) (hb:Nr b) (hq:Nr q):PM n a b q=some (decide (OnP a b q)):=by
 obtain ⟨⟨e1,e2,e3,e4⟩,e5,e6,e7,e8,e9⟩:=JeY ha hb hq
 unfold PM NO
 rw [e1,e2,e3,e4,e7,e8,e9]
 rw [Jk3]
 congr 1
 rw [Bool.eq_iff_iff,decide_eq_true_eq]
 simp only [Jll,decide_eq_true_eq,beq_iff_eq]
 unfold OnP
 have hB:(if b.X<a.X then b.X else a.X)=min a.X b.X:=by split<;>omega
 have hC:(if b.X>a.X then b.X else a.X)=max a.X b.X:=by split<;>omega
 have hD:(if b.Y<a.Y then b.Y else a.Y)=min a.Y b.Y:=by split<;>omega
 have hE:(if b.Y>a.Y then b.Y else a.Y)=max a.Y b.Y:=by split<;>omega
 rw [hB,hC,hD,hE]
 constructor
 ·rintro ⟨⟨⟨⟨h0,h1⟩,h2⟩,h3⟩,h4⟩;exact ⟨h0,⟨h1,h2⟩,h3,h4⟩
 ·rintro ⟨h0,⟨h1,h2⟩,h3,h4⟩;exact ⟨⟨⟨⟨h0,h1⟩,h2⟩,h3⟩,h4⟩
theorem Vy (n:Nat) {a b q:Aa} (ha:Nr a) (hb:Nr b) (hq:Nr q):Hi n a b q=some (psS a b q):=by
 obtain ⟨⟨e1,e2,e3,e4⟩,e5,e6,e7,e8,e9⟩:=JeY ha hb hq
 unfold Hi psS
 rw [e1,e2,e3,e4,e5,e6]
 have h1:decide ((q.X-a.X)*(b.Y-a.Y)<(q.Y-a.Y)*(b.X-a.X))=decide (0<crS a b q):=decide_eq_decide.2 (by unfold crS;omega)
 have h2:decide ((q.X-a.X)*(b.Y-a.Y)>(q.Y-a.Y)*(b.X-a.X))=decide (crS a b q<0):=decide_eq_decide.2 (by unfold crS;omega)
 rw [h1,h2]
 have h3:decide (b.Y>a.Y)=decide (a.Y<b.Y):=rfl
 rw [h3,bne]
 cases (decide (a.Y<=q.Y)==decide (b.Y<=q.Y))<;>cases decide (a.Y<b.Y)<;>rfl
theorem Jk0 {N:Nat} (h:N≠0):(!(((N:Nat):Int)==0))=true:=by
 rw [Bool.not_eq_true'];exact beq_eq_false_iff_ne.2 (by omega)
theorem JiB {i N:Nat} (hi:i<N) (hN:N<=1000):Ah (Ai .i64 (i:Int) 1) ((N:Nat):Int)=(((i+1) % N:Nat):Int):=by
 rw [Aq (by omega),(BK (by omega) (by omega)).1]
 omega
theorem Jbs {P:List Aa} (h:∀ p∈P,Nr p) {i:Nat} (hi:i<P.length):Nr (sd P i).1/\Nr (sd P i).2:=
 ⟨h _ (Y1 P hi),h _ (Y1 P (Nat.mod_lt _ (by omega)))⟩
theorem Vz (P:List Aa) (q:Aa) (i:Nat):Vx P q (i+1)=Vx P q i+(if psB P q i=true then 1 else 0):=by
 unfold Vx
 rw [List.range_succ,List.countP_append,List.countP_singleton]
theorem Jbt {n:Nat}:(!decide (n % 2=1))=decide ((n+1) % 2=1):=by
 rw [Bool.eq_iff_iff];simp;omega
theorem XJ (n:Nat) {P:List Aa} {i:Nat} (hi:i<P.length) (hl:P.length<=1000):H2 n P i=some (sd P i):=by
 unfold H2
 rw [C9 hi,DZ (Jk0 (by omega)),JiB hi hl,C9 (Nat.mod_lt _ (by omega))]
 rfl
theorem VA {P:List Aa} {q:Aa} (hl:P.length<=1000) (h:∀ p∈P,Nr p) (hq:Nr q):Ev (λ n=>J1 n P q) (Oq P q):=by
 refine Tot.ev (Tot.bind (R:=λ y=>y=if (List.range P.length).any (onB P q)=true then .inr true else .inl (decide (Vx P q P.length % 2=1)))
  (Tot.upto P.length (λ i (x:Bool×Int)=>x.2=(i:Int)/\x.1=decide (Vx P q i % 2=1)/\∀ j,j<i->onB P q j=false) ?_ ?_ _ ⟨rfl,rfl,λ j hj=>by omega⟩) λ y hy=>?_)
 ·rintro i ⟨o,x⟩ hi ⟨h1,h2,h3⟩
  simp only at h1 h2
  subst h1 h2
  unfold Ej
  obtain ⟨n1,n2⟩:=Jbs h hi
  refine Tot.iteT (decide_eq_true (by omega)) (Tot.bindA (λ n=>XJ n hi hl) (Tot.bindA (λ n=>Jei n n1 n2 hq) (Tot.ite (λ ho=>Tot.pure ?_) λ ho=>Tot.bindA (λ n=>Vy n n1 n2 hq) ?_)))
  ·show _=_
   rw [if_pos]
   exact List.any_eq_true.2 ⟨i,List.mem_range.2 hi,ho⟩
  ·have hj:∀ j,j<i+1->onB P q j=false:=λ j hj=>by
    rcases Nat.lt_succ_iff_lt_or_eq.1 hj with hj|rfl
    ·exact h3 j hj
    ·exact ho
   unfold Ei
   refine Tot.ite (λ hp=>Tot.pure ⟨Aq (by omega),?_,hj⟩) λ hp=>Tot.pure ⟨Aq (by omega),?_,hj⟩
   ·have hp:psB P q i=true:=hp
    rw [Vz,if_pos hp];exact Jbt
   ·have hp:psB P q i=false:=hp
    rw [Vz,hp];rfl
 ·rintro ⟨o,x⟩ ⟨h1,h2,h3⟩
  simp only at h1 h2
  subst h1 h2
  unfold Ej
  refine Tot.iteF (decide_eq_false (by omega)) (Tot.pure ?_)
  show _=_
  rw [if_neg]
  intro hh
  obtain ⟨j,hj,hh⟩:=List.any_eq_true.1 hh
  rw [h3 j (List.mem_range.1 hj)] at hh
  cases hh
 ·subst hy
  unfold Oq
  cases (List.range P.length).any (onB P q) with
  | true=>exact Tot.pure rfl
  | false=>exact Tot.pure rfl
theorem Jj5 (x y z:Bool) (c:Nat) (h:c % 2=if (x != y)=true then 1 else 0):(c+if (y != z)=true then 1 else 0) % 2=if (x != z)=true then 1 else 0:=by
 cases x<;>cases y<;>cases z<;>simp at h ⊢<;>omega
theorem Jj6 (x y:Bool) (c:Nat) (h:c % 2=if (x != y)=true then 1 else 0):(c+if (y != x)=true then 1 else 0) % 2=0:=by
 cases x<;>cases y<;>simp at h ⊢<;>omega
theorem JeZ (f:Nat->Bool):∀ m:Nat,((List.range m).countP λ i=>f i != f (i+1)) % 2=if (f 0 != f m)=true then 1 else 0
 | 0=>by simp
 | m+1=>by
  rw [List.range_succ,List.countP_append,List.countP_singleton]
  exact Jj5 _ _ _ _ (JeZ f m)
theorem Y4 (f:Nat->Bool) (N:Nat):((List.range N).countP λ i=>f i != f ((i+1) % N)) % 2=0:=by
 cases N with
 | zero=>simp
 | succ m=>
  rw [List.range_succ,List.countP_append,List.countP_singleton]
  have e:(List.range m).countP (λ i=>f i != f ((i+1) % (m+1)))=(List.range m).countP (λ i=>f i != f (i+1)):=by
   refine List.countP_congr λ i hi=>?_
   rw [Nat.mod_eq_of_lt (by have:=List.mem_range.1 hi;omega)]
  rw [e,Nat.mod_self]
  exact Jj6 _ _ _ (JeZ f m)
theorem Jbu {a b q:Aa} (ha:a.X<q.X) (hb:b.X<q.X):psS a b q=false:=by
 cases h:psS a b q with
 | false=>rfl
 | true=>
  exfalso
  unfold psS at h
  rw [Jll] at h
  obtain ⟨h1,h2⟩:=h
  have hm:∀ {u v w z:Int},0<=u->u<=w->0<w->v<z->0<z->u*v<z*w:=by
   intro u v w z h1 h2 h3 h4 h5
   rcases Int.lt_or_le 0 u with hu|hu
   ·have e1:u*v<u*z:=Int.mul_lt_mul_of_pos_left h4 hu
    have e2:u*z<=w*z:=Int.mul_le_mul_of_nonneg_right h2 (by omega)
    rw [Int.mul_comm z w];omega
   ·have:u=0:=by omega
    rw [this,Int.zero_mul];exact Int.mul_pos h5 h3
  rcases Int.lt_or_le a.Y b.Y with hy|hy
  ·rw [decide_eq_true hy,cond_true,decide_eq_true_eq] at h2
   unfold crS at h2
   have hq1:a.Y<=q.Y:=by
    refine Int.le_of_not_gt λ hh=>?_
    rw [decide_eq_false (by omega),decide_eq_false (by omega)] at h1;cases h1
   have hq2:q.Y<b.Y:=by
    refine Int.lt_of_not_ge λ hh=>?_
    rw [decide_eq_true hq1,decide_eq_true (by omega)] at h1;cases h1
   have:=hm (u:=q.Y-a.Y) (v:=b.X-a.X) (w:=b.Y-a.Y) (z:=q.X-a.X) (by omega) (by omega) (by omega) (by omega) (by omega)
   omega
  ·rw [decide_eq_false (by omega),cond_false,decide_eq_true_eq] at h2
   have hs:=XI a b q
   have hq1:b.Y<=q.Y:=by
    refine Int.le_of_not_gt λ hh=>?_
    rw [decide_eq_false (by omega),decide_eq_false (by omega)] at h1;cases h1
   have hq2:q.Y<a.Y:=by
    refine Int.lt_of_not_ge λ hh=>?_
    rw [decide_eq_true (by omega),decide_eq_true (by omega)] at h1;cases h1
   have:=hm (u:=q.Y-b.Y) (v:=a.X-b.X) (w:=a.Y-b.Y) (z:=q.X-b.X) (by omega) (by omega) (by omega) (by omega) (by omega)
   unfold crS at hs h2
   omega
theorem Jej {a b q:Aa} (ha:q.X<a.X) (hb:q.X<b.X):psS a b q=(decide (a.Y<=q.Y) != decide (b.Y<=q.Y)):=by
 unfold psS
 cases h1:(decide (a.Y<=q.Y) != decide (b.Y<=q.Y)) with
 | false=>rfl
 | true=>
  rw [Bool.true_and]
  have hm:∀ {u v w z:Int},0<=u->u<w->-z<v->0<z->0<u*v+z*w:=by
   intro u v w z h1 h2 h3 h4
   have e1:u*(-z)<=u*v:=Int.mul_le_mul_of_nonneg_left (by omega) h1
   have e2:u*z<w*z:=Int.mul_lt_mul_of_pos_right h2 h4
   rw [Int.mul_neg] at e1
   rw [Int.mul_comm z w];omega
  rcases Int.lt_or_le a.Y b.Y with hy|hy
  ·rw [decide_eq_true hy,cond_true,decide_eq_true_eq]
   have hq1:a.Y<=q.Y:=by
    refine Int.le_of_not_gt λ hh=>?_
    rw [decide_eq_false (by omega),decide_eq_false (by omega)] at h1;cases h1
   have hq2:q.Y<b.Y:=by
    refine Int.lt_of_not_ge λ hh=>?_
    rw [decide_eq_true hq1,decide_eq_true (by omega)] at h1;cases h1
   have:=hm (u:=q.Y-a.Y) (v:=b.X-a.X) (w:=b.Y-a.Y) (z:=a.X-q.X) (by omega) (by omega) (by omega) (by omega)
   unfold crS
   have e:q.X-a.X=-(a.X-q.X):=by omega
   rw [e,Int.neg_mul]
   omega
  ·rw [decide_eq_false (by omega),cond_false,decide_eq_true_eq]
   have hs:=XI a b q
   have hq1:b.Y<=q.Y:=by
    refine Int.le_of_not_gt λ hh=>?_
    rw [decide_eq_false (by omega),decide_eq_false (by omega)] at h1;cases h1
   have hq2:q.Y<a.Y:=by
    refine Int.lt_of_not_ge λ hh=>?_
    rw [decide_eq_true (by omega),decide_eq_true (by omega)] at h1;cases h1
   have:=hm (u:=q.Y-b.Y) (v:=a.X-b.X) (w:=a.Y-b.Y) (z:=b.X-q.X) (by omega) (by omega) (by omega) (by omega)
   have e:crS b a q=(q.Y-b.Y)*(a.X-b.X)+(b.X-q.X)*(a.Y-b.Y):=by
    unfold crS
    have e:q.X-b.X=-(b.X-q.X):=by omega
    rw [e,Int.neg_mul]
    omega
   omega
theorem JiC {P:List Aa} {q m n:Aa} (h:∀ p∈P,In m n p) (hq:Oq P q=true):In m n q:=by
 unfold Oq at hq
 rw [JlC,List.any_eq_true,decide_eq_true_eq] at hq
 have hs:∀ i,i<P.length->In m n (sd P i).1/\In m n (sd P i).2:=λ i hi=>⟨h _ (Y1 P hi),h _ (Y1 P (Nat.mod_lt _ (by omega)))⟩
 rcases hq with ⟨i,hi,hq⟩|hq
 ·have hi:=List.mem_range.1 hi
  obtain ⟨h1,h2⟩:=hs i hi
  have hq:=(of_decide_eq_true hq).2
  unfold In at *
  omega
 ·have hex:∃ i,i<P.length/\psB P q i=true:=by
   refine Classical.byContradiction λ hh=>?_
   have:Vx P q P.length=0:=List.countP_eq_zero.2 λ i hi hp=>hh ⟨i,List.mem_range.1 hi,hp⟩
   omega
  obtain ⟨i,hi,hp⟩:=hex
  obtain ⟨h1,h2⟩:=hs i hi
  have hY:m.Y<=q.Y/\q.Y<=n.Y:=by
   unfold psB psS at hp
   rw [Jll] at hp
   have hp:=hp.1
   unfold In at h1 h2
   constructor
   ·refine Int.le_of_not_gt λ hh=>?_
    rw [decide_eq_false (by omega),decide_eq_false (by omega)] at hp;cases hp
   ·refine Int.le_of_not_gt λ hh=>?_
    rw [decide_eq_true (by omega),decide_eq_true (by omega)] at hp;cases hp
  have hX:m.X<=q.X:=by
   refine Int.le_of_not_gt λ hh=>?_
   have e:Vx P q P.length=(List.range P.length).countP λ i=>(λ j=>decide ((P.getD j default).Y<=q.Y)) i != (λ j=>decide ((P.getD j default).Y<=q.Y)) ((i+1) % P.length):=by
    refine List.countP_congr λ i hi=>?_
    obtain ⟨h1,h2⟩:=hs i (List.mem_range.1 hi)
    unfold In at h1 h2
    unfold psB
    rw [Jej (by omega) (by omega)]
    exact Iff.rfl
   rw [e,Y4] at hq
   cases hq
  have hX':q.X<=n.X:=by
   refine Int.le_of_not_gt λ hh=>?_
   unfold In at h1 h2
   unfold psB at hp
   rw [Jbu (by omega) (by omega)] at hp
   cases hp
  exact ⟨⟨hX,hX'⟩,hY⟩
end Go.AI
end
section
namespace Go.AI
def ltG (p q:Aa):Prop:=p.Y<q.Y\/(p.Y=q.Y/\p.X<q.X)
instance (p q:Aa):Decidable (ltG p q):=by unfold ltG;infer_instance
theorem Rt (p:Aa):¬ltG p p:=by unfold ltG;omega
theorem Y5 {p q r:Aa} (h:ltG p q) (h':ltG q r):ltG p r:=by unfold ltG at *;omega
def Inc (l:List Aa):Prop:=l.Pairwise ltG
theorem Inc.nodup {l:List Aa} (h:Inc l):l.Nodup:=h.imp λ {a b} h e=>by subst e;exact Rt _ h
theorem Inc.uniq {l m:List Aa} (h:Inc l) (h':Inc m) (e:∀ p,p∈l↔p∈m):l=m:=
 ((List.perm_ext_iff_of_nodup h.nodup h'.nodup).2 e).eq_of_pairwise (le:=ltG) (λ _ _ _ _ h1 h2=>absurd (Y5 h1 h2) (Rt _)) h h'
structure KS (m:List (Aa×Bool)) (N:Nat) (S:Aa->Prop):Prop where
 nd:(m.map Prod.fst).Nodup
 len:m.length<=N
 mem:∀ p,p∈m.map Prod.fst↔S p
theorem Ru (k:Aa):∀ (m:List (Aa×Bool)) (p:Aa),p∈(Qx k true m).map Prod.fst↔p∈m.map Prod.fst\/p=k
 | [],p=>by simp [Qx]
 | e::m,p=>by
  unfold Qx
  split
  ·rename_i h
   simp only [Jli,List.mem_cons]
   rw [← h]
   constructor
   ·rintro (h|h)
    ·exact .inr h
    ·exact .inl (.inr h)
   ·rintro ((h|h)|h)
    ·exact .inl h
    ·exact .inr h
    ·exact .inl h
  ·simp only [Jli,List.mem_cons]
   rw [Ru k m p,or_assoc]
theorem XK (k:Aa):∀ (m:List (Aa×Bool)),(m.map Prod.fst).Nodup->((Qx k true m).map Prod.fst).Nodup
 | [],_=>by simp [Qx]
 | e::m,h=>by
  rw [Jli,List.nodup_cons] at h
  unfold Qx
  split
  ·rename_i h1
   rw [Jli,List.nodup_cons,h1];exact h
  ·rename_i h1
   rw [Jli,List.nodup_cons]
   refine ⟨λ hh=>?_,XK k m h.2⟩
   rcases (Ru k m _).1 hh with hh|hh
   ·exact h.1 hh
   ·exact h1 hh.symm
theorem VC (k:Aa):∀ (m:List (Aa×Bool)),(Qx k true m).length<=m.length+1
 | []=>by simp [Qx]
 | e::m=>by
  unfold Qx
  split
  ·simp
  ·have:=VC k m
   rw [List.length_cons,List.length_cons];omega
theorem KS.nil {S:Aa->Prop} (h:∀ p,¬S p):KS [] 0 S:=⟨by simp,by simp,λ p=>by simp [h p]⟩
theorem KS.put {m:List (Aa×Bool)} {N:Nat} {S T:Aa->Prop} (h:KS m N S) (k:Aa) (hT:∀ p,T p↔S p\/p=k):KS (Qx k true m) (N+1) T:=
 ⟨XK k m h.nd,by have:=VC k m;have:=h.len;omega,λ p=>by rw [Ru,h.mem,hT]⟩
theorem KS.to {m:List (Aa×Bool)} {N M:Nat} {S T:Aa->Prop} (h:KS m N S) (hM:N<=M) (hT:∀ p,T p↔S p):KS m M T:=
 ⟨h.nd,by have:=h.len;omega,λ p=>by rw [h.mem,hT]⟩
def lnS (P:List Aa) (i:Nat) (p:Aa):Prop:=∃ j,j<i/\p∈KB (sd P j).1 (sd P j).2
theorem Jbv {P:List Aa} {i:Nat} {p:Aa}:lnS P (i+1) p↔lnS P i p\/p∈KB (sd P i).1 (sd P i).2:=by
 constructor
 ·rintro ⟨j,hj,h⟩
  rcases Nat.lt_succ_iff_lt_or_eq.1 hj with hj|rfl
  ·exact .inl ⟨j,hj,h⟩
  ·exact .inr h
 ·rintro (⟨j,hj,h⟩|h)
  ·exact ⟨j,by omega,h⟩
  ·exact ⟨i,by omega,h⟩
def lnN (P:List Aa):Nat->Nat
 | 0=>0
 | i+1=>lnN P i+(KB (sd P i).1 (sd P i).2).length
theorem TV {P:List Aa} (h:∀ p∈P,Nr p):∀ {i:Nat},i<=P.length->lnN P i<=2001*i
 | 0,_=>by simp [lnN]
 | i+1,hi=>by
  have h1:=TV h (i:=i) (by omega)
  obtain ⟨h2,h3⟩:=Jbs h (show i<P.length by omega)
  have:=TU h2 h3
  unfold lnN
  rw [Vw];omega
end Go.AI
end
section
namespace Go.AI
theorem Rv {P:List Aa} (hl:P.length<=400) (h:∀ p∈P,Nr p) {k:Nat} (hk:k<=P.length) :
  Tot (λ n=>IT n P (k:Int)) (λ z=>z.length=lnN P k/\∀ p,p∈z↔lnS P k p):=by
 refine Tot.bind (R:=λ z=>z.length=lnN P k/\∀ p,p∈z↔lnS P k p) ?_ λ y hy=>Tot.pure hy
 refine Tot.upto k (λ i (x:List Aa×Int)=>x.2=(i:Int)/\x.1.length=lnN P i/\∀ p,p∈x.1↔lnS P i p) ?_ ?_ _ ⟨rfl,rfl,λ p=>⟨λ h=>(by cases h),λ ⟨j,hj,_⟩=>by omega⟩⟩
 ·rintro i ⟨l,x⟩ hi ⟨h1,h2,h3⟩
  simp only at h1 h2 h3
  subst h1
  unfold Fe
  obtain ⟨n1,n2⟩:=Jbs h (show i<P.length by omega)
  have hb:=TV h (i:=i) (by omega)
  have:=TU n1 n2
  refine Tot.iteT (decide_eq_true (by omega)) (Tot.bindA (λ n=>XJ n (by omega) (by omega)) (Tot.bindE (Y3 n1 n2) (Tot.bindC (Bf ?_) (Tot.pure ⟨Aq (by omega),?_,λ p=>?_⟩))))
  ·rw [Vw,h2];omega
  ·show (l++KB _ _).length=_
   rw [List.length_append,h2];rfl
  ·rw [List.mem_append,h3,Jbv]
 ·rintro ⟨l,x⟩ ⟨h1,h2,h3⟩
  simp only at h1 h2 h3
  subst h1
  unfold Fe
  exact Tot.iteF (decide_eq_false (by omega)) (Tot.pure ⟨h2,h3⟩)
def Bx (p:Aa):Prop:=(0<=p.X/\p.X<60)/\0<=p.Y/\p.Y<60
theorem Bx.nr {p:Aa} (h:Bx p):Nr p:=by unfold Bx at h;unfold Nr;omega
structure Sq (t:List (List Bool)):Prop where
 len:t.length=60
 row:∀ y,y<60->(t.getD y []).length=60
def atT (t:List (List Bool)) (x y:Nat):Bool:=(t.getD y []).getD x false
theorem JiD {t:List (List Bool)} (h:Sq t) {x y:Nat} (hx:x<60) (hy:y<60):YK t (y:Int) (x:Int)=some (atT t x y):=by
 unfold YK
 have e:idx t (y:Int)=some (t.getD y []):=C9 (by rw [h.len];exact hy)
 rw [e,Jk3]
 have e2:idx (t.getD y []) (x:Int)=some ((t.getD y []).getD x false):=C9 (by rw [h.row y hy];exact hx)
 exact e2
theorem Jek {t:List (List Bool)} (h:Sq t) {x y:Nat} (hx:x<60) (hy:y<60) :
  ∃ t',YL t (y:Int) (x:Int) true=some t'/\Sq t'/\∀ x' y',x'<60->y'<60->(atT t' x' y'=true↔atT t x' y'=true\/(x'=x/\y'=y)):=by
 have e:idx t (y:Int)=some (t.getD y []):=C9 (by rw [h.len];exact hy)
 have e2:put (t.getD y []) (x:Int) true=some ((t.getD y []).set x true):=Rm (by rw [h.row y hy];exact hx)
 have e3:put t (y:Int) ((t.getD y []).set x true)=some (t.set y ((t.getD y []).set x true)):=Rm (by rw [h.len];exact hy)
 have hg:∀ y',y'<60->(t.set y ((t.getD y []).set x true)).getD y' []=if y=y' then (t.getD y []).set x true else t.getD y' []:=by
  intro y' hy'
  rw [Jlt,List.getElem?_set,Jlt (l:=t) (i:=y')]
  split
  ·rw [if_pos (by rw [h.len];exact hy)];rfl
  ·rfl
 refine ⟨_,by unfold YL;rw [e,Jk3,e2,Jk3,e3],⟨by rw [List.length_set,h.len],λ y' hy'=>?_⟩,λ x' y' hx' hy'=>?_⟩
 ·rw [hg y' hy']
  split
  ·rw [List.length_set,h.row y hy]
  ·exact h.row y' hy'
 ·unfold atT
  rw [hg y' hy']
  split
  ·rename_i e;subst e
   have hr:=h.row y hy
   generalize t.getD y []=r at hr
   rw [Jlt,List.getElem?_set,Jlt]
   split
   ·rename_i e;subst e
    rw [if_pos (by rw [hr];exact hx)];simp
   ·rename_i e
    constructor
    ·exact .inl
    ·rintro (h|h)
     ·exact h
     ·exact absurd h.1.symm e
  ·rename_i e
   constructor
   ·exact .inl
   ·rintro (h|h)
    ·exact h
    ·exact absurd h.2.symm e
theorem O9 {l:List Aa} (hl:l.length<=1000000):Tot (λ n=>Hh n l) (λ z=>Inc z/\∀ p,p∈z↔p∈l/\Bx p):=by
 refine Tot.bind (R:=λ t=>Sq t/\∀ x y,x<60->y<60->(atT t x y=true↔(⟨x,y⟩:Aa)∈l)) ?_ ?_
 ·refine Tot.upto l.length (λ i (x:List (List Bool)×Int)=>x.2=(i:Int)/\Sq x.1/\∀ a b,a<60->b<60->(atT x.1 a b=true↔(⟨a,b⟩:Aa)∈l.take i)) ?_ ?_ _ ⟨rfl,⟨by simp,λ y hy=>?_⟩,λ a b ha hb=>?_⟩
  ·rintro i ⟨t,x⟩ hi ⟨h1,h2,h3⟩
   simp only at h1 h2 h3
   subst h1
   unfold Ee Ed
   have hm:∀ p,p∈l.take (i+1)↔p∈l.take i\/p=l[i]:=λ p=>by
    rw [List.take_succ_eq_append_getElem hi,List.mem_append,List.mem_singleton]
   refine Tot.iteT (decide_eq_true (by omega)) (Tot.bindC (AG hi) (Tot.ite (λ hb=>?_) λ hb=>?_))
   ·simp only [Jll,decide_eq_true_eq] at hb
    generalize l[i]=q at hb hm
    obtain ⟨X,Y⟩:=q
    obtain ⟨X,rfl⟩:∃ m:Nat,X=m:=⟨X.toNat,by simp only at hb;omega⟩
    obtain ⟨Y,rfl⟩:∃ m:Nat,Y=m:=⟨Y.toNat,by simp only at hb;omega⟩
    simp only at hb
    obtain ⟨t',e,s',m'⟩:=Jek h2 (show X<60 by omega) (show Y<60 by omega)
    refine Tot.bindC (DZ (decide_eq_true (by show (0:Int)<=(Y:Int)/\(Y:Int)<_;omega))) (Tot.bindC (DZ (decide_eq_true (by show (0:Int)<=(X:Int)/\(X:Int)<_;omega))) (Tot.bindC e (Tot.pure ⟨Aq (by omega),s',λ a b ha hb=>?_⟩)))
    show atT t' a b=true↔_
    rw [m' a b ha hb,h3 a b ha hb,hm]
    simp only [Aa.mk.injEq]
    constructor
    ·rintro (h|h)
     ·exact .inl h
     ·exact .inr (by omega)
    ·rintro (h|h)
     ·exact .inl h
     ·exact .inr (by omega)
   ·refine Tot.pure ⟨Aq (by omega),h2,λ a b ha hb'=>?_⟩
    show atT t a b=true↔_
    rw [h3 a b ha hb',hm]
    constructor
    ·exact .inl
    ·rintro (h|h)
     ·exact h
     ·rw [← h] at hb
      simp only [Bool.and_eq_false_iff,decide_eq_false_iff_not] at hb
      omega
  ·rintro ⟨t,x⟩ ⟨h1,h2,h3⟩
   simp only at h1 h2 h3
   subst h1
   unfold Ee
   refine Tot.iteF (decide_eq_false (by omega)) (Tot.pure ⟨h2,λ a b ha hb=>?_⟩)
   rw [h3 a b ha hb,List.take_length]
  ·rw [Jlt,List.getElem?_replicate,if_pos hy];simp
  ·have:atT (List.replicate 60 (List.replicate 60 (false:Bool))) a b=false:=by
    unfold atT
    rw [Jlt (l:=List.replicate _ _),List.getElem?_replicate,if_pos hb,Jk8,Jlt,List.getElem?_replicate,if_pos ha,Jk8]
   rw [List.take_zero]
   constructor
   ·intro h;exact absurd (this.symm.trans h) (by simp)
   ·intro h;cases h
 ·rintro t ⟨st,mt⟩
  have hG:∀ p,Bx p->((atT t p.X.toNat p.Y.toNat=true)↔p∈l):=λ p hp=>by
   unfold Bx at hp
   rw [mt _ _ (by omega) (by omega)]
   have:(⟨((p.X.toNat:Nat):Int),((p.Y.toNat:Nat):Int)⟩:Aa)=p:=by cases p;simp only [Aa.mk.injEq] at *;omega
   rw [this]
  refine Tot.bind (R:=λ z=>Inc z/\∀ p,p∈z↔p∈l/\Bx p) ?_ λ y hy=>Tot.pure hy
  refine Tot.upto 60 (λ i (x:List Aa×Int)=>x.2=(i:Int)/\x.1.length<=60*i/\Inc x.1/\∀ p,p∈x.1↔(p∈l/\Bx p)/\p.Y<i) ?_ ?_ _ ⟨rfl,by simp,.nil,λ p=>?_⟩
  ·rintro y ⟨o,x⟩ hy ⟨h1,h2,h3,h4⟩
   simp only at h1 h2 h3 h4
   subst h1
   unfold Eh
   refine Tot.iteT (decide_eq_true (by omega)) (Tot.bind (R:=λ z=>z.length<=60*(y+1)/\Inc z/\∀ p,p∈z↔(p∈l/\Bx p)/\p.Y<(y+1:Nat)) ?_ λ z hz=>Tot.pure ⟨Aq (by omega),hz⟩)
   refine Tot.upto 60 (λ j (x:List Aa×Int)=>x.2=(j:Int)/\x.1.length<=60*y+j/\Inc x.1/\∀ p,p∈x.1↔(p∈l/\Bx p)/\ltG p ⟨j,y⟩) ?_ ?_ _ ⟨rfl,h2,h3,λ p=>?_⟩
   ·rintro j ⟨o,x⟩ hj ⟨h1,h2,h3,h4⟩
    simp only at h1 h2 h3 h4
    subst h1
    unfold Eg Ef
    have hq:Bx (⟨j,y⟩:Aa):=by unfold Bx;simp only;omega
    have hG:=hG _ hq
    simp only [Jlu] at hG
    have hst:∀ p:Aa,ltG p ⟨(j+1:Nat),y⟩↔ltG p ⟨j,y⟩\/p=⟨j,y⟩:=λ p=>by
     cases p;unfold ltG;simp only [Aa.mk.injEq];omega
    refine Tot.iteT (decide_eq_true (by omega)) (Tot.bindC (DZ (decide_eq_true (by omega))) (Tot.bindC (DZ (decide_eq_true (by omega))) (Tot.bindC (JiD st hj hy) (Tot.ite (λ hb=>?_) λ hb=>?_))))
    ·refine Tot.bindC (Bf (by simp;omega)) (Tot.pure ⟨Aq (by omega),by simp;omega,?_,λ p=>?_⟩)
     ·refine List.pairwise_append.2 ⟨h3,List.pairwise_singleton _ _,λ a ha b hb=>?_⟩
      rw [List.mem_singleton] at hb
      rw [hb];exact ((h4 a).1 ha).2
     ·rw [List.mem_append,List.mem_singleton,h4,hst]
      constructor
      ·rintro (⟨h,h'⟩|rfl)
       ·exact ⟨h,.inl h'⟩
       ·exact ⟨⟨hG.1 hb,hq⟩,.inr rfl⟩
      ·rintro ⟨h,h'|h'⟩
       ·exact .inl ⟨h,h'⟩
       ·exact .inr h'
    ·refine Tot.pure ⟨Aq (by omega),by show o.length<=_;omega,h3,λ p=>?_⟩
     show p∈o↔_
     rw [h4,hst]
     constructor
     ·rintro ⟨h,h'⟩;exact ⟨h,.inl h'⟩
     ·rintro ⟨h,h'|rfl⟩
      ·exact ⟨h,h'⟩
      ·rw [hG.2 h.1] at hb;cases hb
   ·rintro ⟨o,x⟩ ⟨h1,h2,h3,h4⟩
    simp only at h1 h2 h3 h4
    subst h1
    unfold Eg
    refine Tot.iteF (decide_eq_false (by omega)) (Tot.pure ⟨by omega,h3,λ p=>?_⟩)
    rw [h4]
    unfold ltG Bx
    constructor
    ·rintro ⟨h,h'⟩;exact ⟨h,by simp only at h';omega⟩
    ·rintro ⟨h,h'⟩;exact ⟨h,by simp only;omega⟩
   ·rw [h4]
    unfold ltG Bx
    constructor
    ·rintro ⟨h,h'⟩;exact ⟨h,by simp only;omega⟩
    ·rintro ⟨h,h'⟩;exact ⟨h,by simp only at h';omega⟩
  ·rintro ⟨o,x⟩ ⟨h1,h2,h3,h4⟩
   simp only at h1 h2 h3 h4
   subst h1
   unfold Eh
   refine Tot.iteF (decide_eq_false (by omega)) (Tot.pure ⟨h3,λ p=>?_⟩)
   rw [h4]
   constructor
   ·rintro ⟨h,h'⟩;exact h
   ·intro h;exact ⟨h,by unfold Bx at h;omega⟩
  ·simp only [List.not_mem_nil,false_iff]
   rintro ⟨⟨_,h⟩,h'⟩
   unfold Bx at h
   omega
theorem JiE (a b:Aa):((a.X==b.X)&&((a.Y==b.Y)&&true))=decide (a=b):=by
 cases a;cases b
 rw [Bool.eq_iff_iff]
 simp
end Go.AI
end
section
namespace Go.AI
instance (p:Aa):Decidable (Bx p):=by unfold Bx;infer_instance
def LH (f:Aw):Bool:=
 if (f.Kind==1)=true then decide (f.P.length=1)&&(f.Texture==0)
 else if (f.Kind==2)=true then decide (f.P.length>=2)&&(f.Texture==0)
 else if (f.Kind==3)=true then (decide (f.P.length>=3)&&decide (f.Texture>=0))&&decide (f.Texture<=3)
 else false
def Lm (f:Aw):Bool:=if (∀ p∈f.P,Bx p)/\f.P.length<=12 then LH f else false
theorem Jj7 {f:Aw} (h:(∀ p∈f.P,Bx p)/\f.P.length<=12):Lm f=LH f:=if_pos h
theorem Je0 {f:Aw} (h:¬((∀ p∈f.P,Bx p)/\f.P.length<=12)):Lm f=false:=if_neg h
theorem Y6 {f:Aw} (h:f.P.length=0):LH f=false:=by
 unfold LH
 rw [h]
 split
 ·rfl
 ·split
  ·rfl
  ·split<;>rfl
theorem Y7 {f:Aw}:Tot (λ _=>if (f.Kind==1)=true then
    some ((((f.P.length:Nat):Int)==1)&&(f.Texture==0))
   else
    if (f.Kind==2)=true then
     some ((decide (((f.P.length:Nat):Int)>=2))&&(f.Texture==0))
    else
     if (f.Kind==3)=true then
      some (((decide (((f.P.length:Nat):Int)>=3))&&(decide (f.Texture>=0)))&&(decide (f.Texture<=3)))
     else
      some false) (λ y=>y=LH f):=by
 have e1:(((f.P.length:Nat):Int)==1)=decide (f.P.length=1):=by rw [Bool.eq_iff_iff];simp;omega
 have e2:decide (((f.P.length:Nat):Int)>=2)=decide (f.P.length>=2):=decide_eq_decide.2 (by omega)
 have e3:decide (((f.P.length:Nat):Int)>=3)=decide (f.P.length>=3):=decide_eq_decide.2 (by omega)
 rw [e1,e2,e3]
 unfold LH
 cases (f.Kind==1) with
 | true=>exact Tot.pure rfl
 | false=>
  cases (f.Kind==2) with
  | true=>exact Tot.pure rfl
  | false=>
   cases (f.Kind==3) with
   | true=>exact Tot.pure rfl
   | false=>exact Tot.pure rfl
theorem WM (f:Aw) (hl:f.P.length<=1000000):Ev (λ n=>LX n f) (Lm f):=by
 refine Tot.ev (Tot.bind (R:=λ y=>y=if (∀ p∈f.P,Bx p) then .inl () else .inr false) ?_ λ y hy=>?_)
 ·refine Tot.upto f.P.length (λ i (x:Int)=>x=(i:Int)/\∀ p∈f.P.take i,Bx p) ?_ ?_ _ ⟨rfl,by simp⟩
  ·rintro i _ hi ⟨rfl,hj⟩
   unfold Fb
   refine Tot.iteT (decide_eq_true (by omega)) (Tot.bindC (AG hi) (Tot.ite (λ hb=>Tot.pure ?_) λ hb=>Tot.pure ⟨Aq (by omega),?_⟩))
   ·show _=_
    rw [if_neg]
    intro hh
    have:=hh _ (Jk9 hi)
    simp only [JlC,decide_eq_true_eq] at hb
    unfold Bx at this
    omega
   ·rw [List.take_succ_eq_append_getElem hi]
    intro p hp
    rw [List.mem_append,List.mem_singleton] at hp
    rcases hp with hp|rfl
    ·exact hj p hp
    ·simp only [Jlj,decide_eq_false_iff_not] at hb
     unfold Bx;omega
  ·rintro _ ⟨rfl,hj⟩
   unfold Fb
   refine Tot.iteF (decide_eq_false (by omega)) (Tot.pure ?_)
   show _=_
   rw [List.take_length] at hj
   rw [if_pos hj]
 ·subst hy
  by_cases hh:∀ p∈f.P,Bx p
  ·rw [if_pos hh]
   refine Tot.ite (λ h=>Tot.pure ?_) λ h=>?_
   ·rw [Je0 (λ hh=>by rw [decide_eq_true_eq] at h;omega)]
   ·rw [decide_eq_false_iff_not] at h
    rw [Jj7 ⟨hh,by omega⟩]
    exact Y7
  ·rw [if_neg hh,Je0 (λ h=>hh h.1)]
   exact Tot.pure rfl
def Ot (k:Int) (p:Aa):Bool:=((k==3)||((k==2)&&(p.Y % 2==0)))||((k==1)&&((p.X+p.Y) % 2==0))
theorem Jbw (n:Nat) (k:Int) {p:Aa} (h:Bx p):Gf n k p=some (Ot k p):=by
 unfold Bx at h
 unfold Gf Ot
 rw [DY (by omega) (by omega),(BK (a:=p.Y) (by omega) (by omega)).1,(BK (a:=p.X+p.Y) (by omega) (by omega)).1]
def arS (P:List Aa) (k:Int) (p:Aa):Prop:=lnS P P.length p\/(Ot k p=true/\Oq P p=true)
theorem JiF {P:List Aa} {i:Nat} {p m n:Aa} (hi:i<=P.length) (h:∀ p∈P,In m n p) (hp:lnS P i p):In m n p:=by
 obtain ⟨j,hj,hp⟩:=hp
 exact Jeh hp (h _ (Y1 P (by omega))) (h _ (Y1 P (Nat.mod_lt _ (by omega))))
theorem XL {p:Aa}:Bx p↔In ⟨0,0⟩ ⟨59,59⟩ p:=by unfold Bx In;simp only;omega
theorem WN {P:List Aa} {i:Nat} {p:Aa} (hi:i<=P.length) (h:∀ p∈P,Bx p) (hp:lnS P i p):Bx p:=XL.2 (JiF hi (λ p hp=>XL.1 (h p hp)) hp)
theorem Jbx {P:List Aa} {p:Aa} (h:∀ p∈P,Bx p) (hp:Oq P p=true):Bx p:=XL.2 (JiC (λ p hp=>XL.1 (h p hp)) hp)
theorem Jby {P:List Aa} {k:Int} {p:Aa} (h:∀ p∈P,Bx p) (hp:arS P k p):Bx p:=by
 rcases hp with hp|hp
 ·exact WN (Jlb _) h hp
 ·exact Jbx h hp.2
theorem Rw {f:Aw} (hv:Lm f=true):(∀ p∈f.P,Bx p)/\f.P.length<=12/\LH f=true:=by
 unfold Lm at hv
 split at hv
 ·rename_i h;exact ⟨h.1,h.2,hv⟩
 ·cases hv
theorem Y8 {f:Aw} (hv:Lm f=true) (hk:f.Kind=2) :
  Tot (λ n=>C6 n f) (λ r=>Inc r/\∀ p,p∈r↔lnS f.P (f.P.length-1) p):=by
 obtain ⟨hb,hl,hK⟩:=Rw hv
 have h0:f.P.length≠0:=λ h=>by rw [Y6 h] at hK;cases hK
 refine Tot.iteF (by rw [hk];rfl) (Tot.iteT (by rw [hk];rfl) ?_)
 rw [show AT .i64 ((f.P.length:Nat):Int) 1=((f.P.length-1:Nat):Int) from (CB (by omega) (by omega)).trans (by omega)]
 refine Tot.bind (Rv (by omega) (λ p hp=>(hb p hp).nr) (k:=f.P.length-1) (by omega)) λ l hl=>?_
 have h1:=TV (λ p hp=>(hb p hp).nr) (i:=f.P.length-1) (by omega)
 refine Tot.bind (O9 (by omega)) λ z hz=>Tot.pure ⟨hz.1,λ p=>?_⟩
 rw [hz.2,hl.2]
 exact ⟨λ h=>h.1,λ h=>⟨h,WN (by omega) hb h⟩⟩
theorem Y9 {f:Aw} (hv:Lm f=true) (hk:f.Kind=3) :
  Tot (λ n=>C6 n f) (λ r=>Inc r/\∀ p,p∈r↔arS f.P f.Texture p):=by
 obtain ⟨hb,hl,hK⟩:=Rw hv
 refine Tot.iteF (by rw [hk];rfl) (Tot.iteF (by rw [hk];rfl) (Tot.bind (Rv (by omega) (λ p hp=>(hb p hp).nr) (k:=f.P.length) (by omega)) λ l hl=>?_))
 have h1:=TV (λ p hp=>(hb p hp).nr) (i:=f.P.length) (by omega)
 refine Tot.bind (R:=λ z=>z.length<=100000/\∀ p,p∈z↔lnS f.P f.P.length p\/(Bx p/\Ot f.Texture p=true/\Oq f.P p=true)) ?_ λ z hz=>?_
 ·refine Tot.upto 60 (λ i (x:List Aa×Int)=>x.2=(i:Int)/\x.1.length<=30000+60*i/\∀ p,p∈x.1↔lnS f.P f.P.length p\/((Bx p/\p.Y<(i:Int))/\Ot f.Texture p=true/\Oq f.P p=true)) ?_ ?_ _ ⟨rfl,by show l.length<=_;omega,λ p=>?_⟩
  ·rintro i ⟨d,x⟩ hi' ⟨h1,h2,h3⟩
   simp only at h1 h2 h3
   subst h1
   unfold Em
   refine Tot.iteT (decide_eq_true (by omega)) (Tot.bind (R:=λ z=>z.length<=30000+60*(i+1)/\∀ p,p∈z↔lnS f.P f.P.length p\/((Bx p/\p.Y<((i+1:Nat):Int))/\Ot f.Texture p=true/\Oq f.P p=true)) ?_ λ z hz=>Tot.pure ⟨Aq (by omega),hz⟩)
   refine Tot.upto 60 (λ j (x:List Aa×Int)=>x.2=(j:Int)/\x.1.length<=30000+60*i+j/\∀ p,p∈x.1↔lnS f.P f.P.length p\/((Bx p/\ltG p ⟨(j:Int),(i:Int)⟩)/\Ot f.Texture p=true/\Oq f.P p=true)) ?_ ?_ _ ⟨rfl,by show d.length<=_;omega,λ p=>?_⟩
   ·rintro j ⟨d,x⟩ hj ⟨h1,h2,h3⟩
    simp only at h1 h2 h3
    subst h1
    unfold El Ek
    have hqb:Bx ⟨(j:Int),(i:Int)⟩:=by unfold Bx;simp only;omega
    have hst:∀ p:Aa,ltG p ⟨((j+1:Nat):Int),(i:Int)⟩↔ltG p ⟨(j:Int),(i:Int)⟩\/p=⟨(j:Int),(i:Int)⟩:=λ p=>by
     cases p;unfold ltG;simp only [Aa.mk.injEq];omega
    refine Tot.iteT (decide_eq_true (by omega)) (Tot.bindA (λ n=>Jbw n _ hqb) ?_)
    refine Tot.bind (R:=λ b=>b=(Ot f.Texture ⟨(j:Int),(i:Int)⟩&&Oq f.P ⟨(j:Int),(i:Int)⟩)) ?_ λ b hbb=>?_
    ·cases Ot f.Texture ⟨(j:Int),(i:Int)⟩ with
     | true=>exact Tot.iteT rfl ((VA (by omega) (λ p hp=>(hb p hp).nr) hqb.nr).tot rfl)
     | false=>exact Tot.iteF rfl (Tot.pure rfl)
    ·subst hbb
     rw [show (Ot f.Texture ⟨(j:Int),(i:Int)⟩&&(Ot f.Texture ⟨(j:Int),(i:Int)⟩&&Oq f.P ⟨(j:Int),(i:Int)⟩))=(Ot f.Texture ⟨(j:Int),(i:Int)⟩&&Oq f.P ⟨(j:Int),(i:Int)⟩) from by cases Ot f.Texture ⟨(j:Int),(i:Int)⟩<;>rfl]
     refine Tot.ite (λ hc=>Tot.bindC (Bf (by simp;omega)) (Tot.pure ⟨Aq (by omega),by simp;omega,λ p=>?_⟩)) λ hc=>Tot.pure ⟨Aq (by omega),by show d.length<=_;omega,λ p=>?_⟩
     ·rw [Jll] at hc
      rw [List.mem_append,List.mem_singleton,h3,hst]
      constructor
      ·rintro ((h|⟨⟨h,h'⟩,h''⟩)|rfl)
       ·exact .inl h
       ·exact .inr ⟨⟨h,.inl h'⟩,h''⟩
       ·exact .inr ⟨⟨hqb,.inr rfl⟩,hc⟩
      ·rintro (h|⟨⟨h,h'|h'⟩,h''⟩)
       ·exact .inl (.inl h)
       ·exact .inl (.inr ⟨⟨h,h'⟩,h''⟩)
       ·exact .inr h'
     ·show p∈d↔_
      rw [h3,hst]
      constructor
      ·rintro (h|⟨⟨h,h'⟩,h''⟩)
       ·exact .inl h
       ·exact .inr ⟨⟨h,.inl h'⟩,h''⟩
      ·rintro (h|⟨⟨h,h'|rfl⟩,h''⟩)
       ·exact .inl h
       ·exact .inr ⟨⟨h,h'⟩,h''⟩
       ·rw [h''.1,h''.2] at hc;cases hc
   ·rintro ⟨d,x⟩ ⟨h1,h2,h3⟩
    simp only at h1 h2 h3
    subst h1
    unfold El
    refine Tot.iteF (decide_eq_false (by omega)) (Tot.pure ⟨by omega,λ p=>?_⟩)
    have:Bx p->(ltG p ⟨((60:Nat):Int),(i:Int)⟩↔p.Y<((i+1:Nat):Int)):=λ h=>by
     unfold Bx at h;unfold ltG;simp only;omega
    rw [h3]
    constructor
    ·rintro (h|⟨⟨h,h'⟩,h''⟩)
     ·exact .inl h
     ·exact .inr ⟨⟨h,(this h).1 h'⟩,h''⟩
    ·rintro (h|⟨⟨h,h'⟩,h''⟩)
     ·exact .inl h
     ·exact .inr ⟨⟨h,(this h).2 h'⟩,h''⟩
   ·have:Bx p->(ltG p ⟨((0:Nat):Int),(i:Int)⟩↔p.Y<(i:Int)):=λ h=>by
     unfold Bx at h;unfold ltG;simp only;omega
    show p∈d↔_
    rw [h3]
    constructor
    ·rintro (h|⟨⟨h,h'⟩,h''⟩)
     ·exact .inl h
     ·exact .inr ⟨⟨h,(this h).2 h'⟩,h''⟩
    ·rintro (h|⟨⟨h,h'⟩,h''⟩)
     ·exact .inl h
     ·exact .inr ⟨⟨h,(this h).1 h'⟩,h''⟩
  ·rintro ⟨d,x⟩ ⟨h1,h2,h3⟩
   simp only at h1 h2 h3
   subst h1
   unfold Em
   refine Tot.iteF (decide_eq_false (by omega)) (Tot.pure ⟨by show d.length<=_;omega,λ p=>?_⟩)
   show p∈d↔_
   rw [h3]
   constructor
   ·rintro (h|⟨h,h''⟩)
    ·exact .inl h
    ·exact .inr ⟨h.1,h''⟩
   ·rintro (h|⟨h,h''⟩)
    ·exact .inl h
    ·exact .inr ⟨⟨h,by unfold Bx at h;omega⟩,h''⟩
  ·show p∈l↔_
   rw [hl.2]
   constructor
   ·exact .inl
   ·rintro (h|⟨⟨h,h'⟩,h''⟩)
    ·exact h
    ·unfold Bx at h;omega
 ·refine Tot.bind (O9 (by omega)) λ r hr=>Tot.pure ⟨hr.1,λ p=>?_⟩
  rw [hr.2,hz.2]
  constructor
  ·rintro ⟨h|h,_⟩
   ·exact .inl h
   ·exact .inr h.2
  ·intro h
   refine ⟨?_,Jby hb h⟩
   rcases h with h|h
   ·exact .inl h
   ·exact .inr ⟨Jbx hb h.2,h⟩
end Go.AI
end
section
namespace Go.AI
theorem JiG {f:Aw} (h:f.Kind=1):LH f=(decide (f.P.length=1)&&(f.Texture==0)):=by unfold LH;rw [h];rfl
def ptS (f:Aw) (p:Aa):Prop:=if f.Kind=1 then p∈f.P else if f.Kind=2 then lnS f.P (f.P.length-1) p else arS f.P f.Texture p
theorem Jbz {f:Aw} (hv:Lm f=true):f.Kind=1\/f.Kind=2\/f.Kind=3:=by
 have hK:=(Rw hv).2.2
 unfold LH at hK
 split at hK
 ·rename_i h;exact .inl (by simpa using h)
 ·split at hK
  ·rename_i h;exact .inr (.inl (by simpa using h))
  ·split at hK
   ·rename_i h;exact .inr (.inr (by simpa using h))
   ·cases hK
theorem JbA {f:Aw} (hv:Lm f=true) (hk:f.Kind=1):f.P=[f.P.getD 0 default]:=by
 have hK:=(Rw hv).2.2
 rw [JiG hk,Jll,decide_eq_true_eq] at hK
 obtain ⟨a,e⟩:=List.length_eq_one_iff.1 hK.1
 rw [e];rfl
theorem JbB {f:Aw} (hv:Lm f=true):Tot (λ n=>C6 n f) (λ r=>Inc r/\∀ p,p∈r↔ptS f p):=by
 unfold ptS
 rcases Jbz hv with hk|hk|hk
 ·refine Tot.iteT (by rw [hk];rfl) (Tot.pure ⟨?_,λ p=>?_⟩)
  ·rw [JbA hv hk];exact List.pairwise_singleton _ _
  ·rw [if_pos hk]
 ·refine (Y8 hv hk).mono λ r hr=>⟨hr.1,λ p=>?_⟩
  rw [if_neg (by omega),if_pos hk,hr.2]
 ·refine (Y9 hv hk).mono λ r hr=>⟨hr.1,λ p=>?_⟩
  rw [if_neg (by omega),if_neg (by omega),hr.2]
theorem JiH {f:Aw} (hv:Lm f=true) {p:Aa} (h:ptS f p):Bx p:=by
 obtain ⟨hb,hl,_⟩:=Rw hv
 unfold ptS at h
 split at h
 ·exact hb p h
 ·split at h
  ·exact WN (by omega) hb h
  ·exact Jby hb h
theorem Tot.gT {α β:Type} {P:α->Prop} {c:Bool} {f:Nat->Option β} {d:β} {g:Nat->β->Option α} {R:β->Prop} (hc:c=true) (h:Tot f R) (k:∀ x,R x->Tot (λ n=>g n x) P):Tot (λ n=>(if c=true then f n else some d).bind (g n)) P:=by
 subst hc;exact Tot.bind h k
end Go.AI
end
section
namespace Go.AI
theorem Rx (a b:Int):Tot (λ n=>EY n a b) (λ l=>l.length<=5):=by
 unfold EY
 refine Tot.ite (λ _=>Tot.pure (by simp)) λ _=>Tot.ite (λ _=>Tot.pure (by simp)) λ _=>Tot.ite (λ _=>Tot.pure (by simp)) λ _=>Tot.ite (λ _=>Tot.pure (by simp)) λ _=>Tot.ite (λ _=>Tot.pure (by simp)) λ _=>Tot.ite (λ _=>Tot.pure (by simp)) λ _=>Tot.ite (λ _=>Tot.pure (by simp)) λ _=>Tot.pure (by simp)
theorem Ou {r:QL} {out:List Al} (ho:out.length<=1) {k:Nat} (hk:k<=16):Tot (λ n=>Dj n r out (k:Int)) (λ f=>f.length<=1000):=by
 unfold Dj
 refine Tot.bind (R:=λ f=>f.length<=1000) ?_ λ f hf=>Tot.bind (SM f) λ b _=>Tot.ite (λ _=>Tot.bind (Rx _ _) λ l hl=>Tot.pure (by omega)) λ _=>Tot.pure hf
 refine Tot.upto k (λ i (x:List Al×Int)=>x.2=(i:Int)/\x.1.length<=1+5*i) ?_ ?_ _ ⟨rfl,by omega⟩
 ·rintro i ⟨l,x⟩ hi ⟨h1,h2⟩
  simp only at h1 h2
  subst h1
  unfold Gb
  have hj:∀ p:Cu Int,Tot (λ n=>Ec n r l (i:Int) p) (Rd2 (λ x=>x.2=((i+1:Nat):Int)/\x.1.length<=1+5*(i+1)) λ f=>f.length<=1000):=λ p=>by
   unfold Ec
   refine Tot.ite (λ _=>Tot.bindC (Bf (by simp;omega)) (Tot.pure ⟨Aq (by omega),by simp;omega⟩)) λ _=>Tot.bind (Rx _ _) λ q hq=>Tot.bindC (Bf (by omega)) (Tot.pure ⟨Aq (by omega),by simp;omega⟩)
  refine Tot.iteT (decide_eq_true (show (i:Int)<(k:Int) by omega)) (Tot.ite (λ h=>?_) λ _=>hj _)
  rw [decide_eq_true_eq] at h
  exact Tot.bindC (C9 (show i<r.L.length from by simpa using h)) (hj _)
 ·rintro ⟨l,x⟩ ⟨h1,h2⟩
  simp only at h1 h2
  subst h1
  unfold Gb
  exact Tot.iteF (decide_eq_false (show ¬(k:Int)<(k:Int) by omega)) (Tot.pure (by show l.length<=1000;omega))
theorem Za {r:QL} (hn:U8 r.N):Tot (λ n=>KN n r) (λ f=>f.length<=1000):=by
 unfold KN
 unfold U8 at hn
 obtain ⟨a1,a2,a3⟩:=BK (a:=r.N) (m:=4) (by omega) (by omega)
 have q0:Dt .u8 r.N 4=r.N / 4:=by
  unfold Dt
  rw [Int.tdiv_eq_ediv_of_nonneg (by omega),w8 (by omega) (by omega)]
 obtain ⟨b1,b2,b3⟩:=BK (a:=Dt .u8 r.N 4) (m:=4) (by rw [q0];omega) (by omega)
 generalize Ah r.N 4=p at *
 generalize Ah (Dt .u8 r.N 4) 4=q at *
 rw [w64 (a:=p) (by omega) (by omega),w64 (a:=q) (by omega) (by omega)]
 have hp:p=0\/p=1\/p=2\/p=3:=by omega
 have hq:q=0\/q=1\/q=2\/q=3:=by omega
 refine Tot.ite (λ _=>?_) λ _=>Tot.ite (λ _=>?_) λ _=>Tot.ite (λ _=>Tot.bind (Rx _ _) λ l hl=>Tot.pure (by omega)) λ _=>Ou (k:=2) (by simp) (by omega)
 ·have e:∃ k:Nat,Ai .i64 3 p=(k:Int)/\k<=16:=by
   rcases hp with rfl|rfl|rfl|rfl
   ·exact ⟨3,rfl,by omega⟩
   ·exact ⟨4,rfl,by omega⟩
   ·exact ⟨5,rfl,by omega⟩
   ·exact ⟨6,rfl,by omega⟩
  obtain ⟨k,hk,hk2⟩:=e
  rw [hk]
  exact Ou (by simp) hk2
 ·have e:∃ k:Nat,BS .i64 (Ai .i64 1 p) (Ai .i64 1 q)=(k:Int)/\k<=16:=by
   rcases hp with rfl|rfl|rfl|rfl<;>rcases hq with rfl|rfl|rfl|rfl<;>exact ⟨_,rfl,by decide⟩
  obtain ⟨k,hk,hk2⟩:=e
  rw [hk]
  exact Ou (by simp) hk2
theorem WO (x:Vd Int) {w h:Int} (hw:w≠0) (hh:h≠0):Tot (λ n=>Gc n x w h) (λ f=>f.P.length<=4):=by
 unfold Gc DA DB
 refine Tot.bindC (Iw hw) (Tot.bindC (Iw hh) (Tot.ite (λ _=>Tot.pure (by simp)) λ _=>Tot.ite (λ _=>Tot.ite (λ _=>Tot.bindC (Bf (by simp)) (Tot.pure (by simp))) λ _=>Tot.pure (by simp)) λ _=>Tot.ite (λ _=>Tot.bindC (Bf (by simp)) (Tot.pure (by simp))) λ _=>Tot.pure (by simp)))
structure VD (p:Ae):Prop where
 f:p.F.length<=100
 p:∀ g∈p.F,g.P.length<=100
theorem Zb {r:Bo} (hw:U8 r.W) (hh:U8 r.H):Tot (λ n=>KO n r) VD:=by
 unfold KO
 unfold U8 at hw hh
 obtain ⟨a1,a2,a3⟩:=BK (a:=r.W) (m:=13) (by omega) (by omega)
 obtain ⟨b1,b2,b3⟩:=BK (a:=r.H) (m:=9) (by omega) (by omega)
 rw [w64 (a:=Ah r.W 13) (by omega) (by omega),w64 (a:=Ah r.H 9) (by omega) (by omega)]
 rw [FV (a:=2) (by omega) (by omega),FV (a:=3) (by omega) (by omega),DY (a:=12) (b:=2*Ah r.W 13) (by omega) (by omega),DY (a:=12) (b:=3*Ah r.H 9) (by omega) (by omega)]
 refine Tot.bind (R:=VD) ?_ λ p hp=>Tot.ite (λ _=>Tot.pure ⟨by simp,by simp⟩) λ _=>Tot.pure hp
 refine Tot.upto (min r.F.length 4) (λ i (x:Ae×Int)=>x.2=(i:Int)/\(x.1.W≠0/\x.1.H≠0)/\x.1.F.length=i/\∀ g∈x.1.F,g.P.length<=100) ?_ ?_ _ ⟨rfl,⟨by show (12:Int)+_≠0;omega,by show (12:Int)+_≠0;omega⟩,rfl,by simp⟩
 ·rintro i ⟨p,x⟩ hi ⟨h1,h2,h3,h4⟩
  simp only at h1 h2 h3 h4
  subst h1
  unfold Gd
  have hlt:i<r.F.length:=by omega
  refine Tot.iteT (by rw [Jll,decide_eq_true_eq,decide_eq_true_eq];show (i:Int)<_/\(i:Int)<4;omega) (Tot.bindC (AG hlt) (Tot.bind (WO _ h2.1 h2.2) λ g hg=>Tot.bindC (Bf (by simp;omega)) (Tot.pure ⟨Aq (by omega),h2,by simp;exact h3,λ q hq=>?_⟩)))
  rw [List.mem_append,List.mem_singleton] at hq
  rcases hq with hq|rfl
  ·exact h4 q hq
  ·omega
 ·rintro ⟨p,x⟩ ⟨h1,h2,h3,h4⟩
  simp only at h1 h2 h3 h4
  subst h1
  unfold Gd
  exact Tot.iteF (by rw [Bool.and_eq_false_iff,decide_eq_false_iff_not,decide_eq_false_iff_not];show ¬(((min r.F.length 4:Nat):Int)<_)\/¬(((min r.F.length 4:Nat):Int)<4);omega) (Tot.pure ⟨by show p.F.length<=100;omega,h4⟩)
theorem SN {α:Type} [DecidableEq α] {l m:List α} (h:l.Nodup) (hs:∀ x∈l,x∈m):l.length<=m.length:=by
 induction l generalizing m with
 | nil=>simp
 | cons a l ih=>
  rw [List.nodup_cons] at h
  have ha:=hs a (by simp)
  have hlen:(m.erase a).length=m.length-1:=List.length_erase_of_mem ha
  have hpos:0<m.length:=List.length_pos_of_mem ha
  have:=ih (m:=m.erase a) h.2 λ x hx=>by
   have hne:x≠a:=λ e=>h.1 (e▸hx)
   exact (List.mem_erase_of_ne hne).2 (hs x (by simp [hx]))
  simp
  omega
structure PtL (k:Nat) (l:List Aa):Prop where
 len:l.length<=k
 nr:∀ p∈l,Nr p
theorem No {a b:List Aa} (ha:PtL 1000000 a) (hb:PtL 1000000 b):Tot (λ n=>Bz n a b) (λ _=>True):=by
 have hal:=ha.len
 have hbl:=hb.len
 refine Tot.bind (R:=λ _=>True) ?_ λ _ _=>Tot.pure trivial
 refine Tot.upto a.length (λ i (x:Int×Int)=>x.2=(i:Int)) ?_ ?_ _ rfl
 ·rintro i ⟨o,x⟩ hi h1
  simp only at h1
  subst h1
  unfold B3
  refine Tot.iteT (E7 hi) (Tot.bind (R:=λ _=>True) ?_ λ _ _=>Tot.pure (Aq (by omega)))
  refine Tot.upto b.length (λ i (x:Int×Int)=>x.2=(i:Int)) ?_ ?_ _ rfl
  ·rintro k ⟨o,x⟩ hk h1
   simp only at h1
   subst h1
   unfold B2
   refine Tot.iteT (E7 hk) (Tot.bindC (AG hi) (Tot.bindC (AG hk) (Tot.bindA (λ n=>Jbo n (ha.nr _ (Jk9 hi)) (hb.nr _ (Jk9 hk))) (Tot.ite (λ _=>Tot.pure (Aq (by omega))) λ _=>Tot.pure (Aq (by omega))))))
  ·rintro ⟨o,x⟩ h1
   simp only at h1
   subst h1
   unfold B2
   exact Tot.iteF (Da _) (Tot.pure trivial)
 ·rintro ⟨o,x⟩ h1
  simp only at h1
  subst h1
  unfold B3
  exact Tot.iteF (Da _) (Tot.pure trivial)
theorem Ry {l:List Aa} (q:Aa) (hl:l.length<=1000000):Ev (λ n=>J3 n l q) (decide (q∈l)):=by
 refine Tot.ev (Tot.bind (R:=λ y=>y=if q∈l then .inr true else .inl ()) ?_ λ y hy=>?_)
 ·refine Tot.upto l.length (λ i (x:Int)=>x=(i:Int)/\q ∉ l.take i) ?_ ?_ _ ⟨rfl,by simp⟩
  ·rintro i _ hi ⟨rfl,hj⟩
   unfold Hj
   refine Tot.iteT (decide_eq_true (by omega)) (Tot.bindC (AG hi) ?_)
   rw [JiE]
   refine Tot.ite (λ hb=>Tot.pure ?_) λ hb=>Tot.pure ⟨Aq (by omega),?_⟩
   ·show _=_
    rw [if_pos]
    rw [← of_decide_eq_true hb]
    exact Jk9 _
   ·rw [List.take_succ_eq_append_getElem hi,List.mem_append,List.mem_singleton]
    rintro (h|h)
    ·exact hj h
    ·exact of_decide_eq_false hb h.symm
  ·rintro _ ⟨rfl,hj⟩
   unfold Hj
   refine Tot.iteF (decide_eq_false (by omega)) (Tot.pure ?_)
   show _=_
   rw [if_neg]
   rw [List.take_length] at hj
   exact hj
 ·subst hy
  by_cases h:q∈l
  ·rw [if_pos h,decide_eq_true h];exact Tot.pure rfl
  ·rw [if_neg h,decide_eq_false h];exact Tot.pure rfl
theorem Pa {l:List Aa} (hl:l.length<=100000):Tot (λ n=>Hk n l) (λ z=>(z.Nodup/\z.length<=l.length)/\∀ p,p∈z↔p∈l):=by
 refine Tot.bind (R:=λ z=>(z.Nodup/\z.length<=l.length)/\∀ p,p∈z↔p∈l) ?_ λ z hz=>Tot.pure hz
 refine Tot.upto l.length (λ i (x:List Aa×Int)=>x.2=(i:Int)/\(x.1.Nodup/\x.1.length<=i)/\∀ p,p∈x.1↔p∈l.take i) ?_ ?_ _ ⟨rfl,⟨List.nodup_nil,by simp⟩,by simp⟩
 ·rintro i ⟨o,x⟩ hi ⟨h1,⟨h2,h3⟩,h4⟩
  simp only at h1 h2 h3 h4
  subst h1
  unfold Ep
  refine Tot.iteT (E7 hi) (Tot.bindC (AG hi) (Tot.bindE (Ry _ (show o.length<=1000000 by omega)) (Tot.ite (λ hb=>Tot.pure ⟨Aq (by omega),⟨h2,by show o.length<=i+1;omega⟩,λ p=>?_⟩) λ hb=>?_)))
  ·rw [decide_eq_true_eq] at hb
   rw [List.take_succ_eq_append_getElem hi,List.mem_append,List.mem_singleton,← h4]
   constructor
   ·exact .inl
   ·rintro (h|rfl)
    ·exact h
    ·exact hb
  ·rw [decide_eq_false_iff_not] at hb
   refine Tot.bind (R:=λ y=>∃ k:Nat,y=(k:Int)/\k<=o.length) ?_ λ y hy=>?_
   ·refine Tot.whl (λ q (x:Int)=>x=(q:Int)/\q<=o.length) ?_ o.length _ ⟨rfl,Jlb _⟩
    rintro q _ ⟨rfl,hq⟩
    unfold GJ
    cases q with
    | zero=>exact Tot.gF rfl (Tot.gF rfl (Tot.gF rfl (Tot.iteF rfl (Tot.pure ⟨0,rfl,by omega⟩))))
    | succ q=>
     have e:AT .i64 ((q+1:Nat):Int) 1=(q:Int):=(CB (by omega) (by omega)).trans (by omega)
     have hd:decide (((q+1:Nat):Int)>0)=true:=decide_eq_true (by omega)
     rw [e,hd]
     refine Tot.gE rfl (Ev.all λ n=>AG hi) (Tot.gE rfl (Ev.all λ n=>AG (show q<o.length by omega)) (Tot.gE rfl (Ev.all λ n=>rfl) (Tot.ite (λ _=>Tot.pure ⟨q,by omega,rfl,by omega⟩) λ _=>Tot.pure ⟨q+1,rfl,hq⟩)))
   ·obtain ⟨k,rfl,hk⟩:=hy
    have e1:((o.take ((o.length:Nat):Int).toNat).drop (k:Int).toNat)=o.drop k:=by simp
    have e2:((o.take (k:Int).toNat).drop (0:Int).toNat)=o.take k:=by simp
    refine Tot.bindC (Iu (by omega) (show (k:Int)<=((o.length:Nat):Int) by omega) (Int.le_refl _)) ?_
    rw [e1]
    refine Tot.bindC (Bf (by simp;omega)) (Tot.bindC (Iu (Int.le_refl 0) (by omega) (show (k:Int)<=((o.length:Nat):Int) by omega)) ?_)
    rw [e2,List.nil_append]
    have hperm:(o.take k++[l[i]]++o.drop k).Perm (l[i]::o):=by
     have:(o.take k++[l[i]]++o.drop k).Perm ([l[i]]++o.take k++o.drop k):=(List.perm_append_comm).append_right _
     rw [List.append_assoc ([l[i]]),List.take_append_drop] at this
     exact this
    refine Tot.bindC (AG hi) (Tot.bindC (Bf (by simp;omega)) (Tot.bindC (Bf (by simp;omega)) (Tot.pure ⟨Aq (by omega),⟨hperm.nodup_iff.2 (List.nodup_cons.2 ⟨hb,h2⟩),?_⟩,λ p=>?_⟩)))
    ·have:=hperm.length_eq
     show (o.take k++[l[i]]++o.drop k).length<=i+1
     rw [this,List.length_cons];omega
    ·show p∈o.take k++[l[i]]++o.drop k↔_
     rw [hperm.mem_iff,List.mem_cons,h4,List.take_succ_eq_append_getElem hi,List.mem_append,List.mem_singleton]
     exact or_comm
 ·rintro ⟨o,x⟩ ⟨h1,⟨h2,h3⟩,h4⟩
  simp only at h1 h2 h3 h4
  subst h1
  unfold Ep
  rw [List.take_length] at h4
  exact Tot.iteF (Da _) (Tot.pure ⟨⟨h2,h3⟩,h4⟩)
theorem VE {l:List Aa} (hl:PtL 100000 l) (gap:Int):Tot (λ n=>HG n l gap) (λ _=>True):=by
 have hlen:=hl.len
 refine Tot.bind (Pa hlen) λ z hz=>Tot.bind (R:=λ _=>True) ?_ λ _ _=>Tot.pure trivial
 obtain ⟨⟨z1,z2⟩,z3⟩:=hz
 refine Tot.whl (λ q (x:List Aa×List (List Aa))=>x.1.length=q/\(x.1.Nodup/\PtL 100000 x.1)/\x.2.length+q<=100000) ?_ z.length _ ⟨rfl,⟨z1,show z.length<=100000 by omega,λ p hp=>hl.nr p ((z3 p).1 hp)⟩,by simp;omega⟩
 rintro q ⟨rest,out⟩ ⟨h1,⟨h2,h3⟩,h4⟩
 simp only at h1 h2 h3 h4
 subst h1
 unfold E4
 have hrl:=h3.len
 cases hr:rest with
 | nil=>exact Tot.iteF rfl (Tot.pure trivial)
 | cons r0 rs=>
  rw [← hr]
  have hp:0<rest.length:=by rw [hr];simp
  have hr0:r0∈rest:=by rw [hr];exact List.mem_cons_self ..
  refine Tot.iteT (decide_eq_true (show (0:Int)<((rest.length:Nat):Int) by omega)) (Tot.bindC (C9 (i:=0) hp) ?_)
  have e0:rest.getD 0 default=r0:=by rw [hr];rfl
  rw [e0]
  have hsub:∀ {o:List Aa},o.Nodup->(∀ p∈o,p∈rest)->o.length<=rest.length:=λ h1 h2=>SN h1 h2
  refine Tot.bind (R:=λ one=>(r0∈one/\one.Nodup)/\∀ p∈one,p∈rest) ?_ λ one h1=>?_
  ·refine Tot.whl (λ m (x:List Aa×Bool)=>m=2*(rest.length-x.1.length)+(if x.2=true then 1 else 0)/\(r0∈x.1/\x.1.Nodup)/\∀ p∈x.1,p∈rest) ?_ _ _ ⟨rfl,⟨by simp,by simp⟩,by simpa using hr0⟩
   rintro m ⟨one,gr⟩ ⟨hm,⟨g1,g2⟩,g3⟩
   simp only at hm g1 g2 g3
   subst hm
   unfold E2
   cases gr with
   | false=>exact Tot.iteF rfl (Tot.pure ⟨⟨g1,g2⟩,g3⟩)
   | true=>
    refine Tot.iteT rfl (Tot.bind (R:=λ y:List Aa×Bool=>(one.length<=y.1.length/\(y.2=true->one.length<y.1.length))/\(r0∈y.1/\y.1.Nodup)/\∀ p∈y.1,p∈rest) ?_ λ y hy=>Tot.pure ⟨_,?_,rfl,hy.2⟩)
    ·refine Tot.upto rest.length (λ i (x:List Aa×Bool×Int)=>x.2.2=(i:Int)/\(one.length<=x.1.length/\(x.2.1=true->one.length<x.1.length))/\(r0∈x.1/\x.1.Nodup)/\∀ p∈x.1,p∈rest) ?_ ?_ _ ⟨rfl,⟨Jlb _,λ h=>by cases h⟩,⟨g1,g2⟩,g3⟩
     ·rintro i ⟨o,g,x⟩ hi ⟨k1,⟨k2,k2'⟩,⟨k3,k4⟩,k5⟩
      simp only at k1 k2 k2' k3 k4 k5
      subst k1
      unfold Dk
      have hol:=hsub k4 k5
      have hsb:sub rest (i:Int) (Ai .i64 (i:Int) 1)=some [rest[i]]:=by
       rw [Aq (by omega),Iu (by omega) (by omega) (by omega),Jlu,Jlu,List.take_succ_eq_append_getElem hi,List.drop_left' (by simp;omega)]
      have ho:PtL 1000000 o:=⟨by omega,λ p hp=>h3.nr p (k5 p hp)⟩
      have h1p:PtL 1000000 [rest[i]]:=⟨by simp,λ p hp=>by rw [List.mem_singleton] at hp;subst hp;exact h3.nr _ (Jk9 hi)⟩
      refine Tot.iteT (E7 hi) (Tot.bindC (AG hi) (Tot.bindE (Ry _ ho.len) ?_))
      by_cases hin:rest[i]∈o
      ·rw [decide_eq_true hin]
       exact Tot.gF rfl (Tot.gF rfl (Tot.iteF rfl (Tot.pure ⟨Aq (by omega),⟨k2,k2'⟩,⟨k3,k4⟩,k5⟩)))
      ·rw [decide_eq_false hin]
       refine Tot.gE rfl (Ev.all λ n=>hsb) (Tot.guard (R:=λ _=>True) (λ _=>No ho h1p) λ d _=>Tot.ite (λ _=>?_) λ _=>Tot.pure ⟨Aq (by omega),⟨k2,k2'⟩,⟨k3,k4⟩,k5⟩)
       refine Tot.bindC (AG hi) (Tot.bindC (Bf (by simp;omega)) (Tot.pure ⟨Aq (by omega),⟨?_,λ _=>?_⟩,⟨?_,?_⟩,λ p hp=>?_⟩))
       ·show one.length<=(o++[rest[i]]).length
        rw [List.length_append];omega
       ·show one.length<(o++[rest[i]]).length
        rw [List.length_append];simp only [List.length_singleton];omega
       ·exact List.mem_append_left _ k3
       ·show (o++[rest[i]]).Nodup
        rw [List.nodup_append]
        exact ⟨k4,by simp,λ a ha b hb e=>by rw [List.mem_singleton] at hb;subst hb;subst e;exact hin ha⟩
       ·rw [List.mem_append,List.mem_singleton] at hp
        rcases hp with hp|rfl
        ·exact k5 p hp
        ·exact Jk9 hi
     ·rintro ⟨o,g,x⟩ ⟨k1,k2,k3,k5⟩
      simp only at k1 k2 k3 k5
      subst k1
      unfold Dk
      exact Tot.iteF (Da _) (Tot.pure ⟨k2,k3,k5⟩)
    ·obtain ⟨⟨y1,y2⟩,⟨_,y4⟩,y5⟩:=hy
     have:=hsub y4 y5
     have h0:=hsub g2 g3
     show 2*(rest.length-y.1.length)+(if y.2=true then 1 else 0)<2*(rest.length-one.length)+(if true=true then 1 else 0)
     rw [if_pos rfl]
     split
     ·rename_i hb
      have:=y2 hb
      omega
     ·omega
  ·obtain ⟨⟨o1,o2⟩,o3⟩:=h1
   have hol:=hsub o2 o3
   have hone:one.length<=100000:=by omega
   refine Tot.bind (R:=λ y:List Aa=>y.length<rest.length/\y.Nodup/\∀ p∈y,p∈rest) ?_ λ y hy=>?_
   ·refine Tot.upto rest.length (λ i (x:List Aa×Int)=>x.2=(i:Int)/\x.1=(rest.take i).filter λ p=>!(decide (p∈one))) ?_ ?_ _ ⟨rfl,by simp⟩
    ·rintro i ⟨o,x⟩ hi ⟨k1,k2⟩
     simp only at k1 k2
     subst k1
     unfold Dl
     have hol:o.length<=i:=by
      rw [k2]
      have:=List.length_filter_le (λ p=>!(decide (p∈one))) (rest.take i)
      rw [List.length_take] at this
      omega
     refine Tot.iteT (E7 hi) (Tot.bindC (AG hi) (Tot.bindE (Ry _ (by omega)) ?_))
     rw [List.take_succ_eq_append_getElem hi,List.filter_append,← k2]
     by_cases hin:rest[i]∈one
     ·rw [decide_eq_true hin]
      refine Tot.iteF rfl (Tot.pure ⟨Aq (by omega),?_⟩)
      simp [hin]
     ·rw [decide_eq_false hin]
      refine Tot.iteT rfl (Tot.bindC (AG hi) (Tot.bindC (Bf (by simp;omega)) (Tot.pure ⟨Aq (by omega),?_⟩)))
      simp [hin]
    ·rintro ⟨o,x⟩ ⟨k1,k2⟩
     simp only at k1 k2
     subst k1
     unfold Dl
     rw [List.take_length] at k2
     subst k2
     refine Tot.iteF (Da _) (Tot.pure ⟨?_,h2.sublist (List.filter_sublist ..),λ p hp=>(List.mem_filter.1 hp).1⟩)
     show (rest.filter _).length<rest.length
     rw [hr,List.filter_cons_of_neg (by simp [o1])]
     have:=List.length_filter_le (λ p=>!(decide (p∈one))) rs
     rw [List.length_cons];omega
   ·obtain ⟨y1,y2,y3⟩:=hy
    refine Tot.bind (Pa hone) λ s hs=>Tot.bindC (Bf (by simp;omega)) (Tot.pure ⟨y.length,y1,rfl,⟨y2,show y.length<=100000 by omega,λ p hp=>h3.nr p (y3 p hp)⟩,by simp;omega⟩)
end Go.AI
end
section
namespace Go.AI
def bxG:List Aa:=(List.range 60).flatMap λ (y:Nat)=>(List.range 60).map λ (x:Nat)=>(⟨(x:Int),(y:Int)⟩:Aa)
theorem Jel:bxG.length=3600:=by kernel_rfl
theorem Jem {p:Aa} (h:Bx p):p∈bxG:=by
 obtain ⟨X,Y⟩:=p
 unfold Bx at h
 simp only at h
 unfold bxG
 rw [List.mem_flatMap]
 refine ⟨Y.toNat,List.mem_range.2 (by omega),Jle.2 ⟨X.toNat,List.mem_range.2 (by omega),?_⟩⟩
 rw [Int.toNat_of_nonneg (by omega),Int.toNat_of_nonneg (by omega)]
theorem Jen {r:List Aa} (h:Inc r) (hb:∀ p∈r,Bx p):PtL 3600 r:=by
 refine ⟨?_,λ p hp=>(hb p hp).nr⟩
 have:=SN h.nodup λ p hp=>Jem (hb p hp)
 rwa [Jel] at this
theorem XM {f:Aw} (hv:Lm f=true):Tot (λ n=>C6 n f) (PtL 3600):=(JbB hv).mono λ r hr=>Jen hr.1 λ p hp=>JiH hv ((hr.2 p).1 hp)
theorem VF {l:List Aa} (hl:l.length<=1000000) (w h:Int):Tot (λ n=>J2 n l w h) (λ _=>True):=by
 refine Tot.bind (R:=λ _=>True) ?_ λ y _=>by
  cases y with
  | inl _=>exact Tot.pure trivial
  | inr _=>exact Tot.pure trivial
 refine Tot.upto l.length (λ i (x:Int)=>x=(i:Int)) (λ i x hi hx=>?_) (λ x hx=>?_) _ rfl
 ·subst hx
  unfold En
  have g:∀ (c:Bool) (P:Nat->Aa->Option (Int⊕(Unit⊕Bool))) (Q:Int⊕(Unit⊕Bool)->Prop),(∀ x,Tot (λ n=>P n x) Q)->Tot (λ n=>(if c=true then idx l (i:Int) else some default).bind (P n)) Q:=λ c P Q hP=>Tot.guard (R:=λ _=>True) (λ _=>Tot.all (λ n=>AG hi) trivial) λ x _=>hP x
  refine Tot.iteT (E7 hi) (Tot.bindC (AG hi) (g _ _ _ λ x1=>g _ _ _ λ x2=>g _ _ _ λ x3=>Tot.ite (λ _=>Tot.pure trivial) λ _=>Tot.pure (Aq (by omega))))
 ·subst hx
  unfold En
  exact Tot.iteF (Da _) (Tot.pure trivial)
structure WQ (p:Ae):Prop where
 w:4<=p.W/\p.W<=60
 h:3<=p.H/\p.H<=60
 g:2<=p.Gap/\p.Gap<=6
 f:p.F.length<=8
 v:∀ x∈p.F,Lm x=true
theorem WR {p:Ae} (hs:VD p):Tot (λ n=>E0 n p) (λ b=>b=true->WQ p):=by
 have hf:=hs.f
 unfold E0
 refine Tot.ite (λ _=>Tot.pure λ h=>by cases h) λ hc=>?_
 simp only [Jlj,decide_eq_false_iff_not] at hc
 refine Tot.bind (R:=λ y:Unit⊕Bool=>(y=.inl ()->∀ x∈p.F,Lm x=true)/\y≠.inr true) ?_ λ y hy=>by
  cases y with
  | inl _=>exact Tot.pure λ _=>⟨by omega,by omega,by omega,by omega,hy.1 rfl⟩
  | inr b=>exact Tot.pure λ h=>absurd (by rw [h]) hy.2
 refine Tot.upto p.F.length (λ i (x:Int)=>x=(i:Int)/\∀ f∈p.F.take i,Lm f=true) ?_ ?_ _ ⟨rfl,by simp⟩
 ·rintro i _ hi ⟨rfl,hv⟩
  unfold Ff
  have hpl:=hs.p _ (Jk9 hi)
  refine Tot.iteT (E7 hi) (Tot.bindC (AG hi) (Tot.bindE (WM _ (by omega)) ?_))
  cases hb:Lm p.F[i] with
  | false=>exact Tot.gF rfl (Tot.gF rfl (Tot.gF rfl (Tot.iteT rfl (Tot.pure ⟨λ h=>(by cases h),λ h=>(by cases h)⟩))))
  | true=>
   refine Tot.gE rfl (Ev.all λ n=>AG hi) (Tot.gT rfl (XM hb) λ r hr=>Tot.gT rfl (VF (by have:=hr.len;omega) _ _) λ b _=>Tot.ite (λ _=>Tot.pure ⟨λ h=>(by cases h),λ h=>(by cases h)⟩) λ _=>Tot.pure ⟨Aq (by omega),λ f hf=>?_⟩)
   rw [List.take_succ_eq_append_getElem hi,List.mem_append,List.mem_singleton] at hf
   rcases hf with hf|rfl
   ·exact hv f hf
   ·exact hb
 ·rintro _ ⟨rfl,hv⟩
  unfold Ff
  rw [List.take_length] at hv
  exact Tot.iteF (Da _) (Tot.pure ⟨λ _=>hv,λ h=>(by cases h)⟩)
structure JbC (k:Nat) (l:List (List Aa)):Prop where
 len:l.length=k
 pt:∀ r∈l,PtL 3600 r
theorem JbC.at {k:Nat} {l:List (List Aa)} (h:JbC k l) {i:Nat} (hi:i<l.length):PtL 1000000 l[i]:=by
 have:=h.pt _ (Jk9 hi)
 exact ⟨by have:=this.len;omega,this.nr⟩
theorem KC {p:Ae} (hv:WQ p):Tot (λ n=>Fx n p) (JbC p.F.length):=by
 have hf:=hv.f
 refine Tot.bind (R:=JbC p.F.length) ?_ λ l hl=>Tot.pure hl
 refine Tot.upto p.F.length (λ i (x:List (List Aa)×Int)=>x.2=(i:Int)/\JbC i x.1) ?_ ?_ _ ⟨rfl,rfl,by simp⟩
 ·rintro i ⟨l,x⟩ hi ⟨h1,h2⟩
  simp only at h1 h2
  subst h1
  unfold Eo
  have hll:=h2.len
  refine Tot.iteT (E7 hi) (Tot.bindC (AG hi) (Tot.bind (XM (hv.v _ (Jk9 hi))) λ r hr=>Tot.bindC (Bf (by simp;omega)) (Tot.pure ⟨Aq (by omega),by simp;exact hll,λ q hq=>?_⟩)))
  rw [List.mem_append,List.mem_singleton] at hq
  rcases hq with hq|rfl
  ·exact h2.pt q hq
  ·exact hr
 ·rintro ⟨l,x⟩ ⟨h1,h2⟩
  simp only at h1 h2
  subst h1
  unfold Eo
  exact Tot.iteF (Da _) (Tot.pure h2)
theorem JbD {p:Ae} (hb:Ev (λ n=>E0 n p) true) (hv:WQ p):Tot (λ n=>GH n p) (λ d=>d.length=p.F.length/\∀ r∈d,r.length=p.F.length):=by
 have hf:=hv.f
 refine Tot.bindE hb (Tot.iteF rfl (Tot.bind (KC hv) λ l hl=>?_))
 have hll:=hl.len
 refine Tot.bind (R:=λ d=>d.length=p.F.length/\∀ r∈d,r.length=p.F.length) ?_ λ d hd=>Tot.pure hd
 refine Tot.upto l.length (λ i (x:List (List Int)×Int)=>x.2=(i:Int)/\x.1.length=i/\∀ r∈x.1,r.length=p.F.length) ?_ ?_ _ ⟨rfl,rfl,by simp⟩
 ·rintro i ⟨d,x⟩ hi ⟨h1,h2,h3⟩
  simp only at h1 h2 h3
  subst h1
  unfold C1
  refine Tot.iteT (E7 hi) (Tot.bind (R:=λ r=>r.length=p.F.length) ?_ λ r hr=>Tot.bindC (Bf (by simp;omega)) (Tot.pure ⟨Aq (by omega),by simp;exact h2,λ q hq=>?_⟩))
  ·refine Tot.upto l.length (λ k (x:List Int×Int)=>x.2=(k:Int)/\x.1.length=k) ?_ ?_ _ ⟨rfl,rfl⟩
   ·rintro k ⟨r,x⟩ hk ⟨g1,g2⟩
    simp only at g1 g2
    subst g1
    unfold C0
    exact Tot.iteT (E7 hk) (Tot.bindC (AG hi) (Tot.bindC (AG hk) (Tot.bind (No (hl.at hi) (hl.at hk)) λ d _=>Tot.bindC (Bf (by simp;omega)) (Tot.pure ⟨Aq (by omega),by simp;exact g2⟩))))
   ·rintro ⟨r,x⟩ ⟨g1,g2⟩
    simp only at g1 g2
    subst g1
    unfold C0
    exact Tot.iteF (Da _) (Tot.pure (by show r.length=_;omega))
  ·rw [List.mem_append,List.mem_singleton] at hq
   rcases hq with hq|rfl
   ·exact h3 q hq
   ·exact hr
 ·rintro ⟨d,x⟩ ⟨h1,h2,h3⟩
  simp only at h1 h2 h3
  subst h1
  unfold C1
  exact Tot.iteF (Da _) (Tot.pure ⟨by show d.length=_;omega,h3⟩)
end Go.AI
end
section
namespace Go.AI
theorem WS {p:Ae} (hs:VD p):Tot (λ n=>LY n p) (λ r=>r.E=0->WQ p):=by
 obtain ⟨b,hb,hbe⟩:=WR hs
 refine Tot.bindE hbe (Tot.ite (λ _=>Tot.pure λ h=>by cases h) λ hc=>?_)
 have hbt:b=true:=by simpa using hc
 subst hbt
 have hv:=hb rfl
 have hf:=hv.f
 refine Tot.bind (KC hv) λ l hl=>Tot.bind (JbD hbe hv) λ d hd=>?_
 have hll:=hl.len
 have hfin:Tot (λ n=>(whl (λ (x:Int)=>Dv n p l d x) n 0)) (λ _=>True):=by
  refine Tot.upto l.length (λ i (x:Int)=>x=(i:Int)) (λ i x hi hx=>?_) (λ x hx=>?_) _ rfl
  ·subst hx
   unfold Dv
   refine Tot.iteT (E7 hi) (Tot.bind (R:=λ _=>True) ?_ λ y _=>by
    cases y with
    | inl _=>exact Tot.pure (Aq (by omega))
    | inr _=>exact Tot.pure trivial)
   refine Tot.whl (λ m (x:Int)=>∃ j:Nat,x=(j:Int)/\m=100-j) ?_ (100-(i+1)) _ ⟨i+1,Aq (by omega),rfl⟩
   rintro m _ ⟨j,rfl,rfl⟩
   unfold HH
   refine Tot.ite (λ h=>?_) λ _=>Tot.pure trivial
   rw [decide_eq_true_eq] at h
   have hi2:i<d.length:=by omega
   have hr:=hd.2 _ (Jk9 hi2)
   exact Tot.bindC (AG hi2) (Tot.bindC (AG (show j<d[i].length by omega)) (Tot.ite (λ _=>Tot.pure trivial) λ _=>Tot.pure ⟨100-(j+1),by omega,j+1,Aq (by omega),rfl⟩))
  ·subst hx
   unfold Dv
   exact Tot.iteF (Da _) (Tot.pure trivial)
 refine Tot.bind (R:=λ _=>True) ?_ λ y _=>by
  cases y with
  | inr r=>exact Tot.pure λ _=>hv
  | inl _=>
   refine Tot.bind hfin λ y _=>?_
   cases y with
   | inr r=>exact Tot.pure λ _=>hv
   | inl _=>exact Tot.pure λ _=>hv
 refine Tot.upto l.length (λ i (x:Int)=>x=(i:Int)) (λ i x hi hx=>?_) (λ x hx=>?_) _ rfl
 ·subst hx
  unfold Fg
  have hp:=hl.pt _ (Jk9 hi)
  exact Tot.iteT (E7 hi) (Tot.bindC (AG hi) (Tot.bind (VE ⟨by have:=hp.len;omega,hp.nr⟩ _) λ c _=>Tot.ite (λ _=>Tot.pure trivial) λ _=>Tot.pure (Aq (by omega))))
 ·subst hx
  unfold Fg
  exact Tot.iteF (Da _) (Tot.pure trivial)
def LbP (p:Aa):Prop:=(0<=p.X/\p.X<=60)/\0<=p.Y/\p.Y<=60
theorem KD {i:Nat} (hi:i<8) {at_:Aa} (ha:LbP at_):Tot (λ n=>Cl n (i:Int) at_) (PtL 1000000):=by
 unfold LbP at ha
 have hc:Tot (λ n=>E5 n (i:Int)) (λ l=>l.length=2):=by
  unfold E5
  exact Tot.bindC (AG (show i<([1,3,9,25,17,11,27,19]:List Int).length from hi)) (Tot.pure rfl)
 refine Tot.bind hc λ c hc=>Tot.bind (R:=PtL 1000000) ?_ λ l hl=>Tot.pure hl
 refine Tot.upto 3 (λ r (x:List Aa×Int)=>x.2=(r:Int)/\PtL (4*r) x.1) ?_ ?_ _ ⟨rfl,by simp,by simp⟩
 ·rintro r ⟨l,x⟩ hr ⟨h1,h2⟩
  simp only at h1 h2
  subst h1
  unfold Cz
  refine Tot.iteT (decide_eq_true (show (r:Int)<3 by omega)) (Tot.bind (R:=PtL (4*(r+1))) ?_ λ l hl=>Tot.pure ⟨Aq (by omega),hl⟩)
  refine Tot.upto 4 (λ k (x:List Aa×Int)=>x.2=(k:Int)/\PtL (4*r+k) x.1) ?_ ?_ _ ⟨rfl,h2⟩
  ·rintro k ⟨l,x⟩ hk ⟨g1,g2⟩
   simp only at g1 g2
   subst g1
   unfold Cy
   have hll:=g2.len
   have e1:∃ j:Nat,Dt .i64 (k:Int) 2=(j:Int)/\j<2:=by
    have:k=0\/k=1\/k=2\/k=3:=by omega
    rcases this with rfl|rfl|rfl|rfl
    ·exact ⟨0,rfl,by omega⟩
    ·exact ⟨0,rfl,by omega⟩
    ·exact ⟨1,rfl,by omega⟩
    ·exact ⟨1,rfl,by omega⟩
   obtain ⟨j,hj,hj2⟩:=e1
   have e2:0<=Ai .i64 (BS .i64 3 (Ah (k:Int) 2)) (r:Int):=by
    obtain ⟨_,b2,b3⟩:=BK (a:=(k:Int)) (m:=2) (by omega) (by omega)
    rw [FV (by omega) (by omega),DY (by omega) (by omega)];omega
   rw [hj]
   refine Tot.iteT (decide_eq_true (show (k:Int)<4 by omega)) (Tot.bindC (AG (show j<c.length by omega)) (Tot.bindC (DZ (decide_eq_true e2)) (Tot.ite (λ _=>?_) λ _=>Tot.pure ⟨Aq (by omega),by show l.length<=4*r+(k+1);omega,g2.nr⟩)))
   refine Tot.bindC (Bf (by simp;omega)) (Tot.pure ⟨Aq (by omega),by simp;omega,λ q hq=>?_⟩)
   rw [List.mem_append,List.mem_singleton] at hq
   rcases hq with hq|rfl
   ·exact g2.nr q hq
   ·unfold Nr
    simp only
    rw [FV (a:=2) (by omega) (by omega),FV (a:=3) (by omega) (by omega),DY (by omega) (by omega),DY (by omega) (by omega)]
    omega
  ·rintro ⟨l,x⟩ ⟨g1,g2⟩
   simp only at g1 g2
   subst g1
   unfold Cy
   exact Tot.iteF rfl (Tot.pure g2)
 ·rintro ⟨l,x⟩ ⟨h1,h2⟩
  simp only at h1 h2
  subst h1
  unfold Cz
  exact Tot.iteF rfl (Tot.pure ⟨by have:=h2.len;show l.length<=_;omega,h2.nr⟩)
theorem Jeo {p:Ae} (hv:WQ p) {i:Nat} (hi:i<p.F.length) (a:Aa):Tot (λ n=>NP n p (i:Int) a) (λ _=>True):=by
 have hf:=hv.f
 refine Tot.ite (λ _=>Tot.pure trivial) λ hc=>?_
 simp only [Jlj,decide_eq_false_iff_not] at hc
 have ha:LbP a:=by unfold LbP;omega
 refine Tot.bind (KC hv) λ l hl=>Tot.bind (KD (by omega) ha) λ q hq=>?_
 have hll:=hl.len
 refine Tot.bind (R:=λ _=>True) ?_ λ y _=>by
  cases y with
  | inr b=>exact Tot.pure trivial
  | inl _=>exact Tot.bindC (AG (show i<l.length by omega)) (Tot.bind (No hq (hl.at _)) λ d _=>Tot.pure trivial)
 refine Tot.upto l.length (λ k (x:Int)=>x=(k:Int)) (λ k x hk hx=>?_) (λ x hx=>?_) _ rfl
 ·subst hx
  unfold Gg
  exact Tot.iteT (E7 hk) (Tot.bindC (AG hk) (Tot.bind (No hq (hl.at hk)) λ d _=>Tot.ite (λ _=>Tot.pure trivial) λ _=>Tot.pure (Aq (by omega))))
 ·subst hx
  unfold Gg
  exact Tot.iteF (Da _) (Tot.pure trivial)
structure LbL (l:List Aa):Prop where
 len:l.length<=100000
 p:∀ q∈l,LbP q
theorem JbE {p:Ae} (hv:WQ p) {i:Nat} (hi:i<p.F.length):Tot (λ n=>FL n p (i:Int)) LbL:=by
 have hw:=hv.w
 have hh:=hv.h
 refine Tot.bind (R:=LbL) ?_ λ l hl=>Tot.pure hl
 refine Tot.whl (λ m (x:List Aa×Int)=>∃ y:Nat,x.2=(y:Int)/\(m=100-y/\y<=60)/\x.1.length<=100*y/\∀ q∈x.1,LbP q) ?_ 100 _ ⟨0,rfl,⟨rfl,by omega⟩,by simp,by simp⟩
 rintro m ⟨l,x⟩ ⟨y,h1,⟨rfl,hy⟩,h2,h3⟩
 simp only at h1 h2 h3
 subst h1
 unfold DO
 have e:BS .i64 3 (Ai .i64 (y:Int) 1)=3*((y:Int)+1):=by rw [DY (by omega) (by omega),FV (by omega) (by omega)]
 rw [e]
 refine Tot.ite (λ hc=>?_) λ _=>Tot.pure ⟨by show l.length<=_;omega,h3⟩
 rw [decide_eq_true_eq] at hc
 refine Tot.bind (R:=λ l:List Aa=>l.length<=100*(y+1)/\∀ q∈l,LbP q) ?_ λ l hl=>Tot.pure ⟨100-(y+1),by omega,y+1,Aq (by omega),⟨rfl,by omega⟩,hl⟩
 refine Tot.whl (λ m (z:List Aa×Int)=>∃ x:Nat,z.2=(x:Int)/\(m=100-x/\x<=60)/\z.1.length<=100*y+x/\∀ q∈z.1,LbP q) ?_ 100 _ ⟨0,rfl,⟨rfl,by omega⟩,h2,h3⟩
 rintro m ⟨l,z⟩ ⟨x,g1,⟨rfl,hx⟩,g2,g3⟩
 simp only at g1 g2 g3
 subst g1
 unfold DN
 have e:BS .i64 2 (Ai .i64 (x:Int) 2)=2*((x:Int)+2):=by rw [DY (by omega) (by omega),FV (by omega) (by omega)]
 rw [e]
 refine Tot.ite (λ hc'=>?_) λ _=>Tot.pure ⟨by show l.length<=_;omega,g3⟩
 rw [decide_eq_true_eq] at hc'
 refine Tot.bind (Jeo hv hi _) λ b _=>Tot.ite (λ _=>?_) λ _=>Tot.pure ⟨100-(x+1),by omega,x+1,Aq (by omega),⟨rfl,by omega⟩,by show l.length<=_;omega,g3⟩
 refine Tot.bindC (Bf (by simp;omega)) (Tot.pure ⟨100-(x+1),by omega,x+1,Aq (by omega),⟨rfl,by omega⟩,by simp;omega,λ q hq=>?_⟩)
 rw [List.mem_append,List.mem_singleton] at hq
 rcases hq with hq|rfl
 ·exact g3 q hq
 ·unfold LbP;simp only;omega
structure LbA (a:List (List Aa)):Prop where
 len:a.length<=8
 l:∀ r∈a,LbL r
theorem LbP.d {l:List Aa} (h:∀ q∈l,LbP q) {i:Nat} (hi:i<l.length):LbP l[i]:=h _ (Jk9 hi)
theorem Zc {p:Ae} {a:List (List Aa)} (ha:LbA a):∀ (d:Nat) (l:List Aa),l.length<=a.length->a.length-l.length<d->(∀ q∈l,LbP q)->Tot (λ n=>JB (λ _ _ _=>none) (A4 n) d p l a) (λ _=>True):=by
 have hal:=ha.len
 intro d
 induction d with
 | zero=>intro l _ h;omega
 | succ d ih=>
  intro l hl hd hp
  show Tot (λ n=>A4 n (JB (λ _ _ _=>none) (A4 n) d) p l a) _
  unfold A4
  refine Tot.ite (λ _=>Tot.pure trivial) λ hne=>?_
  rw [beq_eq_false_iff_ne] at hne
  have hlt:l.length<a.length:=by omega
  have hr:=ha.l _ (Jk9 hlt)
  have hrl:=hr.len
  refine Tot.bind (R:=λ _=>True) ?_ λ y _=>by
   cases y with
   | inl _=>exact Tot.pure trivial
   | inr _=>exact Tot.pure trivial
  refine Tot.upto (body:=λ n x=>BI n (JB (λ _ _ _=>none) (A4 n) d) p l a x) a[l.length].length (λ k (x:Int)=>x=(k:Int)) (λ k x hk hx=>?_) (λ x hx=>?_) _ rfl
  ·subst hx
   unfold BI
   have hq:=LbP.d hr.p hk
   refine Tot.bindC (AG hlt) (Tot.iteT (E7 hk) (Tot.bind (R:=λ _=>True) ?_ λ b _=>Tot.ite (λ _=>Tot.pure (Aq (by omega))) λ _=>?_))
   ·refine Tot.upto l.length (λ j (x:Bool×Int)=>x.2=(j:Int)) ?_ ?_ _ rfl
    ·rintro j ⟨f,x⟩ hj h1
     simp only at h1
     subst h1
     unfold B4
     have hj':=LbP.d hp hj
     refine Tot.iteT (E7 hj) ?_
     cases f with
     | false=>exact Tot.gF rfl (Tot.gF rfl (Tot.gF rfl (Tot.gF rfl (Tot.gF rfl (Tot.gF rfl (Tot.pure (Aq (by omega))))))))
     | true=>exact Tot.gE rfl (Ev.all λ n=>AG hlt) (Tot.gE rfl (Ev.all λ n=>AG hk) (Tot.gT rfl (KD (show l.length<8 by omega) hq) λ r1 hr1=>Tot.gE rfl (Ev.all λ n=>AG hj) (Tot.gT rfl (KD (show j<8 by omega) hj') λ r2 hr2=>Tot.gT rfl (No hr1 hr2) λ d _=>Tot.pure (Aq (by omega)))))
    ·rintro ⟨f,x⟩ h1
     simp only at h1
     subst h1
     unfold B4
     exact Tot.iteF (Da _) (Tot.pure trivial)
   ·refine Tot.bindC (Bf (by simp;omega)) (Tot.bindC (AG hlt) (Tot.bindC (AG hk) (Tot.bindC (Bf (by simp;omega)) (Tot.bind (ih _ (by simp;omega) (by simp;omega) λ q hq'=>?_) λ r _=>Tot.ite (λ _=>Tot.pure trivial) λ _=>Tot.pure (Aq (by omega))))))
    rw [List.nil_append,List.mem_append,List.mem_singleton] at hq'
    rcases hq' with hq'|rfl
    ·exact hp q hq'
    ·exact hq
  ·subst hx
   unfold BI
   exact Tot.bindC (AG hlt) (Tot.iteF (Da _) (Tot.pure trivial))
theorem Zd (n:Nat):∀ (x y:Nat),x<=y->∀ a b c,Le (JB (λ _ _ _=>none) (A4 n) x a b c) (JB (λ _ _ _=>none) (A4 n) y a b c):=by
 intro x
 induction x with
 | zero=>intro y _ _ _ _ z hz;cases hz
 | succ x ih=>
  intro y hy _ _ _
  cases y with
  | zero=>omega
  | succ y=>exact Mm (Jlb n) (ih y (by omega)) _ _ _
theorem WT {p:Ae} {a:List (List Aa)} (ha:LbA a) {l:List Aa} (hl:l.length<=a.length) (hp:∀ q∈l,LbP q):Tot (λ n=>HI n p l a) (λ _=>True):=by
 obtain ⟨z,hz,N,hN⟩:=Zc (p:=p) ha (a.length+1) l hl (by omega) hp
 exact ⟨z,hz,max N (a.length+1),λ m hm=>Zd m (a.length+1) m (by omega) _ _ _ _ (hN m (by omega))⟩
theorem WU {p:Ae} {a:List (List Aa)} (ha:LbA a):Tot (λ n=>GK n p a) (λ _=>True):=by
 have hal:=ha.len
 have hB:Tot (λ n=>B5 n (JB (λ _ _=>none) (B5 n) (n-1)) p a) (λ _=>True):=by
  unfold B5
  refine Tot.ite (λ _=>Tot.pure trivial) λ hne=>?_
  rw [beq_eq_false_iff_ne] at hne
  have hlt:0<a.length:=by omega
  have hr:=ha.l _ (Jk9 hlt)
  have hrl:=hr.len
  have h0:idx a 0=some a[0]:=AG hlt
  refine Tot.bind (R:=λ _=>True) ?_ λ y _=>by
   cases y with
   | inl _=>exact Tot.pure trivial
   | inr _=>exact Tot.pure trivial
  refine Tot.upto a[0].length (λ k (x:Int)=>x=(k:Int)) (λ k x hk hx=>?_) (λ x hx=>?_) _ rfl
  ·subst hx
   unfold C2
   have hq:=LbP.d hr.p hk
   refine Tot.bindC h0 (Tot.iteT (E7 hk) (Tot.bind (R:=λ _=>True) ?_ λ b _=>Tot.ite (λ _=>Tot.pure (Aq (by omega))) λ _=>?_))
   ·refine Tot.upto 0 (λ j (x:Bool×Int)=>x.2=0) (λ _ _ h _=>by omega) ?_ _ rfl
    rintro ⟨f,x⟩ h1
    simp only at h1
    subst h1
    unfold Es
    exact Tot.iteF rfl (Tot.pure trivial)
   ·refine Tot.bindC (Bf (by simp)) (Tot.bindC h0 (Tot.bindC (AG hk) (Tot.bindC (Bf (by simp)) (Tot.bind (WT ha (by simp;omega) λ q hq'=>?_) λ r _=>Tot.ite (λ _=>Tot.pure trivial) λ _=>Tot.pure (Aq (by omega))))))
    simp only [List.nil_append,List.mem_singleton] at hq'
    subst hq'
    exact hq
  ·subst hx
   unfold C2
   exact Tot.bindC h0 (Tot.iteF (Da _) (Tot.pure trivial))
 obtain ⟨z,hz,N,hN⟩:=hB
 refine ⟨z,hz,max N 1,λ m hm=>?_⟩
 obtain ⟨k,rfl⟩:∃ k,m=k+1:=⟨m-1,by omega⟩
 exact hN (k+1) (by omega)
theorem JbF {p:Ae} (hv:WQ p):Tot (λ n=>LZ n p) (λ _=>True):=by
 have hf:=hv.f
 refine Tot.bind (R:=λ _=>True) ?_ λ y _=>by
  cases y with
  | inl _=>exact Tot.pure trivial
  | inr _=>exact Tot.pure trivial
 refine Tot.upto p.F.length (λ i (x:List (List Aa)×List Aa×Int)=>x.2.2=(i:Int)/\x.1.length=i/\∀ r∈x.1,LbL r) ?_ ?_ _ ⟨rfl,rfl,by simp⟩
 ·rintro i ⟨a,b,x⟩ hi ⟨h1,h2,h3⟩
  simp only at h1 h2 h3
  subst h1
  unfold Fh
  refine Tot.iteT (E7 hi) (Tot.bind (JbE hv hi) λ r hr=>Tot.bindC (Bf (by simp;omega)) ?_)
  have hm:∀ q∈a++[r],LbL q:=λ q hq=>by
   rw [List.mem_append,List.mem_singleton] at hq
   rcases hq with hq|rfl
   ·exact h3 q hq
   ·exact hr
  exact Tot.bind (WU ⟨by simp;omega,hm⟩) λ s _=>Tot.ite (λ _=>Tot.pure trivial) λ _=>Tot.pure ⟨Aq (by omega),by simp;exact h2,hm⟩
 ·rintro ⟨a,b,x⟩ ⟨h1,h2,h3⟩
  simp only at h1 h2 h3
  subst h1
  unfold Fh
  exact Tot.iteF (Da _) (Tot.pure trivial)
theorem SO {p:Ae} (hs:VD p):Tot (λ n=>DT n p) (λ _=>True):=by
 refine Tot.bind (WS hs) λ r hr=>Tot.ite (λ _=>Tot.pure trivial) λ hc=>?_
 exact Tot.bind (JbF (hr (by simpa using hc))) λ _ _=>Tot.pure trivial
end Go.AI
end
section
namespace Go.AI
def Np (s:List UInt8) (c:Ac):List UInt8:=(s.take c.At.toNat++c.Put)++s.drop (c.At+c.Cut).toNat
def PD (s:List UInt8) (c:Ac):Bool:=decide ((0<=c.At/\0<=c.Cut)/\c.At+c.Cut<=(s.length:Int))
def Nq (x:Af) (s:List UInt8):Af:={ Kind:=x.Kind,Level:=x.Level,Text:=s,Rows:=x.Rows,F:=x.F,Pic:=x.Pic,Page:=x.Page }
def Ln (b:List Af) (i:Int) (s:List UInt8):List Af:=b.set i.toNat (Nq (CP b i) s)
def apB (b:List Af) (c:Ac):Bool:=wdB b c.Block&&(PD (CP b c.Block).Text c&&clS (Np (CP b c.Block).Text c))
def apS (b:List Af) (c:Ac):List Af×Int:=if apB b c=true then (Ln b c.Block (Np (CP b c.Block).Text c),0) else ([],320)
theorem JbG (n:Nat) (b:List Af) (hb:b.length<=1000000):Gx n b=some b:=by
 refine Jaw (Jfz b) λ q hq=>?_
 cases q with
 | true=>
  have:b=[]:=Classical.byContradiction λ h=>by have:=hq h;cases this
  subst this;rfl
 | false=>
  rw [if_neg (by simp),Bf (by simp;omega)]
  rfl
theorem XN {s:List UInt8} {c:Ac} (hA:Okc 1000000000000 c) (hs:s.length<=1000000):((((decide (c.At<0))||(decide (c.Cut<0)))||(decide (c.At>((s.length:Nat):Int))))||(decide (c.Cut>AT .i64 ((s.length:Nat):Int) c.At)))=!PD s c:=by
 unfold Okc at hA
 rw [CB (by omega) (by omega)]
 unfold PD
 rw [Bool.eq_iff_iff]
 simp only [JlC,decide_eq_true_eq,Bool.not_eq_true',decide_eq_false_iff_not]
 omega
theorem XO {s:List UInt8} {c:Ac} (h:PD s c=true):((Np s c).length:Int)=s.length+c.Put.length-c.Cut:=by
 unfold PD at h
 rw [decide_eq_true_eq] at h
 unfold Np
 simp only [List.length_append,List.length_take,List.length_drop]
 omega
theorem JbH {s:List UInt8} {c:Ac} {ζ:Type} {k:List UInt8->Option ζ} (hA:Okc 1000000000000 c) (hs:s.length<=1000000) (h:PD s c=true) :
  ((sub s 0 c.At).bind λ s1=>(cat s1 c.Put).bind λ s2=>(sub s (Ai .i64 c.At c.Cut) ((s.length:Nat):Int)).bind λ s3=>(cat s2 s3).bind k)=k (Np s c):=by
 unfold PD at h
 rw [decide_eq_true_eq] at h
 unfold Okc at hA
 rw [DY (by omega) (by omega),Iu (by omega) (by omega) (by omega),Jk3,TP (by simp only [List.length_drop,List.length_take];omega),Jk3,Iu (by omega) (by omega) (by omega),Jk3,TP (by simp only [List.length_append,List.length_drop,List.length_take];omega),Jk3]
 congr 1
 unfold Np
 simp
theorem JbI (n:Nat) {s:List UInt8} {c:Ac} (hA:Okc 1000000000000 c) (hs:s.length<=1000000):KP n s c=some (if PD s c=true then (Np s c,true) else ([],false)):=by
 unfold KP
 rw [XN hA hs]
 cases h:PD s c with
 | false=>rfl
 | true=>
  rw [if_neg (by simp),JbH (k:=λ s13=>some (s13,true)) hA hs h]
  rfl
theorem XP {b:List Af} {i:Int} (h:wdB b i=true) (x:Af):put b i x=some (b.set i.toNat x):=by
 have:=(KR.1 h).1
 exact JjZ this.1 this.2
theorem TW {b:List Af} {c:Ac} (hb:BkT b) (hA:Okc 1000000000000 c) (hi:(0<=c.Block/\c.Block<(b.length:Int))) {w:Bool} (hw:w=wdK (CP b c.Block)):Ev (λ n=>Df n b c (CP b c.Block) w) (apS b c):=by
 have hT:=hb.blk c.Block
 have hlen:=hb.len
 unfold Df apS apB
 have e:wdB b c.Block=w:=by
  unfold wdB
  rw [decide_eq_true hi.1,decide_eq_true hi.2,hw];rfl
 rw [e]
 refine Tot.ev (Tot.ite (λ h=>?_) λ h=>Tot.pure (by rw [h];rfl))
 rw [XN hA (by omega),h,Bool.true_and]
 cases hf:PD (CP b c.Block).Text c with
 | false=>exact Tot.iteT rfl (Tot.pure rfl)
 | true=>
  refine Tot.iteF rfl ?_
  have hl:=XO hf
  unfold Okc at hA
  refine Tot.congr (f:=λ n=>(HY n (Np (CP b c.Block).Text c)).bind λ r4=>if (!r4)=true then some ([],320) else (Gx n b).bind λ r5=>(idx r5 c.Block).bind λ _=>(put r5 c.Block (Nq (CP b c.Block) (Np (CP b c.Block).Text c))).bind λ l2=>some (l2,0)) ?_ (λ n=>JbH (k:=λ s4=>(HY n s4).bind λ r4=>if (!r4)=true then some ([],320) else (Gx n b).bind λ r5=>(idx r5 c.Block).bind λ _=>(put r5 c.Block (Nq (CP b c.Block) s4)).bind λ l2=>some (l2,0)) hA (by omega) hf)
  refine Tot.bindE (Jbh _ (by omega)) ?_
  cases hc:clS (Np (CP b c.Block).Text c) with
  | false=>exact Tot.iteT rfl (Tot.pure rfl)
  | true=>
   exact Tot.iteF rfl (Tot.bindA (λ n=>JbG n b (by omega)) (Tot.bindC (KT hi.1 hi.2) (Tot.bindC (XP (by rw [e,h]) _) (Tot.pure rfl))))
theorem Rz {b:List Af} {c:Ac} (hb:BkT b) (hA:Okc 1000000000000 c):Ev (λ n=>Gn n b c) (apS b c):=by
 unfold Gn
 refine Tot.ev (Tot.ite (λ h=>Tot.pure ?_) λ h=>?_)
 ·simp only [JlC,decide_eq_true_eq] at h
  have e:wdB b c.Block=false:=by
   rw [← Bool.not_eq_true,KR]
   omega
  unfold apS apB
  rw [e];rfl
 ·simp only [Jlj,decide_eq_false_iff_not] at h
  have hi:0<=c.Block/\c.Block<(b.length:Int):=by omega
  have hK:wdK (CP b c.Block)=(((CP b c.Block).Kind==1||(CP b c.Block).Kind==2)||(CP b c.Block).Kind==4):=rfl
  refine Tot.bindC (KT hi.1 hi.2) (Tot.ite (λ h1=>?_) λ h1=>Tot.ite (λ h2=>?_) λ h2=>?_)
  ·exact (TW hb hA hi (by rw [hK,h1];rfl)).tot rfl
  ·exact (TW hb hA hi (by rw [hK,h1,h2];rfl)).tot rfl
  ·exact (TW hb hA hi (by rw [hK,h1,h2];rfl)).tot rfl
theorem Ze {b:List Af} {c:Ac} (hb:BkT b) (hA:Okc 1000000000000 c):Ev (λ n=>I0 n b c) (apS b c):=by
 have hT:=hb.blk c.Block
 have hlen:=hb.len
 unfold I0 apS apB
 refine Tot.ev (Tot.bindA (λ n=>SL n b _) (Tot.ite (λ h=>Tot.pure ?_) λ h=>?_))
 ·rw [Bool.not_eq_true'] at h
  rw [h];rfl
 ·have h:wdB b c.Block=true:=by simpa using h
  have hi:=(KR.1 h).1
  rw [h,Bool.true_and]
  refine Tot.bindC (KT hi.1 hi.2) (Tot.bindA (λ n=>JbI n hA (by omega)) ?_)
  cases hf:PD (CP b c.Block).Text c with
  | false=>exact Tot.gF rfl (Tot.iteT rfl (Tot.pure rfl))
  | true=>
   have hl:=XO hf
   unfold Okc at hA
   refine Tot.gE rfl (Iv _ ?_) ?_
   ·show (Np _ c).length<_
    omega
   rw [if_pos rfl]
   cases hc:clS (Np (CP b c.Block).Text c) with
   | false=>exact Tot.iteT (by simp [hc]) (Tot.pure rfl)
   | true=>
    refine Tot.iteF (by simp [hc]) (Tot.bindC (Bf (by simp;omega)) ?_)
    rw [List.nil_append]
    exact Tot.bindC (KT hi.1 hi.2) (Tot.bindC (XP h _) (Tot.pure rfl))
theorem KE (b:List Af) (i:Int) (s:List UInt8):(Ln b i s).length=b.length:=by unfold Ln;simp
theorem JbJ {b:List Af} {i:Int} {s:List UInt8} {j:Nat}:(Ln b i s)[j]? = if i.toNat=j/\j<b.length then some (Nq (CP b i) s) else b[j]? := by
 unfold Ln
 rw [List.getElem?_set]
 by_cases h:i.toNat=j
 ·subst h
  by_cases h':i.toNat<b.length
  ·rw [if_pos rfl,if_pos h',if_pos ⟨rfl,h'⟩]
  ·rw [if_pos rfl,if_neg h',if_neg (λ hh=>h' hh.2),List.getElem?_eq_none (by omega)]
 ·rw [if_neg h,if_neg (λ hh=>h hh.1)]
theorem BkT.put {b:List Af} (h:BkT b) (i:Int) {s:List UInt8} (hs:s.length<=400):BkT (Ln b i s):=by
 refine ⟨by rw [KE];exact h.len,λ x hx=>?_⟩
 rcases List.mem_or_eq_of_mem_set hx with hx|rfl
 ·exact h.txt x hx
 ·exact hs
theorem TX {b:List Af} {c:Ac} (h:apB b c=true):apS b c=(Ln b c.Block (Np (CP b c.Block).Text c),0):=by unfold apS;rw [if_pos h]
theorem WV {b:List Af} {c:Ac} (h:apB b c=false):apS b c=([],320):=by unfold apS;rw [if_neg (by rw [h];simp)]
theorem XQ {b:List Af} {c:Ac}:apB b c=true↔wdB b c.Block=true/\PD (CP b c.Block).Text c=true/\clS (Np (CP b c.Block).Text c)=true:=by unfold apB;simp
theorem BkT.ap {b:List Af} (h:BkT b) {c:Ac}:BkT (apS b c).1:=by
 cases hc:apB b c with
 | false=>rw [WV hc];exact ⟨by simp,by simp⟩
 | true=>
  rw [TX hc]
  exact h.put _ (XD (XQ.1 hc).2.2).2
theorem JbK {b:List Af} {i j:Int} {s:List UInt8} (hi:0<=i/\i<(b.length:Int)) (hj:0<=j):CP (Ln b i s) j=if i=j then Nq (CP b i) s else CP b j:=by
 have e:CP (Ln b i s) j=((Ln b i s)[j.toNat]?).getD default:=by unfold CP;rw [Jlt]
 rw [e,JbJ]
 by_cases h:i=j
 ·subst h
  rw [if_pos ⟨rfl,by omega⟩,if_pos rfl];rfl
 ·rw [if_neg (by omega),if_neg h]
  unfold CP
  rw [Jlt]
end Go.AI
end
section
namespace Go.AI
noncomputable def plB (p:Ae):Bool:=lim λ n=>DT n p
noncomputable def fvB (f:List Al):Bool:=lim λ n=>EZ n f
noncomputable def enB (r:List (List (List UInt8))):Bool:=lim λ n=>Et n r
theorem Jj8 {p:Ae} (h:VD p):Ev (λ n=>DT n p) (plB p):=(SO h).lim.2
theorem Jj9 (f:List Al):Ev (λ n=>EZ n f) (fvB f):=(SM f).lim.2
structure GdB (x:Af):Prop where
 txt:x.Text.length<=400
 rows:x.Rows.length<=1000
 row:∀ r∈x.Rows,r.length<=1000/\∀ t∈r,t.length<=1000
 f:x.F.length<=1000
 pic:VD x.Pic
theorem GdB.sz {x:Af} (h:GdB x):SzB x:=⟨by have:=h.rows;omega,λ r hr=>by have:=(h.row r hr).1;omega,by have:=h.f;omega,by have:=h.pic.f;omega,λ g hg=>by have:=h.pic.p g hg;omega⟩
theorem WW {l:List (List (List UInt8))} (h:∀ r∈l,r.length<=1000/\∀ t∈r,t.length<=1000):Tot (λ n=>Et n l) (λ _=>True):=by
 refine Tot.ite (λ _=>Tot.pure trivial) λ hc=>?_
 simp only [Jlj,decide_eq_false_iff_not] at hc
 refine Tot.bind (R:=λ _=>True) ?_ λ y _=>by
  cases y with
  | inl _=>exact Tot.pure trivial
  | inr _=>exact Tot.pure trivial
 refine Tot.upto l.length (λ i (x:Int)=>x=(i:Int)) (λ i x hi hx=>?_) (λ x hx=>?_) _ rfl
 ·subst hx
  unfold DD
  obtain ⟨h1,h2⟩:=h _ (Jk9 hi)
  have g:∀ (c:Bool) (P:Nat->List (List UInt8)->Option (Int⊕(Unit⊕Bool))) (Q:Int⊕(Unit⊕Bool)->Prop),(∀ x,Tot (λ n=>P n x) Q)->Tot (λ n=>(if c=true then idx l (i:Int) else some default).bind (P n)) Q:=λ c P Q hP=>Tot.guard (R:=λ _=>True) (λ _=>Tot.all (λ n=>AG hi) trivial) λ x _=>hP x
  refine Tot.iteT (E7 hi) (Tot.bindC (AG hi) (Tot.bindC (AG (i:=0) (by omega)) (g _ _ _ λ x1=>g _ _ _ λ x2=>Tot.ite (λ _=>Tot.pure trivial) λ _=>Tot.bind (R:=λ _=>True) ?_ λ y _=>by
   cases y with
   | inl _=>exact Tot.pure (Aq (by omega))
   | inr _=>exact Tot.pure trivial)))
  refine Tot.upto l[i].length (λ k (x:Int)=>x=(k:Int)) (λ k x hk hx=>?_) (λ x hx=>?_) _ rfl
  ·subst hx
   unfold DC
   have ht:=h2 _ (Jk9 hk)
   refine Tot.bindC (AG hi) (Tot.iteT (E7 hk) (Tot.bindC (AG hi) (Tot.bindC (AG hk) (Tot.bindE (Iv _ (by omega)) ?_))))
   cases hb:clS l[i][k] with
   | false=>exact Tot.gF rfl (Tot.gF rfl (Tot.iteT rfl (Tot.pure trivial)))
   | true=>exact Tot.gE rfl (Ev.all λ n=>AG hi) (Tot.gE rfl (Ev.all λ n=>AG hk) (Tot.ite (λ _=>Tot.pure trivial) λ _=>Tot.pure (Aq (by omega))))
  ·subst hx
   unfold DC
   exact Tot.bindC (AG hi) (Tot.iteF (Da _) (Tot.pure trivial))
 ·subst hx
  unfold DD
  exact Tot.iteF (Da _) (Tot.pure trivial)
theorem Jka {x:Af} (h:GdB x):Ev (λ n=>Et n x.Rows) (enB x.Rows):=(WW h.row).lim.2
def bkN (b:List Af) (i:Nat):Af:=b.getD i default
def jB (t l r f p g:Bool):Bool:=((((t&&l)&&r)&&f)&&p)&&g
def rw0 (x:Af):Bool:=((x.Rows.length:Nat):Int)==0
def f0 (x:Af):Bool:=((x.F.length:Nat):Int)==0
def np0 (p:Ae):Bool:=(((p.W==0)&&(p.H==0))&&(p.Gap==0))&&(((p.F.length:Nat):Int)==0)
noncomputable def rgC (x:Af) (pv pg:Bool):Bool:=
 if (x.Kind==1)=true then jB (clS x.Text) (x.Level==0) (rw0 x) (f0 x) (np0 x.Pic) (x.Page==0)
 else if (x.Kind==2)=true then jB (clS x.Text) (decide (x.Level>=1)&&decide (x.Level<=3)) (rw0 x) (f0 x) (np0 x.Pic) (x.Page==0)
 else if (x.Kind==3)=true then jB (x.Text==[]) (x.Level==0) (enB x.Rows) (f0 x) (np0 x.Pic) (x.Page==0)
 else if (x.Kind==4)=true then jB (clS x.Text&&pv) (x.Level==0) (rw0 x) (f0 x) (np0 x.Pic) (x.Page==0)
 else if (x.Kind==5)=true then jB (x.Text==[]) (x.Level==0) (rw0 x) (fvB x.F) (np0 x.Pic) (x.Page==0)
 else if (x.Kind==6)=true then jB (x.Text==[]) (x.Level==0) (rw0 x) (f0 x) (plB x.Pic) (x.Page==0)
 else if (x.Kind==7)=true then jB (x.Text==[]) (x.Level==0) (rw0 x) (f0 x) (np0 x.Pic) pg
 else false
def pvB (b:List Af) (i:Nat):Bool:=decide (0<i)&&(((bkN b (i-1)).Kind==1)||((bkN b (i-1)).Kind==4))
def pgB (b:List Af) (i:Nat):Bool:=(decide ((bkN b i).Page>=1)&&decide ((bkN b i).Page<=9999))&&(List.range i).all λ k=>((bkN b k).Kind != 7)||decide ((bkN b k).Page<(bkN b i).Page)
noncomputable def VG (b:List Af) (i:Nat):Bool:=rgC (bkN b i) (pvB b i) (pgB b i)
theorem WX {b:List Af} {i:Nat} (h:i<b.length):idx b (i:Int)=some (bkN b i):=C9 h
theorem VH {b:List Af} {i:Nat} (hi:i<b.length) (hl:b.length<=1000) (hg:GdB (bkN b i)):Ev (λ n=>IW n b (i:Int)) (VG b i):=by
 unfold VG
 have ht:=hg.txt
 refine Tot.ev (Tot.bindC (WX hi) (Tot.bindA (λ n=>rfl) ?_))
 unfold rgC
 generalize hx:bkN b i=x at *
 by_cases k1:(x.Kind==1)=true
 ·rw [if_pos k1]
  exact Tot.iteT k1 (Tot.bindE (Iv _ (by omega)) (Tot.pure rfl))
 have k1':(x.Kind==1)=false:=by simpa using k1
 rw [if_neg k1]
 refine Tot.iteF k1' ?_
 by_cases k2:(x.Kind==2)=true
 ·rw [if_pos k2]
  exact Tot.iteT k2 (Tot.bindE (Iv _ (by omega)) (Tot.pure rfl))
 rw [if_neg k2]
 refine Tot.iteF (by simpa using k2) ?_
 by_cases k3:(x.Kind==3)=true
 ·rw [if_pos k3]
  exact Tot.iteT k3 (Tot.bindE (Jka hg) (Tot.pure rfl))
 rw [if_neg k3]
 refine Tot.iteF (by simpa using k3) ?_
 by_cases k4:(x.Kind==4)=true
 ·rw [if_pos k4]
  refine Tot.iteT k4 (Tot.bindE (Iv _ (by omega)) ?_)
  unfold pvB
  have e0:decide ((i:Int)>0)=decide (0<i):=by rw [decide_eq_decide];omega
  rw [e0]
  cases hc:clS x.Text with
  | false=>exact Tot.gF rfl (Tot.gF rfl (Tot.pure rfl))
  | true=>
   cases hd:decide (0<i) with
   | false=>exact Tot.gF rfl (Tot.gF rfl (Tot.pure rfl))
   | true=>
    rw [decide_eq_true_eq] at hd
    have ei:AT .i64 (i:Int) 1=((i-1:Nat):Int):=(CB (by omega) (by omega)).trans (by omega)
    rw [ei]
    have hg:∀ n:Nat,idx b ((i-1:Nat):Int)=some (bkN b (i-1)):=λ n=>WX (by omega)
    refine Tot.gE rfl (Ev.all hg) ?_
    cases hk:((bkN b (i-1)).Kind==1) with
    | true=>exact Tot.gF rfl (Tot.pure rfl)
    | false=>exact Tot.gE rfl (Ev.all hg) (Tot.pure rfl)
 rw [if_neg k4]
 refine Tot.iteF (by simpa using k4) ?_
 by_cases k5:(x.Kind==5)=true
 ·rw [if_pos k5]
  exact Tot.iteT k5 (Tot.bindE (Jj9 _) (Tot.pure rfl))
 rw [if_neg k5]
 refine Tot.iteF (by simpa using k5) ?_
 by_cases k6:(x.Kind==6)=true
 ·rw [if_pos k6]
  exact Tot.iteT k6 (Tot.bindE (Jj8 hg.pic) (Tot.pure rfl))
 rw [if_neg k6]
 refine Tot.iteF (by simpa using k6) ?_
 by_cases k7:(x.Kind==7)=true
 ·rw [if_pos k7]
  refine Tot.iteT k7 (Tot.bind (R:=λ y=>y=pgB b i) ?_ λ y hy=>Tot.pure (by rw [hy];rfl))
  unfold pgB
  rw [hx]
  refine Tot.upto i (λ k (z:Bool×Int)=>z.2=(k:Int)/\z.1=((decide (x.Page>=1)&&decide (x.Page<=9999))&&(List.range k).all λ k=>((bkN b k).Kind != 7)||decide ((bkN b k).Page<x.Page))) ?_ ?_ _ ⟨rfl,by simp⟩
  ·rintro k ⟨p,z⟩ hk ⟨h1,h2⟩
   simp only at h1 h2
   subst h1
   unfold Fl
   rw [List.range_succ,List.all_append,← Bool.and_assoc,← h2]
   have hg:∀ n:Nat,idx b ((k:Nat):Int)=some (bkN b k):=λ n=>WX (by omega)
   refine Tot.iteT (E7 hk) ?_
   cases p with
   | false=>exact Tot.gF rfl (Tot.gF rfl (Tot.pure ⟨Aq (by omega),rfl⟩))
   | true=>
    refine Tot.gE rfl (Ev.all hg) ?_
    simp only [List.all_cons,List.all_nil,Bool.and_true]
    cases hk7:((bkN b k).Kind != 7) with
    | true=>exact Tot.gF rfl (Tot.pure ⟨Aq (by omega),rfl⟩)
    | false=>exact Tot.gE rfl (Ev.all hg) (Tot.pure ⟨Aq (by omega),rfl⟩)
  ·rintro ⟨p,z⟩ ⟨h1,h2⟩
   simp only at h1 h2
   subst h1
   unfold Fl
   exact Tot.iteF (Da _) (Tot.pure h2)
 rw [if_neg k7]
 exact Tot.iteF (by simpa using k7) (Tot.pure rfl)
structure VB (b:List Af):Prop where
 len:b.length<=5
 gd:∀ i,i<b.length->GdB (bkN b i)
 rg:∀ i,i<b.length->VG b i=true
theorem WY {b:List Af} (h:VB b):Ev (λ n=>I1 n b) true:=by
 have hl:=h.len
 unfold I1 L4
 refine Tot.ev (Tot.bindE (x:=(0,0)) (Tot.ev (Tot.iteF (decide_eq_false (by omega)) (Ev.tot (Dm b.length (λ i hi=>?_) (λ n=>?_) λ n=>rfl) rfl))) (Tot.pure rfl))
 ·unfold Fm
  have e:=VH hi (by omega) (h.gd i hi)
  rw [h.rg i hi] at e
  exact Tot.ev (Tot.iteT (E7 hi) (Tot.bindE e (Tot.iteF rfl (Tot.pure (by rw [Aq (by omega)])))))
 ·unfold Fm
  rw [if_neg (by simp)]
theorem VB.mem {b:List Af} (h:VB b) {x:Af} (hx:x∈b):GdB x:=by
 obtain ⟨i,hi,rfl⟩:=List.getElem_of_mem hx
 have:=h.gd i hi
 unfold bkN at this
 rwa [BQ hi] at this
theorem VB.bkt {b:List Af} (h:VB b):BkT b:=⟨by have:=h.len;omega,λ _ hx=>(h.mem hx).txt⟩
theorem VB.same {b:List Af} (h:VB b):Ev (λ n=>EW n b b) true:=Ro (by have:=h.len;omega) λ _ hx=>(h.mem hx).sz
theorem Zf {x:Af} {pv pg:Bool} (h:rgC x pv pg=true) (hw:wdK x=true):clS x.Text=true:=by
 unfold wdK at hw
 unfold rgC at h
 split at h
 ·unfold jB at h;simp only [Jll] at h;exact h.1.1.1.1.1
 ·split at h
  ·unfold jB at h;simp only [Jll] at h;exact h.1.1.1.1.1
  ·rename_i k1 k2
   have k4:x.Kind=4:=by
    simp only [JlC,beq_iff_eq] at hw k1 k2
    omega
   rw [k4] at h
   rw [if_neg (by decide),if_pos (by decide)] at h
   unfold jB at h;simp only [Jll] at h;exact h.1.1.1.1.1.1
theorem Zg {x:Af} {pv pg:Bool} {s:List UInt8} (h:rgC x pv pg=true) (hw:wdK x=true) (hs:clS s=true):rgC (Nq x s) pv pg=true:=by
 have hc:=Zf h hw
 unfold wdK at hw
 simp only [JlC,beq_iff_eq] at hw
 have e1:(Nq x s).Kind=x.Kind:=rfl
 have e2:(Nq x s).Text=s:=rfl
 unfold rgC at h ⊢
 rw [e1,e2,hs]
 rw [hc] at h
 rcases hw with (hw|hw)|hw
 ·rw [hw] at h ⊢;exact h
 ·rw [hw] at h ⊢;exact h
 ·rw [hw] at h ⊢;exact h
theorem TY {b:List Af} {i:Int} {s:List UInt8} {j:Nat} (hi:0<=i/\i<(b.length:Int)):bkN (Ln b i s) j=if i.toNat=j then Nq (bkN b j) s else bkN b j:=by
 have h:=JbK (j:=(j:Int)) (s:=s) hi (by omega)
 unfold CP at h
 rw [Jlu] at h
 unfold bkN
 rw [h]
 by_cases e:i.toNat=j
 ·rw [if_pos e,if_pos (by omega),e]
 ·rw [if_neg e,if_neg (by omega)]
theorem VB.put {b:List Af} (h:VB b) {i:Int} {s:List UInt8} (hw:wdB b i=true) (hs:clS s=true):VB (Ln b i s):=by
 obtain ⟨hi,hk⟩:=KR.1 hw
 have hb:CP b i=bkN b i.toNat:=rfl
 rw [hb] at hk
 have hK:∀ j,(bkN (Ln b i s) j).Kind=(bkN b j).Kind/\(bkN (Ln b i s) j).Page=(bkN b j).Page:=λ j=>by
  rw [TY hi];split<;>exact ⟨rfl,rfl⟩
 refine ⟨by rw [KE];exact h.len,λ j hj=>?_,λ j hj=>?_⟩
 ·rw [KE] at hj
  have g:=h.gd j hj
  rw [TY hi]
  split
  ·exact ⟨(XD hs).2,g.rows,g.row,g.f,g.pic⟩
  ·exact g
 ·rw [KE] at hj
  have g:=h.rg j hj
  unfold VG at g ⊢
  have e1:pvB (Ln b i s) j=pvB b j:=by unfold pvB;rw [(hK _).1]
  have e2:pgB (Ln b i s) j=pgB b j:=by
   unfold pgB
   rw [(hK _).2]
   congr 2
   funext k
   rw [(hK _).1,(hK _).2]
  rw [e1,e2,TY hi]
  split
  ·rename_i e
   subst e
   exact Zg g hk hs
  ·exact g
theorem VB.ap {b:List Af} (h:VB b) {c:Ac} (hc:apB b c=true):VB (apS b c).1:=by
 rw [TX hc]
 obtain ⟨h1,_,h3⟩:=XQ.1 hc
 exact h.put h1 h3
end Go.AI
end
section
namespace Go.AI
structure RwB (x:A7):Prop where
 k:U8 x.Kind
 n:U8 x.N
 tl:x.T.length<=9223372036854775807
 t:∀ y∈x.T,U8 y
 fn:U8 x.F.N
 pw:U8 x.P.W
 ph:U8 x.P.H
theorem JiI:VD ({ W:=0,H:=0,Gap:=0,F:=[] }:Ae):=⟨by simp,by simp⟩
theorem PN {k l pg:Int} {s:List UInt8} (h:s.length<=12):GdB { Kind:=k,Level:=l,Text:=s,Rows:=[],F:=[],Pic:={ W:=0,H:=0,Gap:=0,F:=[] },Page:=pg }:=⟨by show s.length<=400;omega,by simp,by simp,by simp,JiI⟩
theorem JbL {x:A7} (hx:RwB x):Tot (λ n=>L3 n x [97,98,99]) GdB:=by
 have hn:=hx.n
 unfold U8 at hn
 obtain ⟨a1,a2,a3⟩:=BK (a:=x.N) (m:=3) (by omega) (by omega)
 have q0:Dt .u8 x.N 4=x.N / 4:=by
  unfold Dt
  rw [Int.tdiv_eq_ediv_of_nonneg (by omega),w8 (by omega) (by omega)]
 obtain ⟨b1,b2,b3⟩:=BK (a:=Dt .u8 x.N 4) (m:=3) (by rw [q0];omega) (by omega)
 refine Tot.bind (Rq (k:=12) hx.tl hx.t (by omega) (by omega) (by decide) (by decide)) λ s hs=>?_
 have hp:Tot (λ n=>Fi n s) GdB:=Tot.pure (PN hs)
 have hj:∀ b,Tot (λ n=>Dw n x s b) GdB:=λ b=>by
  unfold Dw
  refine Tot.ite (λ _=>Tot.pure (PN hs)) λ _=>Tot.ite (λ _=>?_) λ _=>Tot.ite (λ _=>?_) λ _=>Tot.ite (λ _=>Tot.pure (PN (by simp))) λ _=>hp
  ·exact Tot.bind (Za hx.fn) λ f hf=>Tot.pure ⟨by simp,by simp,by simp,hf,JiI⟩
  ·have hsub:∀ l:List (Vd Int),∃ y,sub l 0 (if 2<((l.length:Nat):Int) then 2 else ((l.length:Nat):Int))=some y:=λ l=>by
    split
    ·exact ⟨_,Iu (by omega) (by omega) (by omega)⟩
    ·exact ⟨_,Iu (by omega) (by omega) (by omega)⟩
   obtain ⟨y,hy⟩:=hsub x.P.F
   refine Tot.bindC hy (Tot.bind (Zb (r:={ W:=x.P.W,H:=x.P.H,Gap:=x.P.Gap,F:=y }) hx.pw hx.ph) λ p hp'=>Tot.bind (SO hp') λ b _=>Tot.ite (λ _=>Tot.pure ⟨by simp,by simp,by simp,by simp,hp'⟩) λ _=>hp)
 refine Tot.ite (λ _=>Tot.pure (PN hs)) λ _=>Tot.ite (λ _=>?_) λ _=>Tot.ite (λ _=>hj _) λ _=>hj _
 refine Tot.bind (R:=GdB) ?_ λ y hy=>Tot.pure hy
 have e1:∀ r:Int,0<=r->r<3->∃ k:Nat,Ai .i64 1 (IntKind.i64.wrap r)=(k:Int)/\k<=3:=λ r h1 h2=>by
  rw [w64 (by omega) (by omega),DY (by omega) (by omega)]
  exact ⟨(1+r).toNat,by omega,by omega⟩
 obtain ⟨rc,hrc,hrc3⟩:=e1 _ a2 a3
 obtain ⟨rr,hrr,hrr3⟩:=e1 _ b2 b3
 refine Tot.upto rr (λ i (y:Af×Int)=>y.2=(i:Int)/\(y.1.Text=[]/\y.1.F=[]/\y.1.Pic={ W:=0,H:=0,Gap:=0,F:=[] })/\y.1.Rows.length=i/\∀ r∈y.1.Rows,r.length<=1000/\∀ t∈r,t.length<=1000) ?_ ?_ _ ⟨rfl,⟨rfl,rfl,rfl⟩,rfl,by simp⟩
 ·rintro i ⟨o,y⟩ hi ⟨h1,h2,h3,h4⟩
  simp only at h1 h2 h3 h4
  subst h1
  unfold Fk
  rw [hrr]
  refine Tot.iteT (decide_eq_true (show (i:Int)<(rr:Int) by omega)) (Tot.bind (R:=λ r=>r.length<=1000/\∀ t∈r,t.length<=1000) ?_ λ r hr=>Tot.bindC (Bf (by simp;omega)) (Tot.pure ⟨Aq (by omega),h2,by simp;exact h3,λ q hq=>?_⟩))
  ·refine Tot.upto rc (λ k (y:List (List UInt8)×Int)=>y.2=(k:Int)/\y.1.length=k/\∀ t∈y.1,t.length<=1000) ?_ ?_ _ ⟨rfl,rfl,by simp⟩
   ·rintro k ⟨r,y⟩ hk ⟨g1,g2,g3⟩
    simp only at g1 g2 g3
    subst g1
    unfold Fj
    rw [hrc]
    have e2:BS .i64 2 (Ai .i64 (i:Int) (k:Int))=2*((i:Int)+k):=by rw [DY (by omega) (by omega),FV (by omega) (by omega)]
    rw [e2]
    have hsub:∃ z:List Int,sub x.T (if ((x.T.length:Nat):Int)<2*((i:Int)+k) then ((x.T.length:Nat):Int) else 2*((i:Int)+k)) ((x.T.length:Nat):Int)=some z/\z.length<=9223372036854775807/\∀ y∈z,U8 y:=by
     have htl:=hx.tl
     have fin:∀ a:Int,0<=a->a<=(x.T.length:Int)->∃ z:List Int,sub x.T a ((x.T.length:Nat):Int)=some z/\z.length<=9223372036854775807/\∀ y∈z,U8 y:=λ a h0 h1=>by
      refine ⟨_,Iu h0 h1 (Int.le_refl _),?_,λ y hy=>hx.t y (List.mem_of_mem_take (List.mem_of_mem_drop hy))⟩
      simp only [List.length_drop,List.length_take];omega
     split
     ·exact fin _ (by omega) (by omega)
     ·exact fin _ (by omega) (by omega)
    obtain ⟨z,hz,hzl,hzu⟩:=hsub
    refine Tot.iteT (decide_eq_true (show (k:Int)<(rc:Int) by omega)) (Tot.bindC hz (Tot.bind (Rq (k:=4) hzl hzu (by omega) (by omega) (by decide) (by decide)) λ t ht=>Tot.bindC (Bf (by simp;omega)) (Tot.pure ⟨Aq (by omega),by simp;exact g2,λ q hq=>?_⟩)))
    rw [List.mem_append,List.mem_singleton] at hq
    rcases hq with hq|rfl
    ·exact g3 q hq
    ·omega
   ·rintro ⟨r,y⟩ ⟨g1,g2,g3⟩
    simp only at g1 g2 g3
    subst g1
    unfold Fj
    rw [hrc]
    exact Tot.iteF (decide_eq_false (show ¬(rc:Int)<(rc:Int) by omega)) (Tot.pure ⟨by show r.length<=1000;omega,g3⟩)
  ·rw [List.mem_append,List.mem_singleton] at hq
   rcases hq with hq|rfl
   ·exact h4 q hq
   ·exact hr
 ·rintro ⟨o,y⟩ ⟨h1,⟨h2,h2',h2''⟩,h3,h4⟩
  simp only at h1 h2 h2' h2'' h3 h4
  subst h1
  unfold Fk
  rw [hrr]
  exact Tot.iteF (decide_eq_false (show ¬(rr:Int)<(rr:Int) by omega)) (Tot.pure ⟨by rw [h2];simp,by show o.Rows.length<=1000;omega,h4,by rw [h2'];simp,by rw [h2''];exact JiI⟩)
theorem Ov {b:List Af} {x:Af} {j:Nat} (h:j<b.length):bkN (b++[x]) j=bkN b j:=by
 unfold bkN
 rw [Jlt,Jls h,Jlt]
theorem Jep {b:List Af} {x:Af} {j:Nat} (h:j<b.length):VG (b++[x]) j=VG b j:=by
 unfold VG
 rw [Ov h]
 have e1:pvB (b++[x]) j=pvB b j:=by unfold pvB;rw [Ov (by omega)]
 have e2:pgB (b++[x]) j=pgB b j:=by
  unfold pgB
  rw [Ov h]
  congr 1
  rw [Bool.eq_iff_iff,Jk7,Jk7]
  constructor
  ·intro hh k hk
   have:=hh k hk
   rwa [Ov (by rw [List.mem_range] at hk;omega)] at this
  ·intro hh k hk
   have:=hh k hk
   rwa [Ov (by rw [List.mem_range] at hk;omega)]
 rw [e1,e2]
theorem JbM {l:List A7} (hl:∀ x∈l,RwB x):Tot (λ n=>NQ n l 5 [97,98,99]) VB:=by
 refine Tot.bind (R:=VB) ?_ λ b hb=>Tot.pure hb
 refine Tot.upto (min l.length 5) (λ i (y:List Af×Int)=>y.2=(i:Int)/\y.1.length<=i/\VB y.1) ?_ ?_ _ ⟨rfl,by simp,by simp,λ i hi=>by simp at hi,λ i hi=>by simp at hi⟩
 ·rintro i ⟨b,y⟩ hi ⟨h1,h2,h3⟩
  simp only at h1 h2 h3
  subst h1
  unfold Gh
  have hlt:i<l.length:=by omega
  refine Tot.iteT (by rw [Jll,decide_eq_true_eq,decide_eq_true_eq];show (i:Int)<_/\(i:Int)<5;omega) (Tot.bindC (AG hlt) (Tot.bind (JbL (hl _ (Jk9 hlt))) λ x hx=>Tot.bindC (Bf (by simp;omega)) ?_))
  have el:((List.length (b++[x]):Nat):Int)=((b.length+1:Nat):Int):=by simp
  rw [el]
  have es:AT .i64 ((b.length+1:Nat):Int) 1=((b.length:Nat):Int):=(CB (by omega) (by omega)).trans (by omega)
  rw [es]
  have hbk:bkN (b++[x]) b.length=x:=by
   unfold bkN
   rw [Jlt,JlB (Jlb _)]
   simp
  refine Tot.bindE (VH (by simp) (by simp;omega) (by rw [hbk];exact hx)) ?_
  cases hr:VG (b++[x]) b.length with
  | false=>
   refine Tot.iteT rfl (Tot.bindC (y:=b) ?_ (Tot.pure ⟨Aq (by omega),by show b.length<=i+1;omega,h3⟩))
   rw [TQ (by simp)]
   simp
  | true=>
   refine Tot.iteF rfl (Tot.pure ⟨Aq (by omega),by simp;omega,by simp;omega,λ j hj=>?_,λ j hj=>?_⟩)
   ·rw [List.length_append,List.length_singleton] at hj
    rcases Nat.lt_succ_iff_lt_or_eq.1 hj with h|rfl
    ·rw [Ov h];exact h3.gd j h
    ·rw [hbk];exact hx
   ·rw [List.length_append,List.length_singleton] at hj
    rcases Nat.lt_succ_iff_lt_or_eq.1 hj with h|rfl
    ·rw [Jep h];exact h3.rg j h
    ·exact hr
 ·rintro ⟨b,y⟩ ⟨h1,h2,h3⟩
  simp only at h1 h2 h3
  subst h1
  unfold Gh
  exact Tot.iteF (by rw [Bool.and_eq_false_iff,decide_eq_false_iff_not,decide_eq_false_iff_not];show ¬(((min l.length 5:Nat):Int)<_)\/¬(((min l.length 5:Nat):Int)<5);omega) (Tot.pure h3)
theorem Jeq {l:List A7} (hl:∀ x∈l,RwB x):Tot (λ n=>NR n l) VB:=Tot.bind (JbM hl) λ _ hb=>Tot.pure hb
end Go.AI
end
section
namespace Go.AI
def Ow (a b:List UInt8):Prop:=Op.bytesLess a b=true
theorem RB (a:List UInt8):¬Ow a []:=by cases a<;>simp [Ow,Op.bytesLess]
theorem KW {a b:UInt8} {x y:List UInt8}:Ow (a::x) (b::y)↔a<b\/(a=b/\Ow x y):=by
 simp [Ow,Op.bytesLess]
theorem Pb:∀ a:List UInt8,¬Ow a a
 | []=>RB _
 | a::x=>by
  rw [KW]
  rintro (h|⟨_,h⟩)
  ·exact UInt8.lt_irrefl a h
  ·exact Pb x h
theorem RC:∀ {a b c:List UInt8},Ow a b->Ow b c->Ow a c
 | a,[],c,h,_=>absurd h (RB a)
 | _,_::_,[],_,h=>absurd h (RB _)
 | [],_::_,_::_,_,_=>rfl
 | a::x,b::y,c::z,h,h'=>by
  rw [KW] at *
  rcases h with h|⟨rfl,h⟩
  ·rcases h' with h'|⟨rfl,_⟩
   ·exact .inl (UInt8.lt_trans h h')
   ·exact .inl h
  ·rcases h' with h'|⟨rfl,h'⟩
   ·exact .inl h'
   ·exact .inr ⟨rfl,RC h h'⟩
theorem RD:∀ (a b:List UInt8),a=b\/Ow a b\/Ow b a
 | [],[]=>.inl rfl
 | [],_::_=>.inr (.inl rfl)
 | _::_,[]=>.inr (.inr rfl)
 | a::x,b::y=>by
  rw [KW,KW]
  by_cases h:a=b
  ·subst h
   rcases RD x y with rfl|h|h
   ·exact .inl rfl
   ·exact .inr (.inl (.inr ⟨rfl,h⟩))
   ·exact .inr (.inr (.inr ⟨rfl,h⟩))
  ·rcases Nat.lt_or_gt_of_ne (λ e=>h (UInt8.toNat_inj.1 e)) with h1|h1
   ·exact .inr (.inl (.inl (UInt8.lt_iff_toNat_lt.2 h1)))
   ·exact .inr (.inr (.inl (UInt8.lt_iff_toNat_lt.2 h1)))
def ltA (c d:Ac):Prop:=Gm c d\/((c.Block=d.Block/\c.At=d.At)/\c.Cut=d.Cut)/\Ow c.Put d.Put
theorem Hz {c d:Ac}:WJ c d<0↔ltA c d:=by
 unfold WJ ltA Gm Ow
 cases hq:Op.bytesLess c.Put d.Put with
 | true=>
  simp only [if_true,and_true]
  (repeat' split)<;>omega
 | false=>
  simp only [Jlw,if_false,and_false,or_false]
  (repeat' split)<;>omega
theorem TZ {c:Ac}:¬ltA c c:=by
 rintro (h|h)
 ·exact Jbc h
 ·exact Pb _ h.2
theorem T0 {c d e:Ac} (h:ltA c d) (h':ltA d e):ltA c e:=by
 rcases h with h|⟨h,hb⟩<;>rcases h' with h'|⟨h',hb'⟩
 ·exact .inl (Jea h h')
 ·left;unfold Gm at *;omega
 ·left;unfold Gm at *;omega
 ·exact .inr ⟨by omega,RC hb hb'⟩
theorem Ns (c d:Ac):c=d\/ltA c d\/ltA d c:=by
 by_cases h:(c.Block=d.Block/\c.At=d.At)/\c.Cut=d.Cut
 ·rcases RD c.Put d.Put with hp|hp|hp
  ·left;cases c;cases d;simp only at h hp;simp [h,hp]
  ·exact .inr (.inl (.inr ⟨h,hp⟩))
  ·exact .inr (.inr (.inr ⟨by omega,hp⟩))
 ·right
  unfold ltA Gm;omega
theorem VI {c d:Ac} (h:ltA c d):¬ltA d c:=λ h'=>TZ (T0 h h')
theorem Nt {n:Nat} (hn:5<=n) (c d:Ac):ltC (λ x y=>Gp n x y) c d=decide (WJ c d<0):=by unfold ltC;simp only [Vo c d n hn,Jk8]
theorem JiJ {n:Nat} (hn:5<=n):Xw (λ x y=>Gp n x y):=by
 refine ⟨λ x y=>by rw [Vo x y n hn];rfl,λ x=>?_,λ x y z h h'=>?_,λ x y z h h'=>?_,λ x y h h'=>?_⟩
 ·rw [Nt hn,decide_eq_false_iff_not,Hz];exact TZ
 ·rw [Nt hn,decide_eq_true_eq,Hz] at *;exact T0 h h'
 ·rw [Nt hn,decide_eq_false_iff_not,Hz] at *
  intro hh
  rcases Ns y x with rfl|h1|h1
  ·exact h' hh
  ·exact h' (T0 h1 hh)
  ·exact h h1
 ·rw [Nt hn,decide_eq_false_iff_not,Hz] at *
  rcases Ns x y with h1|h1|h1
  ·exact h1
  ·exact absurd h1 h
  ·exact absurd h1 h'
def WZ (l:List Ac):List Ac:=LW (λ x y=>decide (WJ x y<0)) l
theorem Jer {l:List Ac} (hl:l.length<=1000000):Ev (λ n=>QM n l) (WZ l):=by
 refine ⟨5,λ n hn=>?_⟩
 show sortC _ l=_
 rw [JaA (JiJ hn) l (by omega)]
 unfold WZ
 congr 2
 funext x y
 exact Nt hn x y
theorem RE (l:List Ac):(WZ l).Perm l:=JT l
theorem W2 (l:List Ac):(WZ l).Pairwise λ a b=>¬ltA b a:=by
 refine (HE (lt:=λ x y:Ac=>decide (WJ x y<0)) (λ x y z h h'=>?_) (λ x y h=>?_) l).imp λ {a b} h=>?_
 ·rw [decide_eq_false_iff_not,Hz] at *
  intro hh
  rcases Ns y x with rfl|h1|h1
  ·exact h' hh
  ·exact h' (T0 h1 hh)
  ·exact h h1
 ·rw [decide_eq_false_iff_not,Hz]
  rw [decide_eq_true_eq,Hz] at h
  exact VI h
 ·rw [decide_eq_false_iff_not,Hz] at h
  exact h
theorem T1 {motive:List Ac->Prop} (nil:motive []) (append_singleton:∀ l x,motive l->motive (l++[x])) (l:List Ac):motive l:=by
 have key:∀ m:List Ac,motive m.reverse:=by
  intro m
  induction m with
  | nil=>exact nil
  | cons x m ih=>rw [List.reverse_cons];exact append_singleton _ _ ih
 have:=key l.reverse
 rwa [List.reverse_reverse] at this
def ddS (l:List Ac):List Ac:=l.foldl (λ acc x=>if acc.getLast? = some x then acc else acc++[x]) []
theorem HA (l:List Ac) (x:Ac):ddS (l++[x])=if (ddS l).getLast? = some x then ddS l else ddS l++[x]:=by unfold ddS;rw [List.foldl_append];rfl
theorem T3 (l:List Ac):(ddS l).getLast? = l.getLast? := by
 rcases List.eq_nil_or_concat l with rfl|⟨l',x,rfl⟩
 ·rfl
 ·rw [List.concat_eq_append,HA]
  split
  ·rename_i h;rw [h];simp
  ·simp
theorem W3 (l:List Ac) (x:Ac):x∈ddS l↔x∈l:=by
 induction l using T1 with
 | nil=>rfl
 | append_singleton l y ih=>
  rw [HA]
  split
  ·rename_i h
   rw [ih,List.mem_append,List.mem_singleton]
   constructor
   ·exact .inl
   ·rintro (h'|rfl)
    ·exact h'
    ·exact ih.1 (List.mem_of_getLast? h)
  ·rw [List.mem_append,List.mem_append,ih]
theorem JiK (l:List Ac):(ddS l).length<=l.length:=by
 induction l using T1 with
 | nil=>exact Jlb _
 | append_singleton l y ih=>
  rw [HA,List.length_append]
  split
  ·omega
  ·rw [List.length_append];simp only [List.length_singleton];omega
theorem Zh {l:List Ac} (h:l.Pairwise λ a b=>¬ltA b a):(ddS l).Pairwise ltA:=by
 induction l using T1 with
 | nil=>exact .nil
 | append_singleton l y ih=>
  rw [List.pairwise_append] at h
  have ih:=ih h.1
  rw [HA]
  split
  ·exact ih
  ·rename_i hne
   refine List.pairwise_append.2 ⟨ih,List.pairwise_singleton _ _,λ a ha b hb=>?_⟩
   rw [List.mem_singleton] at hb
   subst hb
   have hab:=h.2.2 a ((W3 l a).1 ha) b (List.mem_singleton_self _)
   rcases Ns a b with rfl|h1|h1
   ·exfalso
    rw [T3] at hne
    rcases List.eq_nil_or_concat l with rfl|⟨l',z,rfl⟩
    ·cases ha
    ·rw [List.concat_eq_append] at h hne ha
     have hz:=h.2.2 z (by simp) a (List.mem_singleton_self _)
     rw [W3] at ha
     rcases List.mem_append.1 ha with hm|hm
     ·have hza:=(List.pairwise_append.1 h.1).2.2 a hm z (List.mem_singleton_self _)
      rcases Ns z a with rfl|h2|h2
      ·exact hne (by simp)
      ·exact hza h2
      ·exact hz h2
     ·rw [List.mem_singleton] at hm
      subst hm
      exact hne (by simp)
   ·exact h1
   ·exact absurd h1 hab
theorem chE (c d:Ac):((c.Block==d.Block)&&((c.At==d.At)&&((c.Cut==d.Cut)&&((c.Put==d.Put)&&true))))=decide (c=d):=by
 cases c;cases d
 rw [Bool.eq_iff_iff]
 simp
theorem JbN {l:List Ac} {lo n:Nat} {i:Int} (h:0<=i) (h':i<(n:Int)) (hl:lo+n<=l.length):ixP l (lo,n) i=some (l.getD (lo+i.toNat) default):=by
 unfold ixP inB
 rw [decide_eq_true h,decide_eq_true h']
 exact C9 (by omega)
theorem XR {l:List Ac} {k:Nat} (hk:k<=l.length) (h:∀ j,1<=j->j<k->l.getD j default≠l.getD (j-1) default):ddS (l.take k)=l.take k:=by
 induction k with
 | zero=>simp [ddS]
 | succ k ih=>
  have hlt:k<l.length:=by omega
  rw [List.take_succ_eq_append_getElem hlt,HA,ih (by omega) λ j h1 h2=>h j h1 (by omega),if_neg]
  intro he
  rcases Nat.eq_zero_or_pos k with rfl|hp
  ·simp at he
  ·have:=h k hp (by omega)
   rw [List.getLast?_eq_getElem?,List.length_take,Nat.min_eq_left (by omega),List.getElem?_take,if_pos (by omega),Jlk (by omega)] at he
   rw [BQ hlt,BQ (show k-1<l.length by omega)] at this
   exact this (Option.some.inj he).symm
theorem Nu {l:List Ac} {k:Nat} (hk:1<=k) (h:k<=l.length):(l.take k).getLast? = some (l.getD (k-1) default):=by
 rw [List.getLast?_eq_getElem?,List.length_take,Nat.min_eq_left h,List.getElem?_take,if_pos (by omega),Jlk (by omega),BQ (show k-1<l.length by omega)]
theorem W4 {l:List Ac} (hl:l.length<=1000000):Tot (λ n=>JW n l) (λ r=>(r.2.1=0/\r.2.2=(ddS l).length/\r.2.2<=r.1.length)/\r.1.take r.2.2=ddS l):=by
 have hid:ddS l=l->((0:Nat)=0/\l.length=(ddS l).length/\l.length<=l.length)/\l.take l.length=ddS l:=λ e=>by
  rw [e];exact ⟨⟨rfl,rfl,Jlb _⟩,List.take_length⟩
 have hall:(∀ j,1<=j->j<l.length->l.getD j default≠l.getD (j-1) default)->ddS l=l:=λ h=>by
  have:=XR (Jlb _) h
  rwa [List.take_length] at this
 refine Tot.ite (λ h=>Tot.pure ?_) λ h=>?_
 ·rw [decide_eq_true_eq] at h
  exact hid (hall λ j h1 h2=>by omega)
 ·rw [decide_eq_false_iff_not] at h
  refine Tot.bind (R:=λ y=>match y with | .inl _=>ddS l=l | .inr r=>(r.2.1=0/\r.2.2=(ddS l).length/\r.2.2<=r.1.length)/\r.1.take r.2.2=ddS l) ?_ λ y hy=>by
   cases y with
   | inl _=>exact Tot.pure (hid hy)
   | inr r=>exact Tot.pure hy
  refine Tot.whl (λ q (x:Int)=>∃ k:Nat,x=(k:Int)/\1<=k/\k+q=l.length/\∀ j,1<=j->j<k->l.getD j default≠l.getD (j-1) default) ?_ (l.length-1) _ ⟨1,rfl,by omega,by omega,λ j h1 h2=>by omega⟩
  rintro q _ ⟨k,rfl,hk1,hkq,hne⟩
  unfold GB
  rcases Jlc k l.length with hk|hk
  ·refine Tot.iteT (decide_eq_true (by omega)) (Tot.bindC (C9 hk) ?_)
   rw [CB (by omega) (by omega),show (k:Int)-1=((k-1:Nat):Int) by omega]
   refine Tot.bindC (C9 (by omega)) ?_
   rw [chE]
   refine Tot.ite (λ he=>?_) λ he=>Tot.pure ⟨q-1,by omega,k+1,Aq (by omega),by omega,by omega,λ j h1 h2=>?_⟩
   ·rw [decide_eq_true_eq] at he
    refine Tot.bindC (Iu (by omega) (by omega) (by omega)) ?_
    have hd0:=XR (by omega) hne
    refine Tot.bind (R:=λ y=>(y.1.length=l.length/\∃ m:Nat,y.2=(m:Int)/\m<=l.length/\y.1.take m=ddS l)) ?_ λ y hy=>?_
    ·refine Tot.whl (λ q (x:List Ac×Int×Int)=>∃ m k2:Nat,(x.2.1=(m:Int)/\x.2.2=(k2:Int))/\(1<=k2/\k+k2+q=l.length/\m+1<=k+k2)/\(x.1.length=l.length/\∀ j,k+k2<=j+1->x.1.getD j default=l.getD j default)/\x.1.take m=ddS (l.take (k+k2))) ?_ (l.length-(k+1)) _ ⟨k,1,⟨rfl,rfl⟩,⟨by omega,by omega,by omega⟩,⟨rfl,λ _ _=>rfl⟩,?_⟩
     ·rintro q ⟨s,a,b⟩ ⟨m,k2,⟨h1,h2⟩,⟨g1,g2,g3⟩,⟨s1,s2⟩,s3⟩
      simp only at h1 h2 s1 s2 s3
      subst h1 h2
      unfold GA
      have eb:(((0+Int.toNat (k:Int),Int.toNat ((l.length:Nat):Int)-Int.toNat (k:Int)):Nat×Nat))=(k,l.length-k):=by simp
      rw [eb]
      rcases Jlc (k+k2) l.length with hlt|hge
      ·refine Tot.iteT (decide_eq_true ?_) ?_
       ·show (k2:Int)<((l.length-k:Nat):Int);omega
       have i1:ixP s (k,l.length-k) (k2:Int)=some (l.getD (k+k2) default):=by
        rw [JbN (by omega) (by omega) (by omega),Jlu,s2 _ (by omega)]
       have i2:ixP s (k,l.length-k) (AT .i64 (k2:Int) 1)=some (l.getD (k+k2-1) default):=by
        rw [CB (by omega) (by omega),JbN (by omega) (by omega) (by omega),show k+((k2:Int)-1).toNat=k+k2-1 by omega,s2 _ (by omega)]
       refine Tot.bindC i1 (Tot.bindC i2 ?_)
       rw [chE]
       have hsn:l.take (k+(k2+1))=l.take (k+k2)++[l.getD (k+k2) default]:=by
        rw [← Jlg,List.take_succ_eq_append_getElem hlt,BQ hlt]
       have hla:(ddS (l.take (k+k2))).getLast? = some (l.getD (k+k2-1) default):=by
        rw [T3,Nu (by omega) (by omega)]
       refine Tot.ite (λ hd=>?_) λ hd=>?_
       ·rw [Bool.not_eq_true',decide_eq_false_iff_not] at hd
        refine Tot.bindC i1 (Tot.bindC (C9 (show m<s.length by omega)) (Tot.bindC (Rm (show m<s.length by omega)) (Tot.pure ⟨q-1,by omega,m+1,k2+1,⟨Aq (by omega),Aq (by omega)⟩,⟨by omega,by omega,by omega⟩,⟨by simp [s1],λ j hj=>?_⟩,?_⟩)))
        ·rw [Jlt,JlA (by omega),← Jlt,s2 _ (by omega)]
        ·rw [hsn,HA,hla,if_neg (λ e=>hd (Option.some.inj e).symm),← s3]
         show (s.set m _).take (m+1)=_
         rw [List.take_succ_eq_append_getElem (by simp;omega),List.getElem_set_self,List.take_set_of_le (Jlb _)]
       ·rw [Bool.not_eq_false',decide_eq_true_eq] at hd
        refine Tot.pure ⟨q-1,by omega,m,k2+1,⟨rfl,Aq (by omega)⟩,⟨by omega,by omega,by omega⟩,⟨s1,λ j hj=>s2 j (by omega)⟩,?_⟩
        rw [hsn,HA,hla,hd,if_pos rfl]
        exact s3
      ·refine Tot.iteF (decide_eq_false ?_) (Tot.pure ⟨s1,m,rfl,by omega,?_⟩)
       ·show ¬((k2:Int)<((l.length-k:Nat):Int));omega
       ·show s.take m=_
        rw [s3,List.take_of_length_le (by omega)]
     ·show l.take k=_
      rw [List.take_succ_eq_append_getElem hk,HA,T3,Nu (by omega) (by omega),← BQ (d:=default) hk,he,if_pos rfl,hd0]
    ·obtain ⟨y1,m,hm,hm2,hm3⟩:=hy
     obtain ⟨ya,yb⟩:=y
     simp only at y1 hm hm3
     subst hm
     have hml:m=(ddS l).length:=by rw [← hm3,List.length_take];omega
     refine Tot.bindC (Iu (by omega) (show (m:Int)<=((ya.length:Nat):Int) by omega) (Int.le_refl _)) (Tot.bindC (y:=ya.take m++List.replicate (ya.length-m) ⟨0,0,0,[]⟩) ?_ (Tot.bindC (Iu (by omega) (by omega) (by simp;omega)) (Tot.pure ?_)))
     ·simp only [Jly,Jlu]
      unfold YE
      rw [if_pos (by omega)]
      unfold spl
      rw [List.length_replicate,List.drop_of_length_le (by omega),List.append_nil]
     ·simp only [Int.toNat_zero,Jly,Jlu,Nat.sub_zero]
      refine ⟨⟨rfl,hml,by simp;omega⟩,?_⟩
      rw [List.take_append_of_le_length (by simp;omega),List.take_take,Nat.min_self,hm3]
   ·rw [decide_eq_false_iff_not] at he
    rcases Nat.lt_succ_iff_lt_or_eq.1 h2 with h3|rfl
    ·exact hne j h1 h3
    ·exact he
  ·refine Tot.iteF (decide_eq_false (by omega)) (Tot.pure ?_)
   exact hall λ j h1 h2=>hne j h1 (by omega)
end Go.AI
end
section
namespace Go.AI
def csW (w:List AZ) (i:Nat):Ac:=(w.getD i default).C
def qW (w:List AZ) (i j:Nat):Bool:=(!(decide (csW w i=csW w j)))&&(!(frB (csW w i) (csW w j)))
def nlW (w:List AZ) (i:Nat):Bool:=(List.range w.length).all λ j=>!(qW w i j)
def agI (w:List AZ) (i:Nat):List Ac:=((List.range i).filter (nlW w)).map (csW w)
def agL (w:List AZ):List Ac:=ddS (WZ (agI w w.length))
def Sc (w:List AZ) (i j:Nat):List (Cu Int):=((List.range j).filter λ k=>decide (i<k)&&qW w i k).map λ (k:Nat)=>(⟨(i:Int),(k:Int)⟩:Cu Int)
def quW (w:List AZ) (i:Nat):List (Cu Int):=(List.range i).flatMap λ a=>Sc w a w.length
def jnS (w:List AZ):An:={ Agreed:=D0 [] (agL w),Quarrels:=quW w w.length }
structure WOK (w:List AZ):Prop where
 len:w.length<=100
 ok:∀ y∈w,Okc 1000 y.C
 cut:∀ y∈w,0<=y.C.Cut
theorem XS (w:List AZ) (i j:Nat):qW w i j=qW w j i:=by
 unfold qW
 rw [Rn (csW w i),show decide (csW w i=csW w j)=decide (csW w j=csW w i) by rw [decide_eq_decide];exact eq_comm]
theorem Jes (w:List AZ) (i:Nat):qW w i i=false:=by unfold qW;simp
theorem XT {w:List AZ} {i:Nat}:nlW w i=true↔∀ j,j<w.length->qW w i j=false:=by unfold nlW;simp
theorem VJ (w:List AZ) (i:Nat):agI w (i+1)=agI w i++if nlW w i=true then [csW w i] else []:=by
 unfold agI
 rw [List.range_succ,List.filter_append,List.map_append]
 congr 1
 cases h:nlW w i<;>simp [h]
theorem T4 {w:List AZ} {i:Nat} {c:Ac}:c∈agI w i↔∃ k,(k<i/\nlW w k=true)/\csW w k=c:=by unfold agI;simp
theorem T5 (w:List AZ) (i:Nat):(agI w i).length<=i:=by
 unfold agI
 rw [Jlh]
 have:=List.length_filter_le (nlW w) (List.range i)
 rwa [List.length_range] at this
theorem XU {w:List AZ} {i:Nat} (h:i<w.length):w.getD i default∈w:=by rw [BQ h];exact Jk9 h
theorem WOK.c {w:List AZ} (h:WOK w) {i:Nat} (hi:i<w.length):Okc 1000 (csW w i)/\0<=(csW w i).Cut:=⟨h.ok _ (XU hi),h.cut _ (XU hi)⟩
theorem XV {w:List AZ} {i j:Nat} (hj:j<w.length) (h:nlW w i=true) (hne:csW w i≠csW w j):frB (csW w i) (csW w j)=true:=by
 have:=XT.1 h j hj
 unfold qW at this
 rw [decide_eq_false hne] at this
 simpa using this
theorem Jkb {w:List AZ} {i j:Nat} (hj:j<w.length) (h:nlW w i=true) (hne:csW w i≠csW w j):Gm (csW w i) (csW w j)\/Gm (csW w j) (csW w i):=Jeb (XV hj h hne)
theorem T6 {w:List AZ} {c:Ac}:c∈agL w↔c∈agI w w.length:=by
 unfold agL
 rw [W3,(RE _).mem_iff]
theorem XW (w:List AZ):(agL w).length<=w.length:=by
 unfold agL
 have h1:=JiK (WZ (agI w w.length))
 rw [(RE _).length_eq] at h1
 have:=T5 w w.length
 omega
theorem Jet (w:List AZ):Frs (agL w):=by
 have h:=Zh (W2 (agI w w.length))
 unfold Frs
 refine List.Pairwise.imp_of_mem ?_ h
 intro c d hc hd hlt
 have hc':=T6.1 hc
 have hd':=T6.1 hd
 obtain ⟨i,⟨hi,hni⟩,rfl⟩:=T4.1 hc'
 obtain ⟨j,⟨hj,hnj⟩,rfl⟩:=T4.1 hd'
 have hne:csW w i≠csW w j:=λ e=>by rw [e] at hlt;exact TZ hlt
 refine ⟨XV hj hni hne,?_⟩
 rcases Jkb hj hni hne with h|h
 ·exact h
 ·exact absurd (Or.inl h) (VI hlt)
theorem JbO {w:List AZ} {i:Nat} (h:i<w.length):idx w (i:Int)=some (w.getD i default):=C9 h
theorem Zi (w:List AZ) (i j:Nat):Sc w i (j+1)=Sc w i j++if (decide (i<j)&&qW w i j)=true then [(⟨(i:Int),(j:Int)⟩:Cu Int)] else []:=by
 unfold Sc
 rw [List.range_succ,List.filter_append,List.map_append]
 congr 1
 cases h:decide (i<j)&&qW w i j<;>simp [h]
theorem JiL (w:List AZ) (i:Nat):Sc w i (i+1)=[]:=by
 unfold Sc
 rw [List.map_eq_nil_iff,List.filter_eq_nil_iff]
 intro k hk
 rw [List.mem_range] at hk
 rw [decide_eq_false (by omega)]
 simp
theorem VK (w:List AZ) (i:Nat):quW w (i+1)=quW w i++Sc w i w.length:=by unfold quW;rw [List.range_succ,List.flatMap_append];simp
theorem VL (w:List AZ) (i j:Nat):(Sc w i j).length<=j:=by
 unfold Sc
 rw [Jlh]
 have:=List.length_filter_le (λ k=>decide (i<k)&&qW w i k) (List.range j)
 rwa [List.length_range] at this
theorem Jeu (w:List AZ) (i:Nat):(quW w i).length<=i*w.length:=by
 induction i with
 | zero=>simp [quW]
 | succ i ih=>
  rw [VK,List.length_append,Jlx]
  have:=VL w i w.length
  omega
theorem JiM {w:List AZ} (hw:WOK w) {i:Nat} (hi:i<=w.length):(quW w i).length<=10000:=by
 have h1:=Jeu w i
 have h2:=hw.len
 have:i*w.length<=100*100:=Nat.mul_le_mul (by omega) h2
 omega
theorem Jev {b:Int} {l:List Ac} (h:∀ c∈l,Okc 1000 c):-(2000*(l.length:Int))<=GZ b l/\GZ b l<=2000*(l.length:Int):=by
 induction l with
 | nil=>simp [GZ]
 | cons d l ih=>
  have h1:=ih λ c hc=>h c (List.mem_cons_of_mem _ hc)
  have h2:=h d (List.mem_cons_self ..)
  unfold Okc at h2
  simp only [GZ,List.length_cons]
  split<;>omega
theorem JbP {l pre:List Ac} (h:∀ c∈l,Okc 1000 c) (h':∀ c∈pre,Okc 1000 c) (hl:pre.length+l.length<=100):∀ c∈D0 pre l,Okc 1000000 c:=by
 induction l generalizing pre with
 | nil=>simp [D0]
 | cons d l ih=>
  have hd:=h d (List.mem_cons_self ..)
  simp only [List.length_cons] at hl
  simp only [D0]
  intro c hc
  rcases List.mem_cons.1 hc with rfl|hc
  ·have:=Jev (b:=d.Block) h'
   unfold mvC Okc at *
   simp only
   omega
  ·refine ih (λ c hc=>h c (List.mem_cons_of_mem _ hc)) (λ c hc=>?_) (by simp;omega) c hc
   rw [List.mem_append,List.mem_singleton] at hc
   rcases hc with hc|rfl
   ·exact h' c hc
   ·exact hd
theorem XX {w:List AZ} (hw:WOK w):∀ c∈agL w,Okc 1000 c/\0<=c.Cut:=λ c hc=>by
 obtain ⟨i,⟨hi,_⟩,rfl⟩:=T4.1 (T6.1 hc)
 exact hw.c hi
theorem W5 {w:List AZ} (hw:WOK w) {i:Nat} (hi:i<(agL w).length):PA (agL w)[i] (D0 [] ((agL w).take i)) 0=(mvC (GZ (agL w)[i].Block ((agL w).take i)) (agL w)[i],(((agL w).take i).length:Int),true):=by
 have hm:=Jk9 hi
 have hc:=XX hw _ hm
 have hf:=Jet w
 unfold Frs at hf
 have e:=WI (agL w)[i] hc.2 [] ((agL w).take i) 0 (λ d hd=>(XX hw d (List.mem_of_mem_take hd)).2) (λ d hd=>by
  have h2:((agL w).take (i+1)).Pairwise λ c d=>frB c d=true/\Gm c d:=hf.sublist (List.take_sublist _ _)
  rw [List.take_succ_eq_append_getElem hi,List.pairwise_append] at h2
  have:=h2.2.2 d hd _ (List.mem_singleton_self _)
  exact ⟨by rw [Rn];exact this.1,this.2⟩)
 rw [show GZ (agL w)[i].Block []=0 from rfl,Jj1,List.nil_append,Jly] at e
 exact e
theorem Zj (w:List AZ) {i:Nat} (hi:i<(agL w).length):D0 [] ((agL w).take (i+1))=D0 [] ((agL w).take i)++[mvC (GZ (agL w)[i].Block ((agL w).take i)) (agL w)[i]]:=by
 rw [List.take_succ_eq_append_getElem hi,YV,List.nil_append]
 rfl
theorem Jew {w:List AZ} (hw:WOK w) (i:Nat):∀ d∈D0 [] ((agL w).take i),Okc 1000000000 d:=λ d hd=>by
 have h1:=XW w
 have h2:=hw.len
 exact (JbP (λ c hc=>(XX hw c (List.mem_of_mem_take hc)).1) (by simp) (by simp;omega) d hd).mono (by omega)
end Go.AI
end
section
namespace Go.AI
def ldP (w:List AZ) (i j k:Nat):Prop:=∃ a b,(a<b/\b<w.length)/\(a<i\/a=i/\b<j)/\qW w a b=true/\(k=a\/k=b)
theorem JbQ {w:List AZ} {i k:Nat}:ldP w i 0 k↔ldP w i (i+1) k:=by
 unfold ldP
 constructor
 ·rintro ⟨a,b,h,h1,h2⟩;exact ⟨a,b,h,by omega,h2⟩
 ·rintro ⟨a,b,h,h1,h2⟩;exact ⟨a,b,h,by omega,h2⟩
theorem JiN {w:List AZ} {i k:Nat}:ldP w i w.length k↔ldP w (i+1) 0 k:=by
 unfold ldP
 constructor
 ·rintro ⟨a,b,h,h1,h2⟩;exact ⟨a,b,h,by omega,h2⟩
 ·rintro ⟨a,b,h,h1,h2⟩;exact ⟨a,b,h,by omega,h2⟩
theorem Jex {w:List AZ} {i j k:Nat} (hij:i<j) (hj:j<w.length):ldP w i (j+1) k↔ldP w i j k\/(qW w i j=true/\(k=i\/k=j)):=by
 unfold ldP
 constructor
 ·rintro ⟨a,b,h,h1,h2,h3⟩
  by_cases e:a=i/\b=j
  ·obtain ⟨rfl,rfl⟩:=e
   exact .inr ⟨h2,h3⟩
  ·exact .inl ⟨a,b,h,by omega,h2,h3⟩
 ·rintro (⟨a,b,h,h1,h2⟩|⟨h2,h3⟩)
  ·exact ⟨a,b,h,by omega,h2⟩
  ·exact ⟨i,j,⟨hij,hj⟩,.inr ⟨rfl,by omega⟩,h2,h3⟩
theorem JiO {w:List AZ} {k:Nat} (hk:k<w.length):ldP w w.length 0 k↔nlW w k=false:=by
 rw [← Bool.not_eq_true,XT]
 unfold ldP
 constructor
 ·rintro ⟨a,b,h,h1,h2,rfl|rfl⟩ hn
  ·rw [hn b h.2] at h2;cases h2
  ·rw [XS,hn a (by omega)] at h2;cases h2
 ·intro hn
  refine Classical.byContradiction λ hh=>hn λ j hj=>?_
  cases hq:qW w k j with
  | false=>rfl
  | true=>
   exfalso
   refine hh ?_
   rcases Nat.lt_trichotomy k j with h|rfl|h
   ·exact ⟨k,j,⟨h,hj⟩,.inl hk,hq,.inl rfl⟩
   ·rw [Jes] at hq;cases hq
   ·exact ⟨j,k,⟨h,hk⟩,.inl hj,by rw [XS];exact hq,.inr rfl⟩
theorem VM {l:List Bool} {i k:Nat} {b:Bool} (hi:i<l.length):(l.set i b).getD k false=if i=k then b else l.getD k false:=by
 rw [Jlt,List.getElem?_set]
 by_cases h:i=k
 ·subst h
  rw [if_pos rfl,if_pos hi,if_pos rfl];rfl
 ·rw [if_neg h,if_neg h,Jlt]
theorem Jey {w:List AZ} (hw:WOK w):Ev (λ n=>MQ n w) (jnS w):=by
 have hlen:=hw.len
 have hal:=XW w
 unfold MQ
 refine Tot.ev (Tot.bindC (Jj0 (by omega) (by omega)) ?_)
 rw [Jlu]
 refine Tot.bind (R:=λ y:An×List Bool=>y.1={ Agreed:=[],Quarrels:=quW w w.length }/\y.2.length=w.length/\∀ k,k<w.length->(y.2.getD k false=true↔nlW w k=false)) ?_ λ y hy=>?_
 ·refine Tot.upto w.length (λ i (x:An×List Bool×Int)=>x.2.2=(i:Int)/\x.1={ Agreed:=[],Quarrels:=quW w i }/\x.2.1.length=w.length/\∀ k,k<w.length->(x.2.1.getD k false=true↔ldP w i 0 k)) ?_ ?_ _ ⟨rfl,rfl,by simp,λ k hk=>?_⟩
  ·rintro i ⟨v,ld,x⟩ hi ⟨h1,h2,h3,h4⟩
   simp only at h1 h2 h3 h4
   subst h1 h2
   unfold Hd
   refine Tot.iteT (E7 hi) (Tot.bind (R:=λ y:An×List Bool=>y.1={ Agreed:=[],Quarrels:=quW w (i+1) }/\y.2.length=w.length/\∀ k,k<w.length->(y.2.getD k false=true↔ldP w (i+1) 0 k)) ?_ λ y hy=>Tot.pure ⟨Aq (by omega),hy⟩)
   have hq:=JiM hw (i:=i) (by omega)
   refine Tot.whl (λ m (x:An×List Bool×Int)=>∃ j:Nat,x.2.2=(j:Int)/\(i<j/\j+m=w.length)/\x.1={ Agreed:=[],Quarrels:=quW w i++Sc w i j }/\x.2.1.length=w.length/\∀ k,k<w.length->(x.2.1.getD k false=true↔ldP w i j k)) ?_ (w.length-(i+1)) _ ⟨i+1,Aq (by omega),by omega,by rw [JiL,List.append_nil],h3,λ k hk=>(h4 k hk).trans JbQ⟩
   rintro m ⟨v,l0,x⟩ ⟨j,h1,⟨g1,g2⟩,h2,h3,h4⟩
   simp only at h1 h2 h3 h4
   subst h1 h2
   unfold JY
   rcases Jlc j w.length with hj|hj
   ·refine Tot.iteT (E7 hj) (Tot.bindC (JbO hi) (Tot.bindC (JbO hj) ?_))
    rw [chE]
    have hr:=VL w i j
    have hs:=Zi w i j
    rw [decide_eq_true g1,Bool.true_and] at hs
    have hc1:=(hw.c hi).1
    have hc2:=(hw.c hj).1
    have hld:=λ k=>Jex (w:=w) (k:=k) g1 hj
    unfold qW at hs hld
    cases hd:decide (csW w i=csW w j) with
    | true=>
     rw [hd] at hs hld
     rw [show decide ((w.getD i default).C=(w.getD j default).C)=true from hd]
     refine Tot.gF rfl (Tot.gF rfl (Tot.gF rfl (Tot.iteF rfl (Tot.pure ⟨m-1,by omega,j+1,Aq (by omega),by omega,?_,h3,λ k hk=>?_⟩))))
     ·rw [hs];simp
     ·rw [h4 k hk,hld];simp
    | false=>
     rw [hd] at hs hld
     rw [show decide ((w.getD i default).C=(w.getD j default).C)=false from hd]
     refine Tot.gE rfl (Ev.all λ n=>JbO hi) (Tot.gE rfl (Ev.all λ n=>JbO hj) (Tot.gE rfl (Ev.all λ n=>XA n (by omega) hc1 hc2) ?_))
     cases hf:frB (csW w i) (csW w j) with
     | true=>
      rw [hf] at hs hld
      refine Tot.iteF (by rw [show frB (w.getD i default).C (w.getD j default).C=true from hf];rfl) (Tot.pure ⟨m-1,by omega,j+1,Aq (by omega),by omega,?_,h3,λ k hk=>?_⟩)
      ·rw [hs];simp
      ·rw [h4 k hk,hld];simp
     | false=>
      rw [hf] at hs hld
      refine Tot.iteT (by rw [show frB (w.getD i default).C (w.getD j default).C=false from hf];rfl) (Tot.bindC (Bf (by simp;omega)) (Tot.bindC (C9 (show i<l0.length by omega)) (Tot.bindC (Rm (show i<l0.length by omega)) (Tot.bindC (C9 (show j<(l0.set i true).length by simp;omega)) (Tot.bindC (Rm (show j<(l0.set i true).length by simp;omega)) (Tot.pure ⟨m-1,by omega,j+1,Aq (by omega),by omega,?_,by simp [h3],λ k hk=>?_⟩))))))
      ·rw [hs];simp
      ·rw [hld]
       show ((l0.set i true).set j true).getD k false=true↔_
       rw [VM (by simp;omega),VM (by omega)]
       by_cases e1:j=k
       ·subst e1;simp
       ·rw [if_neg e1]
        by_cases e2:i=k
        ·subst e2;simp
        ·rw [if_neg e2,h4 k hk]
         constructor
         ·exact .inl
         ·rintro (h|⟨_,h⟩)
          ·exact h
          ·omega
   ·refine Tot.iteF (decide_eq_false (by show ¬((j:Int)<((w.length:Nat):Int));omega)) (Tot.pure ?_)
    have:j=w.length:=by omega
    subst this
    exact ⟨by rw [VK],h3,λ k hk=>(h4 k hk).trans JiN⟩
  ·rintro ⟨v,ld,x⟩ ⟨h1,h2,h3,h4⟩
   simp only at h1 h2 h3 h4
   subst h1 h2
   unfold Hd
   exact Tot.iteF (Da _) (Tot.pure ⟨rfl,h3,λ k hk=>(h4 k hk).trans (JiO hk)⟩)
  ·show (List.replicate w.length false).getD k false=true↔_
   rw [Jlt,List.getElem?_replicate,if_pos hk]
   unfold ldP
   constructor
   ·intro h;cases h
   ·rintro ⟨a,b,_,h,_⟩;omega
 ·obtain ⟨v,ld⟩:=y
  obtain ⟨h1,h2,h3⟩:=hy
  simp only at h1 h2 h3
  subst h1
  refine Tot.bindE (f:=λ n=>whl (λ (x:List Ac×Int)=>Fw n w ({ Agreed:=[],Quarrels:=quW w w.length },ld) x.1 x.2) n ([],0)) (x:=agI w w.length) ?_ ?_
  ·refine Tot.ev (Tot.upto w.length (λ i (x:List Ac×Int)=>x.2=(i:Int)/\x.1=agI w i) ?_ ?_ _ ⟨rfl,rfl⟩)
   ·rintro i ⟨l,x⟩ hi ⟨g1,g2⟩
    simp only at g1 g2
    subst g1 g2
    unfold Fw
    have hil:=T5 w i
    refine Tot.iteT (E7 hi) (Tot.bindC (JbO hi) (Tot.bindC (C9 (show i<ld.length by omega)) ?_))
    have h4:=h3 i hi
    rw [show ld.getD i default=ld.getD i false from rfl]
    refine Tot.ite (λ hb=>?_) λ hb=>?_
    ·have hn:nlW w i=true:=by
      have hb:ld.getD i false=false:=by simpa using hb
      cases hn:nlW w i with
      | true=>rfl
      | false=>rw [h4.2 hn] at hb;cases hb
     refine Tot.bindC (Bf (by simp;omega)) (Tot.pure ⟨Aq (by omega),?_⟩)
     rw [VJ,if_pos hn];rfl
    ·have hb:ld.getD i false=true:=by simpa using hb
     have hn:=h4.1 hb
     refine Tot.pure ⟨Aq (by omega),?_⟩
     rw [VJ,if_neg (by rw [hn];simp),List.append_nil]
   ·rintro ⟨l,x⟩ ⟨g1,g2⟩
    simp only at g1 g2
    subst g1 g2
    unfold Fw
    exact Tot.iteF (Da _) (Tot.pure rfl)
  have hil:=T5 w w.length
  have hsl:(WZ (agI w w.length)).length=(agI w w.length).length:=(RE _).length_eq
  refine Tot.bindE (Jer (by omega)) (Tot.bindC (DZ (decide_eq_true hsl.symm)) (Tot.bind (W4 (by omega)) λ r hr=>?_))
  obtain ⟨arr,lo,m⟩:=r
  obtain ⟨⟨r1,r2,r3⟩,r4⟩:=hr
  simp only at r1 r2 r3 r4
  subst r1
  have r4:arr.take m=agL w:=r4
  have r2:m=(agL w).length:=r2
  refine Tot.bind (R:=λ v=>v=jnS w) ?_ λ v hv=>Tot.pure hv
  refine Tot.upto m (λ i (x:An×Int)=>x.2=(i:Int)/\x.1={ Agreed:=D0 [] ((agL w).take i),Quarrels:=quW w w.length }) ?_ ?_ _ ⟨rfl,rfl⟩
  ·rintro i ⟨v,x⟩ hi ⟨g1,g2⟩
   simp only at g1 g2
   subst g1 g2
   unfold He
   have hi':i<(agL w).length:=by omega
   have hok:=(XX hw _ (Jk9 hi')).1
   have hx:ixP arr (0,m) (i:Int)=some (agL w)[i]:=by
    rw [JbN (by omega) (by omega) (by omega),Jly,Jlu]
    congr 1
    have:(arr.take m)[i]? = some (agL w)[i]:=by rw [r4,Jlk hi']
    rw [List.getElem?_take,if_pos hi] at this
    rw [Jlt,this];rfl
   refine Tot.iteT (E7 hi) (Tot.bindC hx (Tot.bindE (Vn (by rw [SH];simp;omega) (Jew hw i) (hok.mono (by omega))) ?_))
   rw [W5 hw hi']
   refine Tot.iteT rfl (Tot.bindC (Bf (by simp [SH];omega)) (Tot.pure ⟨Aq (by omega),?_⟩))
   rw [Zj w hi']
  ·rintro ⟨v,x⟩ ⟨g1,g2⟩
   simp only at g1 g2
   subst g1 g2
   unfold He
   refine Tot.iteF (Da _) (Tot.pure ?_)
   show _=_
   rw [r2,List.take_length];rfl
end Go.AI
end
section
namespace Go.AI
def b0:List Af:=[{ Kind:=1,Level:=0,Text:=[97,98,99],Rows:=[],F:=[],Pic:={ W:=0,H:=0,Gap:=0,F:=[] },Page:=0 }]
theorem Je1:BkT b0:=⟨by decide,λ x hx=>by simp only [b0,List.mem_singleton] at hx;subst hx;decide⟩
def chg (a c:Int) (s:List UInt8):Ac:={ Block:=0,At:=a,Cut:=c,Put:=s }
def w0:List AZ:=[⟨0,chg 2 1 [122]⟩,⟨0,chg 2 1 [122]⟩,⟨0,chg 0 1 [120,121]⟩,⟨0,chg 1 0 [112]⟩,⟨0,chg 1 0 [113]⟩]
theorem Jkc:WOK w0:=by
 refine ⟨by decide,λ y hy=>?_,λ y hy=>?_⟩
 ·simp only [w0,List.mem_cons,List.not_mem_nil,or_false] at hy
  rcases hy with rfl|rfl|rfl|rfl|rfl<;>unfold Okc chg<;>decide
 ·simp only [w0,List.mem_cons,List.not_mem_nil,or_false] at hy
  rcases hy with rfl|rfl|rfl|rfl|rfl<;>unfold chg<;>decide
theorem Ja {a c:Int} {s:List UInt8} (ha:-1000<=a/\a<=1000) (hc:-1000<=c/\c<=1000) (hs:s.length<=1000) {A:Int} (hA:1000<=A):Okc A (chg a c s):=by unfold Okc chg;simp only;omega
theorem VN:∀ i:Nat,i<5->∃ c:Ac,idx ([chg 0 3 [],chg 4 0 [97],{ Block:=1,At:=0,Cut:=0,Put:=[97] },chg (-1) 0 [97],chg 0 0 [32]]:List Ac) (i:Int)=some c/\Okc 1000000000000 c/\apS b0 c=([],320)
 | 0,_=>⟨_,rfl,Ja (by decide) (by decide) (by decide) (by decide),by kernel_rfl⟩
 | 1,_=>⟨_,rfl,Ja (by decide) (by decide) (by decide) (by decide),by kernel_rfl⟩
 | 2,_=>⟨_,rfl,by unfold Okc;decide,by kernel_rfl⟩
 | 3,_=>⟨_,rfl,Ja (by decide) (by decide) (by decide) (by decide),by kernel_rfl⟩
 | 4,_=>⟨_,rfl,Ja (by decide) (by decide) (by decide) (by decide),by kernel_rfl⟩
 | n+5,h=>by omega
theorem KF {a c:Int} {s:List UInt8} {a' c':Int} {s':List UInt8} (h:(-1000<=a/\a<=1000)/\(-1000<=c/\c<=1000)/\s.length<=1000) (h':(-1000<=a'/\a'<=1000)/\(-1000<=c'/\c'<=1000)/\s'.length<=1000) (n:Nat):Du n (chg a c s) (chg a' c' s')=some (ovS (chg a c s) (chg a' c' s')):=
 XB n (A:=1000) (by decide) (Ja h.1 h.2.1 h.2.2 (by decide)) (Ja h'.1 h'.2.1 h'.2.2 (by decide))
theorem Zk:Ev (λ n=>Hf n) true:=by
 have hA:apS b0 (chg 1 1 [120,121])=([{ Kind:=1,Level:=0,Text:=[97,120,121,99],Rows:=[],F:=[],Pic:={ W:=0,H:=0,Gap:=0,F:=[] },Page:=0 }],0):=by kernel_rfl
 have hJ:jnS w0={ Agreed:=[chg 0 1 [120,121],chg 3 1 [122]],Quarrels:=[⟨3,4⟩] }:=by kernel_rfl
 have h1:=Rz Je1 (Ja (a:=1) (c:=1) (s:=[120,121]) (A:=1000000000000) (by decide) (by decide) (by decide) (by decide))
 rw [hA] at h1
 have hj:=Jey Jkc
 rw [hJ] at hj
 have hc:Ev (λ n=>HZ n (chg 1 0 [97]) [chg 0 0 [98],chg 2 0 [99]]) (noC,1,false):=by
  have:=Vn (l:=[chg 0 0 [98],chg 2 0 [99]]) (c:=chg 1 0 [97]) (by decide) (λ d hd=>by
   simp only [List.mem_cons,List.not_mem_nil,or_false] at hd
   rcases hd with rfl|rfl<;>exact Ja (by decide) (by decide) (by decide) (by decide)) (Ja (by decide) (by decide) (by decide) (by decide))
  have e:PA (chg 1 0 [97]) [chg 0 0 [98],chg 2 0 [99]] 0=(noC,1,false):=by kernel_rfl
  rwa [e] at this
 have o1:ovS (chg 2 1 []) (chg 0 1 [120,121,122])=(chg 4 1 [],true):=by kernel_rfl
 have o2:ovS (chg 1 0 [97]) (chg 1 0 [98])=(noC,false):=by kernel_rfl
 have o3:ovS (chg 0 2 []) (chg 1 2 [])=(noC,false):=by kernel_rfl
 have o4:ovS (chg 1 0 [97]) (chg 1 1 [])=(chg 1 0 [97],true):=by kernel_rfl
 have o5:ovS (chg 1 1 []) (chg 1 0 [97])=(chg 2 1 [],true):=by kernel_rfl
 have v1:=λ n=>(KF (a:=2) (c:=1) (s:=[]) (a':=0) (c':=1) (s':=[120,121,122]) (by decide) (by decide) n).trans (congrArg some o1)
 have v2:=λ n=>(KF (a:=1) (c:=0) (s:=[97]) (a':=1) (c':=0) (s':=[98]) (by decide) (by decide) n).trans (congrArg some o2)
 have v3:=λ n=>(KF (a:=0) (c:=2) (s:=[]) (a':=1) (c':=2) (s':=[]) (by decide) (by decide) n).trans (congrArg some o3)
 have v4:=λ n=>(KF (a:=1) (c:=0) (s:=[97]) (a':=1) (c':=1) (s':=[]) (by decide) (by decide) n).trans (congrArg some o4)
 have v5:=λ n=>(KF (a:=1) (c:=1) (s:=[]) (a':=1) (c':=0) (s':=[97]) (by decide) (by decide) n).trans (congrArg some o5)
 unfold Hf
 refine Tot.ev (Tot.bindA (y:=chg 1 1 [120,121]) (λ n=>rfl) (Tot.bindE h1 (Tot.bindA (y:=chg 0 3 []) (λ n=>rfl) (Tot.bindA (y:=chg 4 0 [97]) (λ n=>rfl) (Tot.bindA (y:=chg (-1) 0 [97]) (λ n=>rfl) (Tot.bindA (y:=chg 0 0 [32]) (λ n=>rfl) (Tot.bind (R:=λ y=>y=.inl ()) ?_ λ y hy=>?_)))))))
 ·refine Tot.upto 5 (λ i (x:Int)=>x=(i:Int)) (λ i x hi hx=>?_) (λ x hx=>?_) _ rfl
  ·subst hx
   obtain ⟨c,g1,g2,g3⟩:=VN i hi
   have g4:=Rz Je1 g2
   rw [g3] at g4
   unfold Ea
   exact Tot.iteT (decide_eq_true (show (i:Int)<((5:Nat):Int) by omega)) (Tot.bindC g1 (Tot.bindE g4 (Tot.iteF rfl (Tot.pure (Aq (by omega))))))
  ·subst hx
   unfold Ea
   exact Tot.iteF rfl (Tot.pure rfl)
 ·subst hy
  refine Tot.bindA (y:=chg 2 1 []) (λ n=>rfl) (Tot.bindA (y:=chg 0 1 [120,121,122]) (λ n=>rfl) (Tot.bindA v1 (Tot.bindA (y:=chg 1 0 [97]) (λ n=>rfl) (Tot.bindA (y:=chg 1 0 [98]) (λ n=>rfl) (Tot.bindA v2 (Tot.bindA (y:=chg 0 2 []) (λ n=>rfl) (Tot.bindA (y:=chg 1 2 []) (λ n=>rfl) (Tot.bindA v3 (Tot.bindA (y:=chg 1 0 [97]) (λ n=>rfl) (Tot.bindA (y:=chg 1 1 []) (λ n=>rfl) (Tot.bindA v4 (Tot.bindA (y:=chg 1 1 []) (λ n=>rfl) (Tot.bindA (y:=chg 1 0 [97]) (λ n=>rfl) (Tot.bindA v5 ?_))))))))))))))
  refine Tot.bindA (y:=chg 2 1 [122]) (λ n=>rfl) (Tot.bindA (y:=chg 0 1 [120,121]) (λ n=>rfl) (Tot.bindA (y:=chg 1 0 [112]) (λ n=>rfl) (Tot.bindA (y:=chg 1 0 [113]) (λ n=>rfl) (Tot.bindE hj (Tot.bindA (y:=chg 1 0 [97]) (λ n=>rfl) (Tot.bindA (y:=chg 0 0 [98]) (λ n=>rfl) (Tot.bindA (y:=chg 2 0 [99]) (λ n=>rfl) (Tot.bindE hc ?_))))))))
  have hs:Ev (λ n=>EW n [{ Kind:=1,Level:=0,Text:=[97,120,121,99],Rows:=[],F:=[],Pic:={ W:=0,H:=0,Gap:=0,F:=[] },Page:=0 }] [{ Kind:=1,Level:=0,Text:=[97,120,121,99],Rows:=[],F:=[],Pic:={ W:=0,H:=0,Gap:=0,F:=[] },Page:=0 }]) true:=Ro (by decide) λ x hx=>by
   rw [List.mem_singleton] at hx
   subst hx
   exact ⟨by decide,by simp,by decide,by decide,by simp⟩
  refine Tot.gE rfl hs (Tot.gE rfl (x:=chg 4 1 []) (Ev.all λ n=>rfl) (Tot.gE rfl (x:=chg 1 0 [97]) (Ev.all λ n=>rfl) (Tot.gE rfl (x:=chg 2 1 []) (Ev.all λ n=>rfl) (Tot.gE rfl (x:=chg 0 1 [120,121]) (Ev.all λ n=>rfl) (Tot.gE rfl (x:=chg 3 1 [122]) (Ev.all λ n=>rfl) ?_)))))
  exact Tot.gE rfl (Vr (v:={ Agreed:=[chg 0 1 [120,121],chg 3 1 [122]],Quarrels:=[⟨3,4⟩] }) (by decide) (by decide)) (Tot.pure rfl)
theorem JiP {b:List Af} (h:VB b) (c:Ac):Ev (λ n=>EW n (apS b c).1 (apS b c).1) true:=by
 cases hc:apB b c with
 | true=>exact (h.ap hc).same
 | false=>
  rw [WV hc]
  exact Ro (by simp) (by simp)
theorem Ox {a m:Int} (hm:m=3\/m=4):-3<=Ah a m/\Ah a m<=3:=by
 have h:=Int.natAbs_tmod a m
 have hlt:a.natAbs % m.natAbs<m.natAbs:=Nat.mod_lt _ (by omega)
 unfold Ah
 omega
theorem Jez {l:List A7} {x:A0} (hl:∀ y∈l,RwB y) (hx:RwC x) (w:YP Int):Tot (λ n=>Eu n l x w) (λ y=>y=true):=by
 refine Tot.bindE Zk (Tot.bind (Jeq hl) λ b hb=>Tot.bind (Jbi hb.bkt hx (by decide) (by decide)) λ c hc=>?_)
 refine Tot.bind (R:=λ y=>y=.inl ()) ?_ λ y hy=>by subst hy;exact Tot.pure rfl
 have m1:=Ox (a:=w.a0) (m:=3) (.inl rfl)
 have m2:=Ox (a:=w.a1) (m:=4) (.inr rfl)
 have m3:=Ox (a:=w.a2) (m:=4) (.inr rfl)
 have c1:=hc.bl
 have c2:=hc.at0
 have c3:=hc.at1
 have c4:=hc.cut0
 have c5:=hc.cut1
 have c6:=hc.put
 refine Tot.upto 2 (λ i (x:Int)=>x=(i:Int)) (λ i x hi hx=>?_) (λ x hx=>?_) _ rfl
 ·subst hx
  unfold Cm
  have key:∃ d,idx [c,({ Block:=Ai .i64 c.Block (IntKind.i64.wrap (Ah w.a0 3)),At:=Ai .i64 c.At (IntKind.i64.wrap (Ah w.a1 4)),Cut:=Ai .i64 c.Cut (IntKind.i64.wrap (Ah w.a2 4)),Put:=c.Put }:Ac)] (i:Int)=some d/\Okc 1000000000000 d:=by
   rcases (by omega:i=0\/i=1) with rfl|rfl
   ·exact ⟨c,rfl,hc.ok (by decide)⟩
   ·refine ⟨_,rfl,?_⟩
    rw [w64 (a:=Ah w.a1 4) (by omega) (by omega),w64 (a:=Ah w.a2 4) (by omega) (by omega),DY (a:=c.At) (by omega) (by omega),DY (a:=c.Cut) (by omega) (by omega)]
    unfold Okc
    simp only
    omega
  obtain ⟨d,hd1,hd2⟩:=key
  refine Tot.iteT (decide_eq_true (show (i:Int)<2 by omega)) (Tot.bindC hd1 (Tot.bindE (Rz hb.bkt hd2) (Tot.bindC hd1 (Tot.bindE (Ze hb.bkt hd2) (Tot.bindE (JiP hb d) (Tot.iteF (by simp) ?_))))))
  cases hap:apB b d with
  | false=>
   rw [WV hap]
   exact Tot.gF rfl (Tot.iteF rfl (Tot.pure (Aq (by omega))))
  | true=>
   have hv:=hb.ap hap
   have hlen:(apS b d).1.length=b.length:=by rw [TX hap];exact KE _ _ _
   have he:(apS b d).2=0:=by rw [TX hap]
   refine Tot.gE (by rw [he];rfl) (WY hv) (Tot.iteF ?_ (Tot.pure (Aq (by omega))))
   rw [he,hlen]
   simp
 ·subst hx
  unfold Cm
  exact Tot.iteF rfl (Tot.pure rfl)
end Go.AI
end
section
namespace Go.AI
theorem HM {n:Int} (h:okI .u8 n):U8 n:=by
 unfold okI Lit.wf at h
 have:IntKind.u8.min=0/\IntKind.u8.max=255:=by decide
 unfold U8
 simp only [Jll,decide_eq_true_eq] at h
 omega
theorem JiQ {x:A0} (h:ED x):RwC x:=⟨HM h.1,HM h.2.1,HM h.2.2.1,h.2.2.2.1,λ y hy=>HM (h.2.2.2.2 y hy)⟩
theorem JiR {x:A7} (h:Hw x):RwB x:=⟨HM h.1,HM h.2.1,h.2.2.1.1,λ y hy=>HM (h.2.2.1.2 y hy),HM h.2.2.2.1.2.1,HM h.2.2.2.2.1,HM h.2.2.2.2.2.1⟩
theorem Tot.out {f:Nat->Option Bool} (h:Tot f (λ y=>y=true)):∃ n,f n=some true:=by
 obtain ⟨z,rfl,N,h⟩:=h
 exact ⟨N,h N (Jlb _)⟩
theorem JbR:∀ (l:List A7) (x:A0) (w:YP Int),(l.length<=9223372036854775807/\∀ a∈l,Hw a)->ED x->(okI .i8 w.a0/\okI .i8 w.a1/\okI .i8 w.a2)->∃ n,Eu n l x w=some true:=λ _ _ w hl hx _=>(Jez (λ y hy=>JiR (hl.2 y hy)) (JiQ hx) w).out
end Go.AI
end
section
namespace Go.Proofs.YtbegmnhifelfoaaGreat
open Go.AI Go.ChangeShapes Go.WideShapes Go.ChangeAt Go.RowKit
theorem own:ownKnob Tryz.prog.godebug=none:=by kernel_rfl
set_option maxRecDepth 100000 in
theorem JiS (os:Os) (started:os.Started) (H:Type) (enc:TypeId×Value->H) :
  ReturnsInHanded {} Tryz.checked os 3 .any (Rows.carryAppliesSpec.pre6 enc Tryz.prog Tryz.f3 Rows.carryAppliesRow.domain false) (Rows.carryAppliesSpec.post enc Tryz.prog Tryz.f3 false true false false):=by
 refine returnsInHanded_of_change (C:=Tryz.checked) own started (by kernel_rfl) Tryz.func3
  (ChangeSpec.witness6 (enc:=enc) (C:=Tryz.checked) false ⟨#[],#[.slice none 0 0,.agg #[.int .u8 0,.int .u8 0,.int .u8 0,.slice none 0 0],.agg #[.int .i8 0,.int .i8 0,.int .i8 0]],[]⟩ 8 (by kernel_rfl) (by kernel_rfl) (by kernel_rfl) (by kernel_rfl)) ?_
 intro W base args ds gs before hval0 hW hcnd _
 have hval:∀ (j:Nat) t v,Tryz.f3.params[j]? = some t->args[j]? = some v->Value.okWide Tryz.prog W .any base t v:=hval0
 have hW':=hW
 obtain ⟨p,q,hA0,hV,rfl,hfz,hnd⟩:=hW
 have hA:DataW.TrodAll enc Tryz.prog W 0 (λ _=>true) true Tryz.f3.params.toList args.toList ds p:=hA0
 have hlt:=hA.lt
 rw [Tryz.params3] at hA hval
 obtain ⟨v0,vs0,d0,ds0,p0,q0,hargs,rfl,rfl,h0,r0⟩:=trodAll_cons hA
 obtain ⟨v1,vs1,d1,ds1,p1,q1,rfl,rfl,rfl,h1,r1⟩:=trodAll_cons r0
 obtain ⟨v2,vs2,d2,ds2,p2,q2,rfl,rfl,rfl,h2,r2⟩:=trodAll_cons r1
 obtain ⟨rfl,rfl,rfl⟩:=trodAll_nil r2
 obtain rfl:args=#[v0,v1,v2]:=by cases args;simp_all
 obtain ⟨rfl,rfl⟩:=trodVars_none hV
 obtain ⟨x0,y0,z0,hc0⟩:=okWide_slice Tryz.underlying22 (hval 0 22 v0 rfl rfl)
 obtain ⟨a0,k0,rep0⟩:=Jd8 (y:=λ a=>.sl (a.map BJ)) (by rw [hc0];rfl) h0 JkW (λ _=>rfl)
 obtain ⟨cs1,hc1,_⟩:=okWide_struct Tryz.underlying25 (hval 1 25 v1 rfl rfl)
 obtain ⟨a1,k1,rep1⟩:=Xy hc1 h1 JkX
 obtain ⟨cs2,hc2,_⟩:=TN Tryz.underlying27 (hval 2 27 v2 rfl rfl)
 obtain ⟨a2,k2,rep2⟩:=Xy hc2 h2 JkY
 clear hA0 hval0
 simp only [List.append_nil] at hW' hlt
 obtain ⟨n,hn⟩:=JbR a0 a1 a2 k0 k1 k2
 refine (Ja6 (Kz hn) (TO rep0 (TO rep1 (TO rep2 Jit)))).mono λ e W' ⟨he,hg,hold⟩=>?_
 subst he
 exact ⟨_,rfl,YR (pv:=[]) hW' (λ _ _ _=>(trodAll_cons_mk (shut_bool Tryz.underlying4 _) trodAll_mk0)) (λ sp hsp=>trodAll_cons_mk (Ja7 (by kernel_rfl) (by kernel_rfl) (of_decide_eq_true (by kernel_rfl)) h0 (λ p hp=>hlt p (by simp [hp])) (λ p hp=>hsp p (by simp [hp])) hold) (trodAll_cons_mk (Ja7 (by kernel_rfl) (by kernel_rfl) (of_decide_eq_true (by kernel_rfl)) h1 (λ p hp=>hlt p (by simp [hp])) (λ p hp=>hsp p (by simp [hp])) hold) (trodAll_cons_mk (Ja7 (by kernel_rfl) (by kernel_rfl) (of_decide_eq_true (by kernel_rfl)) h2 (λ p hp=>hlt p (by simp [hp])) (λ p hp=>hsp p (by simp [hp])) hold) trodAll_mk0))) (λ _ _=>rfl) (by simp) (hg _) hold (ok_one (by kernel_rfl) rfl (okWide_bool_mk Tryz.underlying4 _))⟩
theorem Jk1:Rows.carryAppliesRow.holds Tryz.pinned (OpenSpec.ofChange Rows.carryAppliesSpec):=
 OpenClaim.holds_of_wide 3 Tryz.f3 rfl rfl rfl rfl rfl rfl rfl ⟨rfl,rfl,rfl,rfl,rfl⟩ rfl rfl rfl rfl rfl (by kernel_rfl) Tryz.func3 (by kernel_rfl)
  (of_decide_eq_true (by kernel_rfl)) (by unfold Func.isWrapper;first|(rw [if_pos (by decide +kernel)];kernel_rfl)|(rw [if_neg (by decide +kernel)];exact ⟨rfl,rfl⟩))
  (λ os started H enc _=>JiS os started H enc)
theorem carryApplies_holds:Rows.CarryAppliesSaid:=Jk1
end Go.Proofs.YtbegmnhifelfoaaGreat
end
