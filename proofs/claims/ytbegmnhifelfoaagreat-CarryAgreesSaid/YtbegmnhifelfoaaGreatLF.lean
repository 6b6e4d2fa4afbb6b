/- The theorem: the last one of this text; part 6 of 6 of its proof. It holds with no condition beyond the given statement. -/
import Derived.Test.YtbegmnhifelfoaaGreatLE
import Derived.Test.YtbegmnhifelfoaaGreatRows
section
namespace Go.AI
def D5 (x:Am):Int:=(Cg 0 x).getD 0
theorem ar3 (x:Am) (b:Bool):∃ a,Cn 0 x b=some a/\-1<=a/\a<=16:=by
 unfold Cn Bm
 split
 ·split
  ·exact ⟨1,rfl,by decide⟩
  ·exact ⟨-1,rfl,by decide⟩
 ·split
  ·split
   ·rename_i h
    rw [JmN,decide_eq_true_eq,decide_eq_true_eq] at h
    refine ⟨_,rfl,?_⟩
    rw [DG (by omega) (by omega)];omega
   ·exact ⟨-1,rfl,by decide⟩
  ·split
   ·split
    ·rename_i h
     simp only [JmN,decide_eq_true_eq] at h
     obtain ⟨⟨⟨⟨h0,h1⟩,h2⟩,h3⟩,h4⟩:=h
     refine ⟨_,rfl,?_⟩
     generalize Dv .i64 x.N 8=q at *
     generalize Al x.N 8=r at *
     have hq:q=1\/q=2\/q=3\/q=4:=by omega
     have hr:r=1\/r=2\/r=3\/r=4:=by omega
     rcases hq with rfl|rfl|rfl|rfl<;>rcases hr with rfl|rfl|rfl|rfl<;>decide
    ·exact ⟨-1,rfl,by decide⟩
   ·exact ⟨-1,rfl,by decide⟩
theorem ar2 (x:Am) (b:Bool):∃ a,Bn 0 x b=some a/\(-1<=a/\a<=16)/\(b=true->a=-1\/a=2):=by
 unfold Bn Bm
 split
 ·split
  ·exact ⟨2,rfl,by decide,λ _=>.inr rfl⟩
  ·exact ⟨-1,rfl,by decide,λ _=>.inl rfl⟩
 ·rename_i h
  split
  ·obtain ⟨a,h1,h2⟩:=ar3 x (x.Op==9);exact ⟨a,h1,h2,λ hb=>absurd hb h⟩
  ·split
   ·obtain ⟨a,h1,h2⟩:=ar3 x (x.Op==10);exact ⟨a,h1,h2,λ hb=>absurd hb h⟩
   ·obtain ⟨a,h1,h2⟩:=ar3 x (x.Op==11);exact ⟨a,h1,h2,λ hb=>absurd hb h⟩
theorem ar1 (x:Am):∃ a,Cg 0 x=some a/\(-1<=a/\a<=16)/\((x.Op=2\/x.Op=3\/x.Op=4\/x.Op=5)->a=-1\/a=2):=by
 have step:∀ k:Int,x.Op≠0->x.Op≠1->(x.Op=k\/¬(x.Op=2\/x.Op=3\/x.Op=4\/x.Op=5))->∃ a,Bn 0 x (x.Op==k)=some a/\(-1<=a/\a<=16)/\((x.Op=2\/x.Op=3\/x.Op=4\/x.Op=5)->a=-1\/a=2):=λ k _ _ hk=>by
  obtain ⟨a,h1,h2,h3⟩:=ar2 x (x.Op==k)
  refine ⟨a,h1,h2,λ h=>?_⟩
  rcases hk with hk|hk
  ·exact h3 (by simpa using hk)
  ·exact absurd h hk
 unfold Cg Bm
 by_cases h0:x.Op=0
 ·rw [if_pos (by simpa using h0)]
  split
  ·exact ⟨0,rfl,by decide,λ h=>by omega⟩
  ·exact ⟨-1,rfl,by decide,λ _=>.inl rfl⟩
 ·rw [if_neg (by simpa using h0)]
  by_cases h1:x.Op=1
  ·rw [if_pos (by simpa using h1)]
   split
   ·exact ⟨0,rfl,by decide,λ h=>by omega⟩
   ·exact ⟨-1,rfl,by decide,λ _=>.inl rfl⟩
  ·rw [if_neg (by simpa using h1)]
   by_cases h2:x.Op=2
   ·rw [if_pos (by simpa using h2)];exact step 2 h0 h1 (.inl h2)
   ·rw [if_neg (by simpa using h2)]
    by_cases h3:x.Op=3
    ·rw [if_pos (by simpa using h3)];exact step 3 h0 h1 (.inl h3)
    ·rw [if_neg (by simpa using h3)]
     by_cases h4:x.Op=4
     ·rw [if_pos (by simpa using h4)];exact step 4 h0 h1 (.inl h4)
     ·rw [if_neg (by simpa using h4)]
      by_cases h5:x.Op=5
      ·rw [if_pos (by simpa using h5)];exact step 5 h0 h1 (.inl h5)
      ·rw [if_neg (by simpa using h5)]
       have hn:¬(x.Op=2\/x.Op=3\/x.Op=4\/x.Op=5):=by omega
       split
       ·exact step 6 h0 h1 (.inr hn)
       ·split
        ·exact step 7 h0 h1 (.inr hn)
        ·exact step 8 h0 h1 (.inr hn)
theorem YE (n:Nat) (x:Am):Cg n x=some (D5 x):=by
 obtain ⟨a,h1,_⟩:=ar1 x
 have e:Cg n x=Cg 0 x:=rfl
 unfold D5
 rw [e,h1];rfl
theorem YF (x:Am):-1<=D5 x/\D5 x<=16:=by
 obtain ⟨a,h1,h2,_⟩:=ar1 x
 unfold D5
 rw [h1];exact h2
theorem JjQ {x:Am} (h:x.Op=2\/x.Op=3\/x.Op=4\/x.Op=5) (h0:0<=D5 x):D5 x=2:=by
 obtain ⟨a,h1,_,h3⟩:=ar1 x
 unfold D5 at h0 ⊢
 rw [h1] at h0 ⊢
 rcases h3 h with rfl|rfl
 ·exact absurd h0 (by decide)
 ·rfl
def enS:Nat->List Am->Option Nat
 | 0,_=>some 0
 | _+1,[]=>none
 | o+1,x::l=>if D5 x<0 then none else (enS (o+(D5 x).toNat) l).map (·+1)
theorem Ly (o:Nat) (x:Am) (l:List Am):enS (o+1) (x::l)=if D5 x<0 then none else (enS (o+(D5 x).toNat) l).map (·+1):=rfl
theorem N9 (l:List Am):enS 0 l=some 0:=by cases l<;>rfl
theorem Jlt {o:Nat} {l:List Am} {k:Nat} (h:enS o l=some k):k<=l.length:=by
 induction l generalizing o k with
 | nil=>
  cases o with
  | zero=>rw [N9] at h;cases h;exact JmD _
  | succ o=>cases h
 | cons x l ih=>
  cases o with
  | zero=>rw [N9] at h;cases h;exact Nat.zero_le _
  | succ o=>
   rw [Ly] at h
   split at h
   ·cases h
   ·rw [JmP] at h
    obtain ⟨j,hj,rfl⟩:=h
    have:=ih hj
    simp only [List.length_cons];omega
theorem Wv {a b:Nat} {l:List Am} {k:Nat} (h:enS (a+b) l=some k):∃ j,enS a l=some j/\(j<=k/\(0<a->0<j))/\enS b (l.drop j)=some (k-j):=by
 induction l generalizing a b k with
 | nil=>
  cases a with
  | zero=>exact ⟨0,rfl,⟨Nat.zero_le _,λ h=>h⟩,by simpa using h⟩
  | succ a=>rw [Nat.succ_add] at h;cases h
 | cons x l ih=>
  cases a with
  | zero=>exact ⟨0,N9 _,⟨Nat.zero_le _,λ h=>h⟩,by simpa using h⟩
  | succ a=>
   rw [Nat.succ_add,Ly] at h
   split at h
   ·cases h
   ·rename_i hx
    rw [JmP] at h
    obtain ⟨m,hm,rfl⟩:=h
    rw [show a+b+(D5 x).toNat=(a+(D5 x).toNat)+b by omega] at hm
    obtain ⟨j,h1,h2,h3⟩:=ih hm
    refine ⟨j+1,?_,⟨by omega,λ _=>by omega⟩,?_⟩
    ·rw [Ly,if_neg hx,h1];rfl
    ·rw [List.drop_succ_cons,h3];congr 1;omega
theorem Oa {f:List Am} {i:Nat} (h:i<f.length):idx f (i:Int)=some (f.getD i default):=Dg h
theorem Jcn {f:List Am} (hf:f.length<=1000000) {i:Nat} (hi:i<=f.length):Ev (λ n=>Ln n f (i:Int)) (match enS 1 (f.drop i) with|some k=>((i+k:Nat):Int)|none=>-1):=by
 refine Tot.ev (Tot.bind (R:=λ y=>(match y with | .inl a=>a | .inr a=>a)=(match enS 1 (f.drop i) with|some k=>((i+k:Nat):Int)|none=>-1)) ?_ λ y hy=>by
  cases y with
  | inl a=>exact Tot.pure hy
  | inr a=>exact Tot.pure hy)
 refine Tot.whl (λ q (x:Int×Int)=>∃ j o:Nat,(x.1=(j:Int)/\x.2=(o:Int))/\(j<=f.length/\q=f.length-j)/\o<=1+16*j/\(match enS o (f.drop j) with|some k=>((j+k:Nat):Int)|none=>-1)=(match enS 1 (f.drop i) with|some k=>((i+k:Nat):Int)|none=>-1)) ?_ (f.length-i) _ ⟨i,1,⟨rfl,rfl⟩,⟨hi,rfl⟩,by omega,rfl⟩
 rintro q ⟨a,b⟩ ⟨j,o,⟨h1,h2⟩,⟨h3,rfl⟩,h4,h5⟩
 simp only at h1 h2
 subst h1 h2
 unfold GZ
 cases o with
 | zero=>
  refine Tot.iteF rfl (Tot.pure ?_)
  rw [N9] at h5
  exact h5
 | succ o=>
  refine Tot.iteT (decide_eq_true (by omega)) ?_
  have e1:decide ((j:Int)<0)=false:=decide_eq_false (by omega)
  rcases JmE j f.length with hj|hj
  ·have e2:decide ((j:Int)>=((f.length:Nat):Int))=false:=decide_eq_false (by omega)
   rw [e1,e2]
   have hb:=YF (f.getD j default)
   refine Tot.gE rfl (Ev.all λ n=>Oa hj) (Tot.gE rfl (Ev.all λ n=>YE n _) ?_)
   rw [List.drop_eq_getElem_cons hj,Ly,← BU (d:=default) hj] at h5
   refine Tot.ite (λ h=>Tot.pure ?_) λ h=>?_
   ·have h:D5 (f.getD j default)<0:=by simpa using h
    rw [if_pos h] at h5
    exact h5
   ·have h:0<=D5 (f.getD j default):=by simpa using h
    rw [if_neg (by omega)] at h5
    refine Tot.bindC (Oa hj) (Tot.bindA (λ n=>YE n _) (Tot.pure ⟨f.length-(j+1),by omega,j+1,o+(D5 (f.getD j default)).toNat,⟨An (by omega),?_⟩,⟨by omega,rfl⟩,by omega,?_⟩))
    ·show Ai .i64 ((o+1:Nat):Int) (AU .i64 (D5 (f.getD j default)) 1)=_
     rw [Cq (by omega) (by omega),DG (by omega) (by omega)];omega
    ·rw [← h5]
     cases enS (o+(D5 (f.getD j default)).toNat) (f.drop (j+1)) with
     | none=>rfl
     | some k=>simp only [Option.map_some];congr 1;omega
  ·have e2:decide ((j:Int)>=((f.length:Nat):Int))=true:=decide_eq_true (by omega)
   rw [e1,e2]
   refine Tot.gF rfl (Tot.gF rfl (Tot.iteT rfl (Tot.pure ?_)))
   rw [List.drop_of_length_le hj] at h5
   exact h5
theorem YG {f:List Am} (h:enS 1 f=some f.length):∀ i,i<f.length->∃ o,enS (o+1) (f.drop i)=some (f.length-i)
 | 0,_=>⟨0,by simpa using h⟩
 | i+1,hi=>by
  obtain ⟨o,ho⟩:=YG h i (by omega)
  rw [List.drop_eq_getElem_cons (by omega),Ly] at ho
  split at ho
  ·cases ho
  ·rw [JmP] at ho
   obtain ⟨m,hm,he⟩:=ho
   generalize ho':o+(D5 f[i]).toNat=o' at hm
   cases o' with
   | zero=>rw [N9] at hm;cases hm;omega
   | succ o'=>exact ⟨o',by rw [hm];congr 1;omega⟩
theorem YH {f:List Am} (h:enS 1 f=some f.length) {i:Nat} (hi:i<f.length):0<=D5 (f.getD i default)/\∃ k,enS (D5 (f.getD i default)).toNat (f.drop (i+1))=some k:=by
 obtain ⟨o,ho⟩:=YG h i hi
 rw [List.drop_eq_getElem_cons hi,Ly,← BU (d:=default) hi] at ho
 split at ho
 ·cases ho
 ·rw [JmP] at ho
  obtain ⟨m,hm,_⟩:=ho
  rw [Nat.add_comm] at hm
  obtain ⟨j,hj,_⟩:=Wv hm
  exact ⟨by omega,j,hj⟩
theorem Jco {f:List Am} (hf:f.length<=1000000) (h:enS 1 f=some f.length) {i:Nat} (hi:i<f.length):Tot (λ n=>Dn n f (i:Int)) (λ l=>(l.length:Int)=D5 (f.getD i default)/\∀ v∈l,∃ j:Nat,v=(j:Int)/\i<j/\j<f.length):=by
 obtain ⟨h0,k0,hk0⟩:=YH h hi
 have hb:=YF (f.getD i default)
 refine Tot.bind (R:=λ l=>(l.length:Int)=D5 (f.getD i default)/\∀ v∈l,∃ j:Nat,v=(j:Int)/\i<j/\j<f.length) ?_ λ l hl=>Tot.pure hl
 refine Tot.upto (D5 (f.getD i default)).toNat (λ m (x:List Int×Int×Int)=>(x.2.2=(m:Int)/\x.1.length=m)/\(∀ v∈x.1,∃ j:Nat,v=(j:Int)/\i<j/\j<f.length)/\∃ j k:Nat,x.2.1=(j:Int)/\(i<j/\j<=f.length)/\enS ((D5 (f.getD i default)).toNat-m) (f.drop j)=some k) ?_ ?_ _ ⟨⟨rfl,rfl⟩,by simp,i+1,k0,An (by omega),by omega,hk0⟩
 ·rintro m ⟨l,a,b⟩ hm ⟨⟨h1,h2⟩,h3,j,k,h4,h5,h6⟩
  simp only at h1 h2 h3 h4
  subst h1 h4
  unfold Ch
  have hs:(D5 (f.getD i default)).toNat-m=1+((D5 (f.getD i default)).toNat-(m+1)):=by omega
  rw [hs] at h6
  obtain ⟨q,q1,q2,q3⟩:=Wv h6
  have hlt:j<f.length:=by
   rcases JmE j f.length with h|h
   ·exact h
   ·rw [List.drop_of_length_le h] at q1;cases q1
  have hle:=Jlt q1
  rw [List.length_drop] at hle
  have he:=Jcn hf (i:=j) (by omega)
  rw [q1] at he
  refine Tot.bindC (Oa hi) (Tot.bindA (λ n=>YE n _) (Tot.iteT (decide_eq_true (show (m:Int)<D5 (f.getD i default) by omega)) (Tot.bindC (A9 (by simp;omega)) (Tot.bindE he (Tot.pure ⟨⟨An (by omega),by simp;exact h2⟩,λ v hv=>?_,j+q,k-q,rfl,by omega,?_⟩)))))
  ·rw [List.mem_append,List.mem_singleton] at hv
   rcases hv with hv|rfl
   ·exact h3 v hv
   ·exact ⟨j,rfl,h5.1,hlt⟩
  ·rw [← List.drop_drop];exact q3
 ·rintro ⟨l,a,b⟩ ⟨⟨h1,h2⟩,h3,j,k,h4,h5,h6⟩
  simp only at h1 h2 h3 h4
  subst h1 h4
  unfold Ch
  refine Tot.bindC (Oa hi) (Tot.bindA (λ n=>YE n _) (Tot.iteF (decide_eq_false (show ¬(((D5 (f.getD i default)).toNat:Nat):Int)<D5 (f.getD i default) by omega)) (Tot.pure ⟨by show (l.length:Int)=_;omega,h3⟩)))
theorem UQ (p:Int):Tot (λ n=>CC n p) (λ _=>True):=by
 unfold CC C4
 refine Tot.ite (λ _=>Tot.pure trivial) λ _=>Tot.ite (λ _=>Tot.ite (λ _=>Tot.pure trivial) λ _=>Tot.ite (λ _=>Tot.pure trivial) λ _=>Tot.pure trivial) λ _=>Tot.ite (λ _=>Tot.pure trivial) λ _=>Tot.ite (λ _=>Tot.pure trivial) λ _=>Tot.pure trivial
theorem Jcp {f:List Am} (hf:f.length<=1000000) (h:enS 1 f=some f.length) {i:Nat} (hi:i<f.length):Tot (λ n=>OF n f (i:Int)) (λ _=>True):=by
 refine Tot.bind (Jco hf h hi) λ l hl=>Tot.bindC (Oa hi) ?_
 have h0:=(YH h hi).1
 generalize hx:f.getD i default=x at *
 have gd:∀ k:Nat,k<l.length->∃ j:Nat,idx l (k:Int)=some (j:Int)/\j<f.length:=λ k hk=>by
  obtain ⟨j,h1,h2,h3⟩:=hl.2 _ (JmB hk)
  exact ⟨j,by rw [AD hk,h1],h3⟩
 have key:∀ b:Bool,(b=true->x.Op=2\/x.Op=3\/x.Op=4\/x.Op=5)->Tot (λ n=>CN n f (i:Int) l x b) (λ _=>True):=λ b hb=>by
  unfold CN Gw
  refine Tot.ite (λ h1=>?_) λ _=>Tot.ite (λ h1=>?_) λ _=>Tot.pure trivial
  ·have ha:=JjQ (hb h1) h0
   have hll:l.length=2:=by omega
   obtain ⟨j0,g0,g0'⟩:=gd 0 (by omega)
   obtain ⟨j1,g1,g1'⟩:=gd 1 (by omega)
   refine Tot.bindC (Oa hi) (Tot.bind (UQ _) λ r72 _=>Tot.bindC g0 (Tot.bindC (Oa g0') (Tot.bind (UQ _) λ r73 _=>?_)))
   cases hd:decide (r73>=r72) with
   | false=>exact Tot.gF rfl (Tot.gF rfl (Tot.gF rfl (Tot.pure trivial)))
   | true=>exact Tot.gE rfl (Ev.all λ n=>g1) (Tot.gE rfl (Ev.all λ n=>Oa g1') (Tot.guard (R:=λ _=>True) (λ _=>UQ _) λ _ _=>Tot.pure trivial))
  ·refine Tot.bind (R:=λ _=>True) ?_ λ y _=>by
    cases y with
    | inl _=>exact Tot.pure trivial
    | inr _=>exact Tot.pure trivial
   refine Tot.upto l.length (λ k (x:Int)=>x=(k:Int)) (λ k x hk hx=>?_) (λ x hx=>?_) _ rfl
   ·subst hx
    unfold Gx
    obtain ⟨j,g,g'⟩:=gd k hk
    refine Tot.iteT (decide_eq_true (by omega)) (Tot.bindC g (Tot.bindC (Oa g') (Tot.ite (λ _=>Tot.pure trivial) λ _=>Tot.pure (An ?_))))
    have:=YF x
    omega
   ·subst hx
    unfold Gx
    exact Tot.iteF (decide_eq_false (by omega)) (Tot.pure trivial)
 refine Tot.ite (λ h1=>key _ λ _=>?_) λ _=>Tot.ite (λ h1=>key _ λ _=>?_) λ _=>Tot.ite (λ h1=>key _ λ _=>?_) λ _=>key _ λ h1=>?_
 ·left;simpa using h1
 ·right;left;simpa using h1
 ·right;right;left;simpa using h1
 ·right;right;right;simpa using h1
theorem Jcq {f:List Am}:Tot (λ n=>Nz n f) (λ b=>b=true->f.length<=200/\(0<f.length/\enS 1 f=some f.length)):=by
 unfold Nz
 by_cases h0:f.length=0\/200<f.length
 ·have e:((((f.length:Nat):Int)==0)||(decide (((f.length:Nat):Int)>200)))=true:=by
   rw [Jm4,beq_iff_eq,decide_eq_true_eq];omega
  rw [e]
  exact Tot.gF rfl (Tot.iteT rfl (Tot.pure λ h=>by cases h))
 ·have e:((((f.length:Nat):Int)==0)||(decide (((f.length:Nat):Int)>200)))=false:=by
   rw [JmL,beq_eq_false_iff_ne,decide_eq_false_iff_not];omega
  rw [e]
  refine Tot.gE rfl (Jcn (f:=f) (i:=0) (by omega) (by omega)) (Tot.ite (λ _=>Tot.pure λ h=>by cases h) λ hb=>?_)
  rw [List.drop_zero,Bool.false_or,bne_eq_false_iff_eq] at hb
  have ht:enS 1 f=some f.length:=by
   cases he:enS 1 f with
   | none=>rw [he] at hb;simp only at hb;omega
   | some k=>rw [he] at hb;simp only at hb;congr 1;omega
  refine Tot.bind (R:=λ _=>True) ?_ λ y _=>by
   cases y with
   | inl _=>exact Tot.pure λ _=>⟨by omega,by omega,ht⟩
   | inr _=>exact Tot.pure λ _=>⟨by omega,by omega,ht⟩
  refine Tot.upto f.length (λ k (x:Int)=>x=(k:Int)) (λ k x hk hx=>?_) (λ x hx=>?_) _ rfl
  ·subst hx
   unfold HF
   exact Tot.iteT (decide_eq_true (by omega)) (Tot.bind (Jcp (by omega) ht hk) λ b _=>Tot.ite (λ _=>Tot.pure trivial) λ _=>Tot.pure (An (by omega)))
  ·subst hx
   unfold HF
   exact Tot.iteF (decide_eq_false (by omega)) (Tot.pure trivial)
theorem Jfk {f:List Am} (hf:f.length<=200) (h:enS 1 f=some f.length):∀ (d i:Nat),i<f.length->f.length-i<=d->Tot (λ n=>J3 (λ _ _=>none) (BG n) d f (i:Int)) (λ _=>True):=by
 intro d
 induction d with
 | zero=>intro i hi hd;omega
 | succ d ih=>
  intro i hi hd
  show Tot (λ n=>BG n (J3 (λ _ _=>none) (BG n) d) f (i:Int)) _
  unfold BG
  refine Tot.bind (Jco (by omega) h hi) λ l hl=>Tot.bind (R:=λ _=>True) ?_ λ _ _=>Tot.pure trivial
  have hb:=YF (f.getD i default)
  refine Tot.upto (body:=λ n (x:Int×Int)=>CO n (J3 (λ _ _=>none) (BG n) d) f l x.1 x.2) l.length (λ k (x:Int×Int)=>x.2=(k:Int)) ?_ ?_ _ rfl
  ·rintro k ⟨a,b⟩ hk hx
   simp only at hx
   subst hx
   obtain ⟨j,h1,h2,h3⟩:=hl.2 _ (JmB hk)
   unfold CO
   refine Tot.iteT (decide_eq_true (by omega)) (Tot.bindC (AD hk) ?_)
   rw [h1]
   exact Tot.bind (ih j h3 (by omega)) λ r _=>Tot.pure (An (by omega))
  ·rintro ⟨a,b⟩ hx
   simp only at hx
   subst hx
   unfold CO
   exact Tot.iteF (decide_eq_false (by omega)) (Tot.pure trivial)
theorem Jcr (n:Nat):∀ (x y:Nat),x<=y->∀ a b,Le (J3 (λ _ _=>none) (BG n) x a b) (J3 (λ _ _=>none) (BG n) y a b):=by
 intro x
 induction x with
 | zero=>intro y _ _ _ z hz;cases hz
 | succ x ih=>
  intro y hy _ _
  cases y with
  | zero=>omega
  | succ y=>exact Ss (JmD n) (ih y (by omega)) _ _
theorem TH (f:List Am):Tot (λ n=>Fg n f) (λ _=>True):=by
 unfold Fg
 refine Tot.guard (R:=λ b=>b=true->f.length<=200/\(0<f.length/\enS 1 f=some f.length)) (λ _=>Jcq) λ b hb=>?_
 refine Tot.guard (R:=λ _=>True) (λ hc=>?_) λ _ _=>Tot.pure trivial
 rw [JmN] at hc
 obtain ⟨h1,h2,h3⟩:=hb hc.1 hc.2
 obtain ⟨z,hz,N,hN⟩:=Jfk h1 h3 f.length 0 h2 (by omega)
 have hd:Tot (λ n=>OG n f ((0:Nat):Int)) (λ _=>True):=⟨z,hz,max N f.length,λ m hm=>Jcr m f.length m (by omega) _ _ _ (hN m (by omega))⟩
 exact Tot.bind hd λ _ _=>Tot.pure trivial
end Go.AI
end
section
namespace Go.AI
def Nr (p:Aa):Prop:=(-1000<=p.X/\p.X<=1000)/\-1000<=p.Y/\p.Y<=1000
theorem Jfl {a b:Int} (A B:Int) (h1:-A<=a) (h2:a<=A) (h3:-B<=b) (h4:b<=B):-(A*B)<=a*b/\a*b<=A*B:=by
 have hA:a.natAbs<=A.toNat:=by omega
 have hB:b.natAbs<=B.toNat:=by omega
 have h:=Nat.mul_le_mul hA hB
 rw [← Int.natAbs_mul] at h
 have e:((A.toNat*B.toNat:Nat):Int)=A*B:=by
  rw [Int.natCast_mul,Int.toNat_of_nonneg (by omega),Int.toNat_of_nonneg (by omega)]
 omega
theorem ZZ (P:List Aa) {i:Nat} (h:i<P.length):P.getD i default∈P:=by
 rw [JmV,JmM h]
 exact JmB _
def M0 (a b:Aa):Nat:=max (a.X-b.X).natAbs (a.Y-b.Y).natAbs
def btw (a b:Int) (k n:Nat):Int:=(2*(a*n+k*(b-a))+n) / (2*n)
def ptL (a b:Aa) (k:Nat):Aa:=⟨btw a.X b.X k (M0 a b),btw a.Y b.Y k (M0 a b)⟩
def Lc (a b:Aa):List Aa:=if M0 a b=0 then [a] else (List.range (M0 a b+1)).map (ptL a b)
theorem UR {a b:Aa} (ha:Nr a) (hb:Nr b):M0 a b<=2000:=by
 unfold M0;unfold Nr at ha hb;omega
theorem Z0 {a d:Int} (hd:0<d):(if decide (Al a d<0)=true then a.tdiv d-1 else a.tdiv d)=a / d:=by
 unfold Al
 have h1:=Int.mul_tdiv_add_tmod a d
 have h2:=Int.mul_ediv_add_emod a d
 have h3:=Int.emod_nonneg a (show d≠0 by omega)
 have h4:=Int.emod_lt_of_pos a hd
 rcases Int.lt_or_le a 0 with ha|ha
 ·have h5:a.tmod d<=0:=by
   have:=Int.tmod_nonneg d (a:=-a) (by omega)
   rw [Int.neg_tmod] at this
   omega
  have h6:-d<a.tmod d:=by
   have:=Int.lt_tmod_of_pos a hd
   omega
  split
  ·rename_i h
   have h:=of_decide_eq_true h
   refine Eq.symm (Int.ediv_eq_iff_of_pos hd |>.2 ?_)
   have:d*(a.tdiv d-1)=d*a.tdiv d-d:=by rw [Int.mul_sub,Int.mul_one]
   constructor
   ·rw [Int.mul_comm];omega
   ·rw [Int.mul_comm];omega
  ·rename_i h
   have h:¬a.tmod d<0:=λ hh=>h (decide_eq_true hh)
   refine Eq.symm (Int.ediv_eq_iff_of_pos hd |>.2 ?_)
   constructor
   ·rw [Int.mul_comm];omega
   ·rw [Int.mul_comm];omega
 ·have h5:=Int.tmod_nonneg d ha
  rw [if_neg (by simpa using h5)]
  exact Int.tdiv_eq_ediv_of_nonneg ha
theorem JjR {a b:Int} {k n:Nat} (ha:-1000<=a) (ha':a<=1000) (hb:-1000<=b) (hb':b<=1000) (hk:k<=2000) (hn:n<=2000) :
  (BV .i64 a n=a*n/\AU .i64 b a=b-a/\BV .i64 k (b-a)=k*(b-a)/\Ai .i64 (a*n) (k*(b-a))=a*n+k*(b-a) /\
  BV .i64 2 (a*n+k*(b-a))=2*(a*n+k*(b-a))/\Ai .i64 (2*(a*n+k*(b-a))) n=2*(a*n+k*(b-a))+n/\BV .i64 2 n=2*n) /\
  -20000000<=2*(a*n+k*(b-a))+n/\2*(a*n+k*(b-a))+n<=20000000:=by
 have h1:=Jfl (a:=a) (b:=n) 1000 2000 ha ha' (by omega) (by omega)
 have h2:=Jfl (a:=k) (b:=b-a) 2000 2000 (by omega) (by omega) (by omega) (by omega)
 exact ⟨⟨Gj (by omega) (by omega),Cq (by omega) (by omega),Gj (by omega) (by omega),DG (by omega) (by omega),Gj (by omega) (by omega),DG (by omega) (by omega),Gj (by omega) (by omega)⟩,by omega,by omega⟩
theorem JjS {a d:Int} (h:-20000000<=a) (h':a<=20000000):-20000000<=a.tdiv d/\a.tdiv d<=20000000:=by
 have:=Int.natAbs_tdiv_le_natAbs a d
 omega
theorem Ww (m:Nat) {a b:Int} {k n:Nat} (ha:-1000<=a) (ha':a<=1000) (hb:-1000<=b) (hb':b<=1000) (hk:k<=2000) (hn:n<=2000) (h0:0<n) :
  G1 m (Ai .i64 (BV .i64 2 (Ai .i64 (BV .i64 a n) (BV .i64 k (AU .i64 b a)))) n) (BV .i64 2 n)=some (btw a b k n):=by
 obtain ⟨⟨e1,e2,e3,e4,e5,e6,e7⟩,l1,l2⟩:=JjR ha ha' hb hb' hk hn
 unfold G1 Fu btw
 rw [e1,e2,e3,e4,e5,e6,e7]
 have hz:(!(2*(n:Int)==0))=true:=by simp;omega
 rw [hz]
 have q:=JjS (d:=2*n) l1 l2
 have e8:Dv .i64 (2*(a*n+k*(b-a))+n) (2*n)=(2*(a*n+k*(b-a))+n).tdiv (2*n):=w64 (by omega) (by omega)
 rw [e8,Cq (by omega) (by omega)]
 have:=Z0 (a:=2*(a*n+k*(b-a))+n) (d:=2*n) (by omega)
 rw [← this]
 simp only [Jcf,Jmv]
 split<;>rfl
theorem Jcs (m:Nat) {a b:Aa} (ha:Nr a) (hb:Nr b):G0 m a b=some ((M0 a b:Nat):Int):=by
 unfold Nr at ha hb
 unfold G0 IA M0
 simp only [Jmv]
 rw [Cq (a:=a.X) (by omega) (by omega),Cq (a:=a.Y) (by omega) (by omega)]
 unfold Jgp
 rw [w64 (a:=0-(a.X-b.X)) (by omega) (by omega),w64 (a:=0-(a.Y-b.Y)) (by omega) (by omega)]
 congr 1
 split<;>split<;>split<;>omega
theorem Su {α:Type} (f:Nat->α) (i:Nat):(List.range (i+1)).map f=(List.range i).map f++[f i]:=by
 rw [List.range_succ,List.map_append];rfl
theorem Z1 {a b:Aa} (ha:Nr a) (hb:Nr b):Ev (λ n=>OH n a b) (Lc a b):=by
 have hf:=UR ha hb
 have ha':=ha
 have hb':=hb
 unfold Nr at ha' hb'
 refine Tot.ev (Tot.bindA (λ n=>Jcs n ha hb) ?_)
 unfold Lc
 by_cases h0:M0 a b=0
 ·rw [if_pos h0,h0]
  exact Tot.iteT rfl (Tot.pure rfl)
 ·rw [if_neg h0]
  refine Tot.iteF (by simpa using h0) ?_
  refine Tot.bind (R:=λ y=>y=(List.range (M0 a b+1)).map (ptL a b)) (Tot.upto (M0 a b+1) (λ i (x:List Aa×Int)=>x.2=(i:Int)/\x.1=(List.range i).map (ptL a b)) ?_ ?_ _ ⟨rfl,rfl⟩) λ y hy=>Tot.pure hy
  ·rintro i ⟨l,k⟩ hi ⟨hk,hl⟩
   simp only at hk hl
   subst hk hl
   unfold GB
   refine Tot.iteT (decide_eq_true (by omega)) (Tot.bindA (λ n=>Ww n (by omega) (by omega) (by omega) (by omega) (by omega) hf (by omega)) (Tot.bindA (λ n=>Ww n (by omega) (by omega) (by omega) (by omega) (by omega) hf (by omega)) (Tot.bindC (A9 ?_) (Tot.pure ⟨An (by omega),?_⟩))))
   ·simp;omega
   ·rw [Su];rfl
  ·rintro ⟨l,k⟩ ⟨hk,hl⟩
   simp only at hk hl
   subst hk hl
   unfold GB
   exact Tot.iteF (decide_eq_false (by omega)) (Tot.pure rfl)
theorem Jct {a b p:Aa}:p∈Lc a b↔(M0 a b=0/\p=a)\/(M0 a b≠0/\∃ k,k<=M0 a b/\p=ptL a b k):=by
 unfold Lc
 split
 ·rename_i h;simp [h]
 ·rename_i h
  simp only [JmG,List.mem_range,h,false_and,false_or,ne_eq,not_false_eq_true,true_and]
  constructor
  ·rintro ⟨k,hk,rfl⟩;exact ⟨k,by omega,rfl⟩
  ·rintro ⟨k,hk,rfl⟩;exact ⟨k,by omega,rfl⟩
theorem Jcu {a b m:Int} {k n:Nat} (h:0<n) (hk:k<=n) (ha:m<=a) (hb:m<=b):m<=btw a b k n:=by
 unfold btw
 rw [Int.le_ediv_iff_mul_le (by omega)]
 have e:a*n+k*(b-a)=a*(n-k:Nat)+k*b:=by
  have:((n-k:Nat):Int)=n-k:=by omega
  rw [this,Int.mul_sub,Int.mul_sub,Int.mul_comm (k:Int) a];omega
 rw [e]
 have h1:m*(n-k:Nat)<=a*(n-k:Nat):=Int.mul_le_mul_of_nonneg_right ha (by omega)
 have h2:k*m<=k*b:=Int.mul_le_mul_of_nonneg_left hb (by omega)
 have h3:m*(2*(n:Int))=2*(m*(n-k:Nat)+k*m):=by
  have:((n-k:Nat):Int)=n-k:=by omega
  rw [this,Int.mul_sub,Int.mul_comm (k:Int) m,Int.sub_add_cancel,← Int.mul_assoc,Int.mul_comm m 2,Int.mul_assoc]
 omega
theorem Jcv {a b m:Int} {k n:Nat} (h:0<n) (hk:k<=n) (ha:a<=m) (hb:b<=m):btw a b k n<=m:=by
 unfold btw
 have:(2*(a*n+k*(b-a))+n) / (2*(n:Int))<m+1:=by
  rw [Int.ediv_lt_iff_lt_mul (by omega)]
  have e:a*n+k*(b-a)=a*(n-k:Nat)+k*b:=by
   have:((n-k:Nat):Int)=n-k:=by omega
   rw [this,Int.mul_sub,Int.mul_sub,Int.mul_comm (k:Int) a];omega
  rw [e]
  have h1:a*(n-k:Nat)<=m*(n-k:Nat):=Int.mul_le_mul_of_nonneg_right ha (by omega)
  have h2:k*b<=k*m:=Int.mul_le_mul_of_nonneg_left hb (by omega)
  have h3:m*(2*(n:Int))=2*(m*(n-k:Nat)+k*m):=by
   have:((n-k:Nat):Int)=n-k:=by omega
   rw [this,Int.mul_sub,Int.mul_comm (k:Int) m,Int.sub_add_cancel,← Int.mul_assoc,Int.mul_comm m 2,Int.mul_assoc]
  rw [Int.add_mul,h3]
  omega
 omega
theorem Wx (a b:Aa):(Lc a b).length=M0 a b+1:=by
 unfold Lc
 split
 ·rename_i h;rw [h];rfl
 ·simp
def In (m n:Aa) (p:Aa):Prop:=(m.X<=p.X/\p.X<=n.X)/\m.Y<=p.Y/\p.Y<=n.Y
theorem Jfm {a b p m n:Aa} (h:p∈Lc a b) (ha:In m n a) (hb:In m n b):In m n p:=by
 rw [Jct] at h
 rcases h with ⟨h,rfl⟩|⟨h,k,hk,rfl⟩
 ·exact ha
 ·exact ⟨⟨Jcu (by omega) hk ha.1.1 hb.1.1,Jcv (by omega) hk ha.1.2 hb.1.2⟩,Jcu (by omega) hk ha.2.1 hb.2.1,Jcv (by omega) hk ha.2.2 hb.2.2⟩
end Go.AI
end
section
namespace Go.AI
def crS (a b q:Aa):Int:=(q.Y-a.Y)*(b.X-a.X)-(q.X-a.X)*(b.Y-a.Y)
def OnP (a b q:Aa):Prop:=crS a b q=0/\(min a.X b.X<=q.X/\q.X<=max a.X b.X)/\min a.Y b.Y<=q.Y/\q.Y<=max a.Y b.Y
instance (a b q:Aa):Decidable (OnP a b q):=by unfold OnP;infer_instance
def psS (a b q:Aa):Bool:=(decide (a.Y<=q.Y) != decide (b.Y<=q.Y))&&(bif decide (a.Y<b.Y) then decide (0<crS a b q) else decide (crS a b q<0))
def sd (P:List Aa) (i:Nat):Aa×Aa:=(P.getD i default,P.getD ((i+1) % P.length) default)
def onB (P:List Aa) (q:Aa) (i:Nat):Bool:=decide (OnP (sd P i).1 (sd P i).2 q)
def psB (P:List Aa) (q:Aa) (i:Nat):Bool:=psS (sd P i).1 (sd P i).2 q
def Wy (P:List Aa) (q:Aa) (i:Nat):Nat:=(List.range i).countP (psB P q)
def Po (P:List Aa) (q:Aa):Bool:=(List.range P.length).any (onB P q)||decide (Wy P q P.length % 2=1)
theorem YI (a b q:Aa):crS b a q=-crS a b q:=by
 unfold crS
 have e1:q.Y-b.Y=(q.Y-a.Y)-(b.Y-a.Y):=by omega
 have e2:q.X-b.X=(q.X-a.X)-(b.X-a.X):=by omega
 have e3:a.X-b.X=-(b.X-a.X):=by omega
 have e4:a.Y-b.Y=-(b.Y-a.Y):=by omega
 rw [e1,e2,e3,e4]
 generalize q.Y-a.Y=u
 generalize q.X-a.X=v
 generalize b.X-a.X=s
 generalize b.Y-a.Y=r
 rw [Int.mul_neg,Int.mul_neg,Int.sub_mul,Int.sub_mul,Int.mul_comm r s]
 omega
theorem Jlu {a b q:Aa} (ha:Nr a) (hb:Nr b) (hq:Nr q) :
  (-4000000<=(q.Y-a.Y)*(b.X-a.X)/\(q.Y-a.Y)*(b.X-a.X)<=4000000)/\-4000000<=(q.X-a.X)*(b.Y-a.Y)/\(q.X-a.X)*(b.Y-a.Y)<=4000000:=by
 unfold Nr at ha hb hq
 have h1:=Jfl (a:=q.Y-a.Y) (b:=b.X-a.X) 2000 2000 (by omega) (by omega) (by omega) (by omega)
 have h2:=Jfl (a:=q.X-a.X) (b:=b.Y-a.Y) 2000 2000 (by omega) (by omega) (by omega) (by omega)
 omega
theorem Jf5 {a b q:Aa} (ha:Nr a) (hb:Nr b) (hq:Nr q) :
  (AU .i64 b.X a.X=b.X-a.X/\AU .i64 b.Y a.Y=b.Y-a.Y/\AU .i64 q.X a.X=q.X-a.X/\AU .i64 q.Y a.Y=q.Y-a.Y) /\
  BV .i64 (q.Y-a.Y) (b.X-a.X)=(q.Y-a.Y)*(b.X-a.X)/\BV .i64 (q.X-a.X) (b.Y-a.Y)=(q.X-a.X)*(b.Y-a.Y) /\
  BV .i64 (b.X-a.X) (q.Y-a.Y)=(q.Y-a.Y)*(b.X-a.X)/\BV .i64 (b.Y-a.Y) (q.X-a.X)=(q.X-a.X)*(b.Y-a.Y) /\
  AU .i64 ((q.Y-a.Y)*(b.X-a.X)) ((q.X-a.X)*(b.Y-a.Y))=crS a b q:=by
 obtain ⟨h1,h2⟩:=Jlu ha hb hq
 have e1:=Int.mul_comm (q.Y-a.Y) (b.X-a.X)
 have e2:=Int.mul_comm (q.X-a.X) (b.Y-a.Y)
 unfold Nr at ha hb hq
 exact ⟨⟨Cq (by omega) (by omega),Cq (by omega) (by omega),Cq (by omega) (by omega),Cq (by omega) (by omega)⟩,Gj (by omega) (by omega),Gj (by omega) (by omega),(Gj (by omega) (by omega)).trans e1.symm,(Gj (by omega) (by omega)).trans e2.symm,Cq (by omega) (by omega)⟩
theorem Jfn (n:Nat) {a b q:Aa} (ha:Nr a) (hb:Nr b) (hq:Nr q):QE n a b q=some (decide (OnP a b q)):=by
 obtain ⟨⟨e1,e2,e3,e4⟩,e5,e6,e7,e8,e9⟩:=Jf5 ha hb hq
 unfold QE OI
 rw [e1,e2,e3,e4,e7,e8,e9]
 rw [Jmv]
 congr 1
 rw [Bool.eq_iff_iff,decide_eq_true_eq]
 simp only [JmN,decide_eq_true_eq,beq_iff_eq]
 unfold OnP
 have hB:(if b.X<a.X then b.X else a.X)=min a.X b.X:=by split<;>omega
 have hC:(if b.X>a.X then b.X else a.X)=max a.X b.X:=by split<;>omega
 have hD:(if b.Y<a.Y then b.Y else a.Y)=min a.Y b.Y:=by split<;>omega
 have hE:(if b.Y>a.Y then b.Y else a.Y)=max a.Y b.Y:=by split<;>omega
 rw [hB,hC,hD,hE]
 constructor
 ·rintro ⟨⟨⟨⟨h0,h1⟩,h2⟩,h3⟩,h4⟩;exact ⟨h0,⟨h1,h2⟩,h3,h4⟩
 ·rintro ⟨h0,⟨h1,h2⟩,h3,h4⟩;exact ⟨⟨⟨⟨h0,h1⟩,h2⟩,h3⟩,h4⟩
theorem Wz (n:Nat) {a b q:Aa} (ha:Nr a) (hb:Nr b) (hq:Nr q):HH n a b q=some (psS a b q):=by
 obtain ⟨⟨e1,e2,e3,e4⟩,e5,e6,e7,e8,e9⟩:=Jf5 ha hb hq
 unfold HH psS
 rw [e1,e2,e3,e4,e5,e6]
 have h1:decide ((q.X-a.X)*(b.Y-a.Y)<(q.Y-a.Y)*(b.X-a.X))=decide (0<crS a b q):=decide_eq_decide.2 (by unfold crS;omega)
 have h2:decide ((q.X-a.X)*(b.Y-a.Y)>(q.Y-a.Y)*(b.X-a.X))=decide (crS a b q<0):=decide_eq_decide.2 (by unfold crS;omega)
 rw [h1,h2]
 have h3:decide (b.Y>a.Y)=decide (a.Y<b.Y):=rfl
 rw [h3,bne]
 cases (decide (a.Y<=q.Y)==decide (b.Y<=q.Y))<;>cases decide (a.Y<b.Y)<;>rfl
theorem Jmq {N:Nat} (h:N≠0):(!(((N:Nat):Int)==0))=true:=by
 rw [Bool.not_eq_true'];exact beq_eq_false_iff_ne.2 (by omega)
theorem JjT {i N:Nat} (hi:i<N) (hN:N<=1000):Al (Ai .i64 (i:Int) 1) ((N:Nat):Int)=(((i+1) % N:Nat):Int):=by
 rw [An (by omega),(BF (by omega) (by omega)).1]
 omega
theorem Jcw {P:List Aa} (h:∀ p∈P,Nr p) {i:Nat} (hi:i<P.length):Nr (sd P i).1/\Nr (sd P i).2:=
 ⟨h _ (ZZ P hi),h _ (ZZ P (Nat.mod_lt _ (by omega)))⟩
theorem WA (P:List Aa) (q:Aa) (i:Nat):Wy P q (i+1)=Wy P q i+(if psB P q i=true then 1 else 0):=by
 unfold Wy
 rw [List.range_succ,List.countP_append,List.countP_singleton]
theorem Jcx {n:Nat}:(!decide (n % 2=1))=decide ((n+1) % 2=1):=by
 rw [Bool.eq_iff_iff];simp;omega
theorem YJ (n:Nat) {P:List Aa} {i:Nat} (hi:i<P.length) (hl:P.length<=1000):Iz n P i=some (sd P i):=by
 unfold Iz
 rw [Dg hi,Eb (Jmq (by omega)),JjT hi hl,Dg (Nat.mod_lt _ (by omega))]
 rfl
theorem WB {P:List Aa} {q:Aa} (hl:P.length<=1000) (h:∀ p∈P,Nr p) (hq:Nr q):Ev (λ n=>Kw n P q) (Po P q):=by
 refine Tot.ev (Tot.bind (R:=λ y=>y=if (List.range P.length).any (onB P q)=true then .inr true else .inl (decide (Wy P q P.length % 2=1)))
  (Tot.upto P.length (λ i (x:Bool×Int)=>x.2=(i:Int)/\x.1=decide (Wy P q i % 2=1)/\∀ j,j<i->onB P q j=false) ?_ ?_ _ ⟨rfl,rfl,λ j hj=>by omega⟩) λ y hy=>?_)
 ·rintro i ⟨o,x⟩ hi ⟨h1,h2,h3⟩
  simp only at h1 h2
  subst h1 h2
  unfold Ew
  obtain ⟨n1,n2⟩:=Jcw h hi
  refine Tot.iteT (decide_eq_true (by omega)) (Tot.bindA (λ n=>YJ n hi hl) (Tot.bindA (λ n=>Jfn n n1 n2 hq) (Tot.ite (λ ho=>Tot.pure ?_) λ ho=>Tot.bindA (λ n=>Wz n n1 n2 hq) ?_)))
  ·show _=_
   rw [if_pos]
   exact List.any_eq_true.2 ⟨i,List.mem_range.2 hi,ho⟩
  ·have hj:∀ j,j<i+1->onB P q j=false:=λ j hj=>by
    rcases Nat.lt_succ_iff_lt_or_eq.1 hj with hj|rfl
    ·exact h3 j hj
    ·exact ho
   unfold Eu
   refine Tot.ite (λ hp=>Tot.pure ⟨An (by omega),?_,hj⟩) λ hp=>Tot.pure ⟨An (by omega),?_,hj⟩
   ·have hp:psB P q i=true:=hp
    rw [WA,if_pos hp];exact Jcx
   ·have hp:psB P q i=false:=hp
    rw [WA,hp];rfl
 ·rintro ⟨o,x⟩ ⟨h1,h2,h3⟩
  simp only at h1 h2
  subst h1 h2
  unfold Ew
  refine Tot.iteF (decide_eq_false (by omega)) (Tot.pure ?_)
  show _=_
  rw [if_neg]
  intro hh
  obtain ⟨j,hj,hh⟩:=List.any_eq_true.1 hh
  rw [h3 j (List.mem_range.1 hj)] at hh
  cases hh
 ·subst hy
  unfold Po
  cases (List.range P.length).any (onB P q) with
  | true=>exact Tot.pure rfl
  | false=>exact Tot.pure rfl
theorem Jlv (x y z:Bool) (c:Nat) (h:c % 2=if (x != y)=true then 1 else 0):(c+if (y != z)=true then 1 else 0) % 2=if (x != z)=true then 1 else 0:=by
 cases x<;>cases y<;>cases z<;>simp at h ⊢<;>omega
theorem Jlw (x y:Bool) (c:Nat) (h:c % 2=if (x != y)=true then 1 else 0):(c+if (y != x)=true then 1 else 0) % 2=0:=by
 cases x<;>cases y<;>simp at h ⊢<;>omega
theorem Jf6 (f:Nat->Bool):∀ m:Nat,((List.range m).countP λ i=>f i != f (i+1)) % 2=if (f 0 != f m)=true then 1 else 0
 | 0=>by simp
 | m+1=>by
  rw [List.range_succ,List.countP_append,List.countP_singleton]
  exact Jlv _ _ _ _ (Jf6 f m)
theorem Z2 (f:Nat->Bool) (N:Nat):((List.range N).countP λ i=>f i != f ((i+1) % N)) % 2=0:=by
 cases N with
 | zero=>simp
 | succ m=>
  rw [List.range_succ,List.countP_append,List.countP_singleton]
  have e:(List.range m).countP (λ i=>f i != f ((i+1) % (m+1)))=(List.range m).countP (λ i=>f i != f (i+1)):=by
   refine List.countP_congr λ i hi=>?_
   rw [Nat.mod_eq_of_lt (by have:=List.mem_range.1 hi;omega)]
  rw [e,Nat.mod_self]
  exact Jlw _ _ _ (Jf6 f m)
theorem Jcy {a b q:Aa} (ha:a.X<q.X) (hb:b.X<q.X):psS a b q=false:=by
 cases h:psS a b q with
 | false=>rfl
 | true=>
  exfalso
  unfold psS at h
  rw [JmN] at h
  obtain ⟨h1,h2⟩:=h
  have hm:∀ {u v w z:Int},0<=u->u<=w->0<w->v<z->0<z->u*v<z*w:=by
   intro u v w z h1 h2 h3 h4 h5
   rcases Int.lt_or_le 0 u with hu|hu
   ·have e1:u*v<u*z:=Int.mul_lt_mul_of_pos_left h4 hu
    have e2:u*z<=w*z:=Int.mul_le_mul_of_nonneg_right h2 (by omega)
    rw [Int.mul_comm z w];omega
   ·have:u=0:=by omega
    rw [this,Int.zero_mul];exact Int.mul_pos h5 h3
  rcases Int.lt_or_le a.Y b.Y with hy|hy
  ·rw [decide_eq_true hy,cond_true,decide_eq_true_eq] at h2
   unfold crS at h2
   have hq1:a.Y<=q.Y:=by
    refine Int.le_of_not_gt λ hh=>?_
    rw [decide_eq_false (by omega),decide_eq_false (by omega)] at h1;cases h1
   have hq2:q.Y<b.Y:=by
    refine Int.lt_of_not_ge λ hh=>?_
    rw [decide_eq_true hq1,decide_eq_true (by omega)] at h1;cases h1
   have:=hm (u:=q.Y-a.Y) (v:=b.X-a.X) (w:=b.Y-a.Y) (z:=q.X-a.X) (by omega) (by omega) (by omega) (by omega) (by omega)
   omega
  ·rw [decide_eq_false (by omega),cond_false,decide_eq_true_eq] at h2
   have hs:=YI a b q
   have hq1:b.Y<=q.Y:=by
    refine Int.le_of_not_gt λ hh=>?_
    rw [decide_eq_false (by omega),decide_eq_false (by omega)] at h1;cases h1
   have hq2:q.Y<a.Y:=by
    refine Int.lt_of_not_ge λ hh=>?_
    rw [decide_eq_true (by omega),decide_eq_true (by omega)] at h1;cases h1
   have:=hm (u:=q.Y-b.Y) (v:=a.X-b.X) (w:=a.Y-b.Y) (z:=q.X-b.X) (by omega) (by omega) (by omega) (by omega) (by omega)
   unfold crS at hs h2
   omega
theorem Jfo {a b q:Aa} (ha:q.X<a.X) (hb:q.X<b.X):psS a b q=(decide (a.Y<=q.Y) != decide (b.Y<=q.Y)):=by
 unfold psS
 cases h1:(decide (a.Y<=q.Y) != decide (b.Y<=q.Y)) with
 | false=>rfl
 | true=>
  rw [Bool.true_and]
  have hm:∀ {u v w z:Int},0<=u->u<w->-z<v->0<z->0<u*v+z*w:=by
   intro u v w z h1 h2 h3 h4
   have e1:u*(-z)<=u*v:=Int.mul_le_mul_of_nonneg_left (by omega) h1
   have e2:u*z<w*z:=Int.mul_lt_mul_of_pos_right h2 h4
   rw [Int.mul_neg] at e1
   rw [Int.mul_comm z w];omega
  rcases Int.lt_or_le a.Y b.Y with hy|hy
  ·rw [decide_eq_true hy,cond_true,decide_eq_true_eq]
   have hq1:a.Y<=q.Y:=by
    refine Int.le_of_not_gt λ hh=>?_
    rw [decide_eq_false (by omega),decide_eq_false (by omega)] at h1;cases h1
   have hq2:q.Y<b.Y:=by
    refine Int.lt_of_not_ge λ hh=>?_
    rw [decide_eq_true hq1,decide_eq_true (by omega)] at h1;cases h1
   have:=hm (u:=q.Y-a.Y) (v:=b.X-a.X) (w:=b.Y-a.Y) (z:=a.X-q.X) (by omega) (by omega) (by omega) (by omega)
   unfold crS
   have e:q.X-a.X=-(a.X-q.X):=by omega
   rw [e,Int.neg_mul]
   omega
  ·rw [decide_eq_false (by omega),cond_false,decide_eq_true_eq]
   have hs:=YI a b q
   have hq1:b.Y<=q.Y:=by
    refine Int.le_of_not_gt λ hh=>?_
    rw [decide_eq_false (by omega),decide_eq_false (by omega)] at h1;cases h1
   have hq2:q.Y<a.Y:=by
    refine Int.lt_of_not_ge λ hh=>?_
    rw [decide_eq_true (by omega),decide_eq_true (by omega)] at h1;cases h1
   have:=hm (u:=q.Y-b.Y) (v:=a.X-b.X) (w:=a.Y-b.Y) (z:=b.X-q.X) (by omega) (by omega) (by omega) (by omega)
   have e:crS b a q=(q.Y-b.Y)*(a.X-b.X)+(b.X-q.X)*(a.Y-b.Y):=by
    unfold crS
    have e:q.X-b.X=-(b.X-q.X):=by omega
    rw [e,Int.neg_mul]
    omega
   omega
theorem JjU {P:List Aa} {q m n:Aa} (h:∀ p∈P,In m n p) (hq:Po P q=true):In m n q:=by
 unfold Po at hq
 rw [Jm4,List.any_eq_true,decide_eq_true_eq] at hq
 have hs:∀ i,i<P.length->In m n (sd P i).1/\In m n (sd P i).2:=λ i hi=>⟨h _ (ZZ P hi),h _ (ZZ P (Nat.mod_lt _ (by omega)))⟩
 rcases hq with ⟨i,hi,hq⟩|hq
 ·have hi:=List.mem_range.1 hi
  obtain ⟨h1,h2⟩:=hs i hi
  have hq:=(of_decide_eq_true hq).2
  unfold In at *
  omega
 ·have hex:∃ i,i<P.length/\psB P q i=true:=by
   refine Classical.byContradiction λ hh=>?_
   have:Wy P q P.length=0:=List.countP_eq_zero.2 λ i hi hp=>hh ⟨i,List.mem_range.1 hi,hp⟩
   omega
  obtain ⟨i,hi,hp⟩:=hex
  obtain ⟨h1,h2⟩:=hs i hi
  have hY:m.Y<=q.Y/\q.Y<=n.Y:=by
   unfold psB psS at hp
   rw [JmN] at hp
   have hp:=hp.1
   unfold In at h1 h2
   constructor
   ·refine Int.le_of_not_gt λ hh=>?_
    rw [decide_eq_false (by omega),decide_eq_false (by omega)] at hp;cases hp
   ·refine Int.le_of_not_gt λ hh=>?_
    rw [decide_eq_true (by omega),decide_eq_true (by omega)] at hp;cases hp
  have hX:m.X<=q.X:=by
   refine Int.le_of_not_gt λ hh=>?_
   have e:Wy P q P.length=(List.range P.length).countP λ i=>(λ j=>decide ((P.getD j default).Y<=q.Y)) i != (λ j=>decide ((P.getD j default).Y<=q.Y)) ((i+1) % P.length):=by
    refine List.countP_congr λ i hi=>?_
    obtain ⟨h1,h2⟩:=hs i (List.mem_range.1 hi)
    unfold In at h1 h2
    unfold psB
    rw [Jfo (by omega) (by omega)]
    exact Iff.rfl
   rw [e,Z2] at hq
   cases hq
  have hX':q.X<=n.X:=by
   refine Int.le_of_not_gt λ hh=>?_
   unfold In at h1 h2
   unfold psB at hp
   rw [Jcy (by omega) (by omega)] at hp
   cases hp
  exact ⟨⟨hX,hX'⟩,hY⟩
end Go.AI
end
section
namespace Go.AI
def ltG (p q:Aa):Prop:=p.Y<q.Y\/(p.Y=q.Y/\p.X<q.X)
instance (p q:Aa):Decidable (ltG p q):=by unfold ltG;infer_instance
theorem Sv (p:Aa):¬ltG p p:=by unfold ltG;omega
theorem Z3 {p q r:Aa} (h:ltG p q) (h':ltG q r):ltG p r:=by unfold ltG at *;omega
def Inc (l:List Aa):Prop:=l.Pairwise ltG
theorem Inc.nodup {l:List Aa} (h:Inc l):l.Nodup:=h.imp λ {a b} h e=>by subst e;exact Sv _ h
theorem Inc.uniq {l m:List Aa} (h:Inc l) (h':Inc m) (e:∀ p,p∈l↔p∈m):l=m:=
 ((List.perm_ext_iff_of_nodup h.nodup h'.nodup).2 e).eq_of_pairwise (le:=ltG) (λ _ _ _ _ h1 h2=>absurd (Z3 h1 h2) (Sv _)) h h'
structure KS (m:List (Aa×Bool)) (N:Nat) (S:Aa->Prop):Prop where
 nd:(m.map Prod.fst).Nodup
 len:m.length<=N
 mem:∀ p,p∈m.map Prod.fst↔S p
theorem Sw (k:Aa):∀ (m:List (Aa×Bool)) (p:Aa),p∈(Rs k true m).map Prod.fst↔p∈m.map Prod.fst\/p=k
 | [],p=>by simp [Rs]
 | e::m,p=>by
  unfold Rs
  split
  ·rename_i h
   simp only [JmK,List.mem_cons]
   rw [← h]
   constructor
   ·rintro (h|h)
    ·exact .inr h
    ·exact .inl (.inr h)
   ·rintro ((h|h)|h)
    ·exact .inl h
    ·exact .inr h
    ·exact .inl h
  ·simp only [JmK,List.mem_cons]
   rw [Sw k m p,or_assoc]
theorem YK (k:Aa):∀ (m:List (Aa×Bool)),(m.map Prod.fst).Nodup->((Rs k true m).map Prod.fst).Nodup
 | [],_=>by simp [Rs]
 | e::m,h=>by
  rw [JmK,List.nodup_cons] at h
  unfold Rs
  split
  ·rename_i h1
   rw [JmK,List.nodup_cons,h1];exact h
  ·rename_i h1
   rw [JmK,List.nodup_cons]
   refine ⟨λ hh=>?_,YK k m h.2⟩
   rcases (Sw k m _).1 hh with hh|hh
   ·exact h.1 hh
   ·exact h1 hh.symm
theorem WC (k:Aa):∀ (m:List (Aa×Bool)),(Rs k true m).length<=m.length+1
 | []=>by simp [Rs]
 | e::m=>by
  unfold Rs
  split
  ·simp
  ·have:=WC k m
   rw [List.length_cons,List.length_cons];omega
theorem KS.nil {S:Aa->Prop} (h:∀ p,¬S p):KS [] 0 S:=⟨by simp,by simp,λ p=>by simp [h p]⟩
theorem KS.put {m:List (Aa×Bool)} {N:Nat} {S T:Aa->Prop} (h:KS m N S) (k:Aa) (hT:∀ p,T p↔S p\/p=k):KS (Rs k true m) (N+1) T:=
 ⟨YK k m h.nd,by have:=WC k m;have:=h.len;omega,λ p=>by rw [Sw,h.mem,hT]⟩
theorem KS.to {m:List (Aa×Bool)} {N M:Nat} {S T:Aa->Prop} (h:KS m N S) (hM:N<=M) (hT:∀ p,T p↔S p):KS m M T:=
 ⟨h.nd,by have:=h.len;omega,λ p=>by rw [h.mem,hT]⟩
def lnS (P:List Aa) (i:Nat) (p:Aa):Prop:=∃ j,j<i/\p∈Lc (sd P j).1 (sd P j).2
theorem Jcz {P:List Aa} {i:Nat} {p:Aa}:lnS P (i+1) p↔lnS P i p\/p∈Lc (sd P i).1 (sd P i).2:=by
 constructor
 ·rintro ⟨j,hj,h⟩
  rcases Nat.lt_succ_iff_lt_or_eq.1 hj with hj|rfl
  ·exact .inl ⟨j,hj,h⟩
  ·exact .inr h
 ·rintro (⟨j,hj,h⟩|h)
  ·exact ⟨j,by omega,h⟩
  ·exact ⟨i,by omega,h⟩
def lnN (P:List Aa):Nat->Nat
 | 0=>0
 | i+1=>lnN P i+(Lc (sd P i).1 (sd P i).2).length
theorem US {P:List Aa} (h:∀ p∈P,Nr p):∀ {i:Nat},i<=P.length->lnN P i<=2001*i
 | 0,_=>by simp [lnN]
 | i+1,hi=>by
  have h1:=US h (i:=i) (by omega)
  obtain ⟨h2,h3⟩:=Jcw h (show i<P.length by omega)
  have:=UR h2 h3
  unfold lnN
  rw [Wx];omega
end Go.AI
end
section
namespace Go.AI
theorem Sx {P:List Aa} (hl:P.length<=400) (h:∀ p∈P,Nr p) {k:Nat} (hk:k<=P.length) :
  Tot (λ n=>Jo n P (k:Int)) (λ z=>z.length=lnN P k/\∀ p,p∈z↔lnS P k p):=by
 refine Tot.bind (R:=λ z=>z.length=lnN P k/\∀ p,p∈z↔lnS P k p) ?_ λ y hy=>Tot.pure hy
 refine Tot.upto k (λ i (x:List Aa×Int)=>x.2=(i:Int)/\x.1.length=lnN P i/\∀ p,p∈x.1↔lnS P i p) ?_ ?_ _ ⟨rfl,rfl,λ p=>⟨λ h=>(by cases h),λ ⟨j,hj,_⟩=>by omega⟩⟩
 ·rintro i ⟨l,x⟩ hi ⟨h1,h2,h3⟩
  simp only at h1 h2 h3
  subst h1
  unfold Fv
  obtain ⟨n1,n2⟩:=Jcw h (show i<P.length by omega)
  have hb:=US h (i:=i) (by omega)
  have:=UR n1 n2
  refine Tot.iteT (decide_eq_true (by omega)) (Tot.bindA (λ n=>YJ n (by omega) (by omega)) (Tot.bindE (Z1 n1 n2) (Tot.bindC (A9 ?_) (Tot.pure ⟨An (by omega),?_,λ p=>?_⟩))))
  ·rw [Wx,h2];omega
  ·show (l++Lc _ _).length=_
   rw [List.length_append,h2];rfl
  ·rw [List.mem_append,h3,Jcz]
 ·rintro ⟨l,x⟩ ⟨h1,h2,h3⟩
  simp only at h1 h2 h3
  subst h1
  unfold Fv
  exact Tot.iteF (decide_eq_false (by omega)) (Tot.pure ⟨h2,h3⟩)
def Bx (p:Aa):Prop:=(0<=p.X/\p.X<60)/\0<=p.Y/\p.Y<60
theorem Bx.nr {p:Aa} (h:Bx p):Nr p:=by unfold Bx at h;unfold Nr;omega
structure Sq (t:List (List Bool)):Prop where
 len:t.length=60
 row:∀ y,y<60->(t.getD y []).length=60
def atT (t:List (List Bool)) (x y:Nat):Bool:=(t.getD y []).getD x false
theorem JjV {t:List (List Bool)} (h:Sq t) {x y:Nat} (hx:x<60) (hy:y<60):ZH t (y:Int) (x:Int)=some (atT t x y):=by
 unfold ZH
 have e:idx t (y:Int)=some (t.getD y []):=Dg (by rw [h.len];exact hy)
 rw [e,Jmv]
 have e2:idx (t.getD y []) (x:Int)=some ((t.getD y []).getD x false):=Dg (by rw [h.row y hy];exact hx)
 exact e2
theorem Jfp {t:List (List Bool)} (h:Sq t) {x y:Nat} (hx:x<60) (hy:y<60) :
  ∃ t',ZI t (y:Int) (x:Int) true=some t'/\Sq t'/\∀ x' y',x'<60->y'<60->(atT t' x' y'=true↔atT t x' y'=true\/(x'=x/\y'=y)):=by
 have e:idx t (y:Int)=some (t.getD y []):=Dg (by rw [h.len];exact hy)
 have e2:put (t.getD y []) (x:Int) true=some ((t.getD y []).set x true):=Sk (by rw [h.row y hy];exact hx)
 have e3:put t (y:Int) ((t.getD y []).set x true)=some (t.set y ((t.getD y []).set x true)):=Sk (by rw [h.len];exact hy)
 have hg:∀ y',y'<60->(t.set y ((t.getD y []).set x true)).getD y' []=if y=y' then (t.getD y []).set x true else t.getD y' []:=by
  intro y' hy'
  rw [JmV,List.getElem?_set,JmV (l:=t) (i:=y')]
  split
  ·rw [if_pos (by rw [h.len];exact hy)];rfl
  ·rfl
 refine ⟨_,by unfold ZI;rw [e,Jmv,e2,Jmv,e3],⟨by rw [List.length_set,h.len],λ y' hy'=>?_⟩,λ x' y' hx' hy'=>?_⟩
 ·rw [hg y' hy']
  split
  ·rw [List.length_set,h.row y hy]
  ·exact h.row y' hy'
 ·unfold atT
  rw [hg y' hy']
  split
  ·rename_i e;subst e
   have hr:=h.row y hy
   generalize t.getD y []=r at hr
   rw [JmV,List.getElem?_set,JmV]
   split
   ·rename_i e;subst e
    rw [if_pos (by rw [hr];exact hx)];simp
   ·rename_i e
    constructor
    ·exact .inl
    ·rintro (h|h)
     ·exact h
     ·exact absurd h.1.symm e
  ·rename_i e
   constructor
   ·exact .inl
   ·rintro (h|h)
    ·exact h
    ·exact absurd h.2.symm e
theorem P0 {l:List Aa} (hl:l.length<=1000000):Tot (λ n=>HG n l) (λ z=>Inc z/\∀ p,p∈z↔p∈l/\Bx p):=by
 refine Tot.bind (R:=λ t=>Sq t/\∀ x y,x<60->y<60->(atT t x y=true↔(⟨x,y⟩:Aa)∈l)) ?_ ?_
 ·refine Tot.upto l.length (λ i (x:List (List Bool)×Int)=>x.2=(i:Int)/\Sq x.1/\∀ a b,a<60->b<60->(atT x.1 a b=true↔(⟨a,b⟩:Aa)∈l.take i)) ?_ ?_ _ ⟨rfl,⟨by simp,λ y hy=>?_⟩,λ a b ha hb=>?_⟩
  ·rintro i ⟨t,x⟩ hi ⟨h1,h2,h3⟩
   simp only at h1 h2 h3
   subst h1
   unfold Ep Eo
   have hm:∀ p,p∈l.take (i+1)↔p∈l.take i\/p=l[i]:=λ p=>by
    rw [List.take_succ_eq_append_getElem hi,List.mem_append,List.mem_singleton]
   refine Tot.iteT (decide_eq_true (by omega)) (Tot.bindC (AD hi) (Tot.ite (λ hb=>?_) λ hb=>?_))
   ·simp only [JmN,decide_eq_true_eq] at hb
    generalize l[i]=q at hb hm
    obtain ⟨X,Y⟩:=q
    obtain ⟨X,rfl⟩:∃ m:Nat,X=m:=⟨X.toNat,by simp only at hb;omega⟩
    obtain ⟨Y,rfl⟩:∃ m:Nat,Y=m:=⟨Y.toNat,by simp only at hb;omega⟩
    simp only at hb
    obtain ⟨t',e,s',m'⟩:=Jfp h2 (show X<60 by omega) (show Y<60 by omega)
    refine Tot.bindC (Eb (decide_eq_true (by show (0:Int)<=(Y:Int)/\(Y:Int)<_;omega))) (Tot.bindC (Eb (decide_eq_true (by show (0:Int)<=(X:Int)/\(X:Int)<_;omega))) (Tot.bindC e (Tot.pure ⟨An (by omega),s',λ a b ha hb=>?_⟩)))
    show atT t' a b=true↔_
    rw [m' a b ha hb,h3 a b ha hb,hm]
    simp only [Aa.mk.injEq]
    constructor
    ·rintro (h|h)
     ·exact .inl h
     ·exact .inr (by omega)
    ·rintro (h|h)
     ·exact .inl h
     ·exact .inr (by omega)
   ·refine Tot.pure ⟨An (by omega),h2,λ a b ha hb'=>?_⟩
    show atT t a b=true↔_
    rw [h3 a b ha hb',hm]
    constructor
    ·exact .inl
    ·rintro (h|h)
     ·exact h
     ·rw [← h] at hb
      simp only [Bool.and_eq_false_iff,decide_eq_false_iff_not] at hb
      omega
  ·rintro ⟨t,x⟩ ⟨h1,h2,h3⟩
   simp only at h1 h2 h3
   subst h1
   unfold Ep
   refine Tot.iteF (decide_eq_false (by omega)) (Tot.pure ⟨h2,λ a b ha hb=>?_⟩)
   rw [h3 a b ha hb,List.take_length]
  ·rw [JmV,List.getElem?_replicate,if_pos hy];simp
  ·have:atT (List.replicate 60 (List.replicate 60 (false:Bool))) a b=false:=by
    unfold atT
    rw [JmV (l:=List.replicate _ _),List.getElem?_replicate,if_pos hb,JmA,JmV,List.getElem?_replicate,if_pos ha,JmA]
   rw [List.take_zero]
   constructor
   ·intro h;exact absurd (this.symm.trans h) (by simp)
   ·intro h;cases h
 ·rintro t ⟨st,mt⟩
  have hG:∀ p,Bx p->((atT t p.X.toNat p.Y.toNat=true)↔p∈l):=λ p hp=>by
   unfold Bx at hp
   rw [mt _ _ (by omega) (by omega)]
   have:(⟨((p.X.toNat:Nat):Int),((p.Y.toNat:Nat):Int)⟩:Aa)=p:=by cases p;simp only [Aa.mk.injEq] at *;omega
   rw [this]
  refine Tot.bind (R:=λ z=>Inc z/\∀ p,p∈z↔p∈l/\Bx p) ?_ λ y hy=>Tot.pure hy
  refine Tot.upto 60 (λ i (x:List Aa×Int)=>x.2=(i:Int)/\x.1.length<=60*i/\Inc x.1/\∀ p,p∈x.1↔(p∈l/\Bx p)/\p.Y<i) ?_ ?_ _ ⟨rfl,by simp,.nil,λ p=>?_⟩
  ·rintro y ⟨o,x⟩ hy ⟨h1,h2,h3,h4⟩
   simp only at h1 h2 h3 h4
   subst h1
   unfold Et
   refine Tot.iteT (decide_eq_true (by omega)) (Tot.bind (R:=λ z=>z.length<=60*(y+1)/\Inc z/\∀ p,p∈z↔(p∈l/\Bx p)/\p.Y<(y+1:Nat)) ?_ λ z hz=>Tot.pure ⟨An (by omega),hz⟩)
   refine Tot.upto 60 (λ j (x:List Aa×Int)=>x.2=(j:Int)/\x.1.length<=60*y+j/\Inc x.1/\∀ p,p∈x.1↔(p∈l/\Bx p)/\ltG p ⟨j,y⟩) ?_ ?_ _ ⟨rfl,h2,h3,λ p=>?_⟩
   ·rintro j ⟨o,x⟩ hj ⟨h1,h2,h3,h4⟩
    simp only at h1 h2 h3 h4
    subst h1
    unfold Es Er
    have hq:Bx (⟨j,y⟩:Aa):=by unfold Bx;simp only;omega
    have hG:=hG _ hq
    simp only [JmW] at hG
    have hst:∀ p:Aa,ltG p ⟨(j+1:Nat),y⟩↔ltG p ⟨j,y⟩\/p=⟨j,y⟩:=λ p=>by
     cases p;unfold ltG;simp only [Aa.mk.injEq];omega
    refine Tot.iteT (decide_eq_true (by omega)) (Tot.bindC (Eb (decide_eq_true (by omega))) (Tot.bindC (Eb (decide_eq_true (by omega))) (Tot.bindC (JjV st hj hy) (Tot.ite (λ hb=>?_) λ hb=>?_))))
    ·refine Tot.bindC (A9 (by simp;omega)) (Tot.pure ⟨An (by omega),by simp;omega,?_,λ p=>?_⟩)
     ·refine List.pairwise_append.2 ⟨h3,List.pairwise_singleton _ _,λ a ha b hb=>?_⟩
      rw [List.mem_singleton] at hb
      rw [hb];exact ((h4 a).1 ha).2
     ·rw [List.mem_append,List.mem_singleton,h4,hst]
      constructor
      ·rintro (⟨h,h'⟩|rfl)
       ·exact ⟨h,.inl h'⟩
       ·exact ⟨⟨hG.1 hb,hq⟩,.inr rfl⟩
      ·rintro ⟨h,h'|h'⟩
       ·exact .inl ⟨h,h'⟩
       ·exact .inr h'
    ·refine Tot.pure ⟨An (by omega),by show o.length<=_;omega,h3,λ p=>?_⟩
     show p∈o↔_
     rw [h4,hst]
     constructor
     ·rintro ⟨h,h'⟩;exact ⟨h,.inl h'⟩
     ·rintro ⟨h,h'|rfl⟩
      ·exact ⟨h,h'⟩
      ·rw [hG.2 h.1] at hb;cases hb
   ·rintro ⟨o,x⟩ ⟨h1,h2,h3,h4⟩
    simp only at h1 h2 h3 h4
    subst h1
    unfold Es
    refine Tot.iteF (decide_eq_false (by omega)) (Tot.pure ⟨by omega,h3,λ p=>?_⟩)
    rw [h4]
    unfold ltG Bx
    constructor
    ·rintro ⟨h,h'⟩;exact ⟨h,by simp only at h';omega⟩
    ·rintro ⟨h,h'⟩;exact ⟨h,by simp only;omega⟩
   ·rw [h4]
    unfold ltG Bx
    constructor
    ·rintro ⟨h,h'⟩;exact ⟨h,by simp only;omega⟩
    ·rintro ⟨h,h'⟩;exact ⟨h,by simp only at h';omega⟩
  ·rintro ⟨o,x⟩ ⟨h1,h2,h3,h4⟩
   simp only at h1 h2 h3 h4
   subst h1
   unfold Et
   refine Tot.iteF (decide_eq_false (by omega)) (Tot.pure ⟨h3,λ p=>?_⟩)
   rw [h4]
   constructor
   ·rintro ⟨h,h'⟩;exact h
   ·intro h;exact ⟨h,by unfold Bx at h;omega⟩
  ·simp only [List.not_mem_nil,false_iff]
   rintro ⟨⟨_,h⟩,h'⟩
   unfold Bx at h
   omega
theorem JjW (a b:Aa):((a.X==b.X)&&((a.Y==b.Y)&&true))=decide (a=b):=by
 cases a;cases b
 rw [Bool.eq_iff_iff]
 simp
end Go.AI
end
section
namespace Go.AI
instance (p:Aa):Decidable (Bx p):=by unfold Bx;infer_instance
def Ml (f:Ax):Bool:=
 if (f.Kind==1)=true then decide (f.P.length=1)&&(f.Texture==0)
 else if (f.Kind==2)=true then decide (f.P.length>=2)&&(f.Texture==0)
 else if (f.Kind==3)=true then (decide (f.P.length>=3)&&decide (f.Texture>=0))&&decide (f.Texture<=3)
 else false
def LZ (f:Ax):Bool:=if (∀ p∈f.P,Bx p)/\f.P.length<=12 then Ml f else false
theorem Jlx {f:Ax} (h:(∀ p∈f.P,Bx p)/\f.P.length<=12):LZ f=Ml f:=if_pos h
theorem Jf7 {f:Ax} (h:¬((∀ p∈f.P,Bx p)/\f.P.length<=12)):LZ f=false:=if_neg h
theorem Z4 {f:Ax} (h:f.P.length=0):Ml f=false:=by
 unfold Ml
 rw [h]
 split
 ·rfl
 ·split
  ·rfl
  ·split<;>rfl
theorem Z5 {f:Ax}:Tot (λ _=>if (f.Kind==1)=true then
    some ((((f.P.length:Nat):Int)==1)&&(f.Texture==0))
   else
    if (f.Kind==2)=true then
     some ((decide (((f.P.length:Nat):Int)>=2))&&(f.Texture==0))
    else
     if (f.Kind==3)=true then
      some (((decide (((f.P.length:Nat):Int)>=3))&&(decide (f.Texture>=0)))&&(decide (f.Texture<=3)))
     else
      some false) (λ y=>y=Ml f):=by
 have e1:(((f.P.length:Nat):Int)==1)=decide (f.P.length=1):=by rw [Bool.eq_iff_iff];simp;omega
 have e2:decide (((f.P.length:Nat):Int)>=2)=decide (f.P.length>=2):=decide_eq_decide.2 (by omega)
 have e3:decide (((f.P.length:Nat):Int)>=3)=decide (f.P.length>=3):=decide_eq_decide.2 (by omega)
 rw [e1,e2,e3]
 unfold Ml
 cases (f.Kind==1) with
 | true=>exact Tot.pure rfl
 | false=>
  cases (f.Kind==2) with
  | true=>exact Tot.pure rfl
  | false=>
   cases (f.Kind==3) with
   | true=>exact Tot.pure rfl
   | false=>exact Tot.pure rfl
theorem XR (f:Ax) (hl:f.P.length<=1000000):Ev (λ n=>MB n f) (LZ f):=by
 refine Tot.ev (Tot.bind (R:=λ y=>y=if (∀ p∈f.P,Bx p) then .inl () else .inr false) ?_ λ y hy=>?_)
 ·refine Tot.upto f.P.length (λ i (x:Int)=>x=(i:Int)/\∀ p∈f.P.take i,Bx p) ?_ ?_ _ ⟨rfl,by simp⟩
  ·rintro i _ hi ⟨rfl,hj⟩
   unfold Ft
   refine Tot.iteT (decide_eq_true (by omega)) (Tot.bindC (AD hi) (Tot.ite (λ hb=>Tot.pure ?_) λ hb=>Tot.pure ⟨An (by omega),?_⟩))
   ·show _=_
    rw [if_neg]
    intro hh
    have:=hh _ (JmB hi)
    simp only [Jm4,decide_eq_true_eq] at hb
    unfold Bx at this
    omega
   ·rw [List.take_succ_eq_append_getElem hi]
    intro p hp
    rw [List.mem_append,List.mem_singleton] at hp
    rcases hp with hp|rfl
    ·exact hj p hp
    ·simp only [JmL,decide_eq_false_iff_not] at hb
     unfold Bx;omega
  ·rintro _ ⟨rfl,hj⟩
   unfold Ft
   refine Tot.iteF (decide_eq_false (by omega)) (Tot.pure ?_)
   show _=_
   rw [List.take_length] at hj
   rw [if_pos hj]
 ·subst hy
  by_cases hh:∀ p∈f.P,Bx p
  ·rw [if_pos hh]
   refine Tot.ite (λ h=>Tot.pure ?_) λ h=>?_
   ·rw [Jf7 (λ hh=>by rw [decide_eq_true_eq] at h;omega)]
   ·rw [decide_eq_false_iff_not] at h
    rw [Jlx ⟨hh,by omega⟩]
    exact Z5
  ·rw [if_neg hh,Jf7 (λ h=>hh h.1)]
   exact Tot.pure rfl
def Pp (k:Int) (p:Aa):Bool:=((k==3)||((k==2)&&(p.Y % 2==0)))||((k==1)&&((p.X+p.Y) % 2==0))
theorem JcA (n:Nat) (k:Int) {p:Aa} (h:Bx p):GC n k p=some (Pp k p):=by
 unfold Bx at h
 unfold GC Pp
 rw [DG (by omega) (by omega),(BF (a:=p.Y) (by omega) (by omega)).1,(BF (a:=p.X+p.Y) (by omega) (by omega)).1]
def arS (P:List Aa) (k:Int) (p:Aa):Prop:=lnS P P.length p\/(Pp k p=true/\Po P p=true)
theorem JjX {P:List Aa} {i:Nat} {p m n:Aa} (hi:i<=P.length) (h:∀ p∈P,In m n p) (hp:lnS P i p):In m n p:=by
 obtain ⟨j,hj,hp⟩:=hp
 exact Jfm hp (h _ (ZZ P (by omega))) (h _ (ZZ P (Nat.mod_lt _ (by omega))))
theorem YL {p:Aa}:Bx p↔In ⟨0,0⟩ ⟨59,59⟩ p:=by unfold Bx In;simp only;omega
theorem XS {P:List Aa} {i:Nat} {p:Aa} (hi:i<=P.length) (h:∀ p∈P,Bx p) (hp:lnS P i p):Bx p:=YL.2 (JjX hi (λ p hp=>YL.1 (h p hp)) hp)
theorem JcB {P:List Aa} {p:Aa} (h:∀ p∈P,Bx p) (hp:Po P p=true):Bx p:=YL.2 (JjU (λ p hp=>YL.1 (h p hp)) hp)
theorem JcC {P:List Aa} {k:Int} {p:Aa} (h:∀ p∈P,Bx p) (hp:arS P k p):Bx p:=by
 rcases hp with hp|hp
 ·exact XS (JmD _) h hp
 ·exact JcB h hp.2
theorem Sy {f:Ax} (hv:LZ f=true):(∀ p∈f.P,Bx p)/\f.P.length<=12/\Ml f=true:=by
 unfold LZ at hv
 split at hv
 ·rename_i h;exact ⟨h.1,h.2,hv⟩
 ·cases hv
theorem Z6 {f:Ax} (hv:LZ f=true) (hk:f.Kind=2) :
  Tot (λ n=>Dd n f) (λ r=>Inc r/\∀ p,p∈r↔lnS f.P (f.P.length-1) p):=by
 obtain ⟨hb,hl,hK⟩:=Sy hv
 have h0:f.P.length≠0:=λ h=>by rw [Z4 h] at hK;cases hK
 refine Tot.iteF (by rw [hk];rfl) (Tot.iteT (by rw [hk];rfl) ?_)
 rw [show AU .i64 ((f.P.length:Nat):Int) 1=((f.P.length-1:Nat):Int) from (Cq (by omega) (by omega)).trans (by omega)]
 refine Tot.bind (Sx (by omega) (λ p hp=>(hb p hp).nr) (k:=f.P.length-1) (by omega)) λ l hl=>?_
 have h1:=US (λ p hp=>(hb p hp).nr) (i:=f.P.length-1) (by omega)
 refine Tot.bind (P0 (by omega)) λ z hz=>Tot.pure ⟨hz.1,λ p=>?_⟩
 rw [hz.2,hl.2]
 exact ⟨λ h=>h.1,λ h=>⟨h,XS (by omega) hb h⟩⟩
theorem Z7 {f:Ax} (hv:LZ f=true) (hk:f.Kind=3) :
  Tot (λ n=>Dd n f) (λ r=>Inc r/\∀ p,p∈r↔arS f.P f.Texture p):=by
 obtain ⟨hb,hl,hK⟩:=Sy hv
 refine Tot.iteF (by rw [hk];rfl) (Tot.iteF (by rw [hk];rfl) (Tot.bind (Sx (by omega) (λ p hp=>(hb p hp).nr) (k:=f.P.length) (by omega)) λ l hl=>?_))
 have h1:=US (λ p hp=>(hb p hp).nr) (i:=f.P.length) (by omega)
 refine Tot.bind (R:=λ z=>z.length<=100000/\∀ p,p∈z↔lnS f.P f.P.length p\/(Bx p/\Pp f.Texture p=true/\Po f.P p=true)) ?_ λ z hz=>?_
 ·refine Tot.upto 60 (λ i (x:List Aa×Int)=>x.2=(i:Int)/\x.1.length<=30000+60*i/\∀ p,p∈x.1↔lnS f.P f.P.length p\/((Bx p/\p.Y<(i:Int))/\Pp f.Texture p=true/\Po f.P p=true)) ?_ ?_ _ ⟨rfl,by show l.length<=_;omega,λ p=>?_⟩
  ·rintro i ⟨d,x⟩ hi' ⟨h1,h2,h3⟩
   simp only at h1 h2 h3
   subst h1
   unfold EA
   refine Tot.iteT (decide_eq_true (by omega)) (Tot.bind (R:=λ z=>z.length<=30000+60*(i+1)/\∀ p,p∈z↔lnS f.P f.P.length p\/((Bx p/\p.Y<((i+1:Nat):Int))/\Pp f.Texture p=true/\Po f.P p=true)) ?_ λ z hz=>Tot.pure ⟨An (by omega),hz⟩)
   refine Tot.upto 60 (λ j (x:List Aa×Int)=>x.2=(j:Int)/\x.1.length<=30000+60*i+j/\∀ p,p∈x.1↔lnS f.P f.P.length p\/((Bx p/\ltG p ⟨(j:Int),(i:Int)⟩)/\Pp f.Texture p=true/\Po f.P p=true)) ?_ ?_ _ ⟨rfl,by show d.length<=_;omega,λ p=>?_⟩
   ·rintro j ⟨d,x⟩ hj ⟨h1,h2,h3⟩
    simp only at h1 h2 h3
    subst h1
    unfold Ez Ey
    have hqb:Bx ⟨(j:Int),(i:Int)⟩:=by unfold Bx;simp only;omega
    have hst:∀ p:Aa,ltG p ⟨((j+1:Nat):Int),(i:Int)⟩↔ltG p ⟨(j:Int),(i:Int)⟩\/p=⟨(j:Int),(i:Int)⟩:=λ p=>by
     cases p;unfold ltG;simp only [Aa.mk.injEq];omega
    refine Tot.iteT (decide_eq_true (by omega)) (Tot.bindA (λ n=>JcA n _ hqb) ?_)
    refine Tot.bind (R:=λ b=>b=(Pp f.Texture ⟨(j:Int),(i:Int)⟩&&Po f.P ⟨(j:Int),(i:Int)⟩)) ?_ λ b hbb=>?_
    ·cases Pp f.Texture ⟨(j:Int),(i:Int)⟩ with
     | true=>exact Tot.iteT rfl ((WB (by omega) (λ p hp=>(hb p hp).nr) hqb.nr).tot rfl)
     | false=>exact Tot.iteF rfl (Tot.pure rfl)
    ·subst hbb
     rw [show (Pp f.Texture ⟨(j:Int),(i:Int)⟩&&(Pp f.Texture ⟨(j:Int),(i:Int)⟩&&Po f.P ⟨(j:Int),(i:Int)⟩))=(Pp f.Texture ⟨(j:Int),(i:Int)⟩&&Po f.P ⟨(j:Int),(i:Int)⟩) from by cases Pp f.Texture ⟨(j:Int),(i:Int)⟩<;>rfl]
     refine Tot.ite (λ hc=>Tot.bindC (A9 (by simp;omega)) (Tot.pure ⟨An (by omega),by simp;omega,λ p=>?_⟩)) λ hc=>Tot.pure ⟨An (by omega),by show d.length<=_;omega,λ p=>?_⟩
     ·rw [JmN] at hc
      rw [List.mem_append,List.mem_singleton,h3,hst]
      constructor
      ·rintro ((h|⟨⟨h,h'⟩,h''⟩)|rfl)
       ·exact .inl h
       ·exact .inr ⟨⟨h,.inl h'⟩,h''⟩
       ·exact .inr ⟨⟨hqb,.inr rfl⟩,hc⟩
      ·rintro (h|⟨⟨h,h'|h'⟩,h''⟩)
       ·exact .inl (.inl h)
       ·exact .inl (.inr ⟨⟨h,h'⟩,h''⟩)
       ·exact .inr h'
     ·show p∈d↔_
      rw [h3,hst]
      constructor
      ·rintro (h|⟨⟨h,h'⟩,h''⟩)
       ·exact .inl h
       ·exact .inr ⟨⟨h,.inl h'⟩,h''⟩
      ·rintro (h|⟨⟨h,h'|rfl⟩,h''⟩)
       ·exact .inl h
       ·exact .inr ⟨⟨h,h'⟩,h''⟩
       ·rw [h''.1,h''.2] at hc;cases hc
   ·rintro ⟨d,x⟩ ⟨h1,h2,h3⟩
    simp only at h1 h2 h3
    subst h1
    unfold Ez
    refine Tot.iteF (decide_eq_false (by omega)) (Tot.pure ⟨by omega,λ p=>?_⟩)
    have:Bx p->(ltG p ⟨((60:Nat):Int),(i:Int)⟩↔p.Y<((i+1:Nat):Int)):=λ h=>by
     unfold Bx at h;unfold ltG;simp only;omega
    rw [h3]
    constructor
    ·rintro (h|⟨⟨h,h'⟩,h''⟩)
     ·exact .inl h
     ·exact .inr ⟨⟨h,(this h).1 h'⟩,h''⟩
    ·rintro (h|⟨⟨h,h'⟩,h''⟩)
     ·exact .inl h
     ·exact .inr ⟨⟨h,(this h).2 h'⟩,h''⟩
   ·have:Bx p->(ltG p ⟨((0:Nat):Int),(i:Int)⟩↔p.Y<(i:Int)):=λ h=>by
     unfold Bx at h;unfold ltG;simp only;omega
    show p∈d↔_
    rw [h3]
    constructor
    ·rintro (h|⟨⟨h,h'⟩,h''⟩)
     ·exact .inl h
     ·exact .inr ⟨⟨h,(this h).2 h'⟩,h''⟩
    ·rintro (h|⟨⟨h,h'⟩,h''⟩)
     ·exact .inl h
     ·exact .inr ⟨⟨h,(this h).1 h'⟩,h''⟩
  ·rintro ⟨d,x⟩ ⟨h1,h2,h3⟩
   simp only at h1 h2 h3
   subst h1
   unfold EA
   refine Tot.iteF (decide_eq_false (by omega)) (Tot.pure ⟨by show d.length<=_;omega,λ p=>?_⟩)
   show p∈d↔_
   rw [h3]
   constructor
   ·rintro (h|⟨h,h''⟩)
    ·exact .inl h
    ·exact .inr ⟨h.1,h''⟩
   ·rintro (h|⟨h,h''⟩)
    ·exact .inl h
    ·exact .inr ⟨⟨h,by unfold Bx at h;omega⟩,h''⟩
  ·show p∈l↔_
   rw [hl.2]
   constructor
   ·exact .inl
   ·rintro (h|⟨⟨h,h'⟩,h''⟩)
    ·exact h
    ·unfold Bx at h;omega
 ·refine Tot.bind (P0 (by omega)) λ r hr=>Tot.pure ⟨hr.1,λ p=>?_⟩
  rw [hr.2,hz.2]
  constructor
  ·rintro ⟨h|h,_⟩
   ·exact .inl h
   ·exact .inr h.2
  ·intro h
   refine ⟨?_,JcC hb h⟩
   rcases h with h|h
   ·exact .inl h
   ·exact .inr ⟨JcB hb h.2,h⟩
end Go.AI
end
section
namespace Go.AI
theorem JjY {f:Ax} (h:f.Kind=1):Ml f=(decide (f.P.length=1)&&(f.Texture==0)):=by unfold Ml;rw [h];rfl
def ptS (f:Ax) (p:Aa):Prop:=if f.Kind=1 then p∈f.P else if f.Kind=2 then lnS f.P (f.P.length-1) p else arS f.P f.Texture p
theorem JcD {f:Ax} (hv:LZ f=true):f.Kind=1\/f.Kind=2\/f.Kind=3:=by
 have hK:=(Sy hv).2.2
 unfold Ml at hK
 split at hK
 ·rename_i h;exact .inl (by simpa using h)
 ·split at hK
  ·rename_i h;exact .inr (.inl (by simpa using h))
  ·split at hK
   ·rename_i h;exact .inr (.inr (by simpa using h))
   ·cases hK
theorem JcE {f:Ax} (hv:LZ f=true) (hk:f.Kind=1):f.P=[f.P.getD 0 default]:=by
 have hK:=(Sy hv).2.2
 rw [JjY hk,JmN,decide_eq_true_eq] at hK
 obtain ⟨a,e⟩:=List.length_eq_one_iff.1 hK.1
 rw [e];rfl
theorem JcF {f:Ax} (hv:LZ f=true):Tot (λ n=>Dd n f) (λ r=>Inc r/\∀ p,p∈r↔ptS f p):=by
 unfold ptS
 rcases JcD hv with hk|hk|hk
 ·refine Tot.iteT (by rw [hk];rfl) (Tot.pure ⟨?_,λ p=>?_⟩)
  ·rw [JcE hv hk];exact List.pairwise_singleton _ _
  ·rw [if_pos hk]
 ·refine (Z6 hv hk).mono λ r hr=>⟨hr.1,λ p=>?_⟩
  rw [if_neg (by omega),if_pos hk,hr.2]
 ·refine (Z7 hv hk).mono λ r hr=>⟨hr.1,λ p=>?_⟩
  rw [if_neg (by omega),if_neg (by omega),hr.2]
theorem JjZ {f:Ax} (hv:LZ f=true) {p:Aa} (h:ptS f p):Bx p:=by
 obtain ⟨hb,hl,_⟩:=Sy hv
 unfold ptS at h
 split at h
 ·exact hb p h
 ·split at h
  ·exact XS (by omega) hb h
  ·exact JcC hb h
theorem Tot.gT {α β:Type} {P:α->Prop} {c:Bool} {f:Nat->Option β} {d:β} {g:Nat->β->Option α} {R:β->Prop} (hc:c=true) (h:Tot f R) (k:∀ x,R x->Tot (λ n=>g n x) P):Tot (λ n=>(if c=true then f n else some d).bind (g n)) P:=by
 subst hc;exact Tot.bind h k
end Go.AI
end
section
namespace Go.AI
theorem Sz (a b:Int):Tot (λ n=>Ff n a b) (λ l=>l.length<=5):=by
 unfold Ff
 refine Tot.ite (λ _=>Tot.pure (by simp)) λ _=>Tot.ite (λ _=>Tot.pure (by simp)) λ _=>Tot.ite (λ _=>Tot.pure (by simp)) λ _=>Tot.ite (λ _=>Tot.pure (by simp)) λ _=>Tot.ite (λ _=>Tot.pure (by simp)) λ _=>Tot.ite (λ _=>Tot.pure (by simp)) λ _=>Tot.ite (λ _=>Tot.pure (by simp)) λ _=>Tot.pure (by simp)
theorem Pq {r:RH} {out:List Am} (ho:out.length<=1) {k:Nat} (hk:k<=16):Tot (λ n=>Do n r out (k:Int)) (λ f=>f.length<=1000):=by
 unfold Do
 refine Tot.bind (R:=λ f=>f.length<=1000) ?_ λ f hf=>Tot.bind (TH f) λ b _=>Tot.ite (λ _=>Tot.bind (Sz _ _) λ l hl=>Tot.pure (by omega)) λ _=>Tot.pure hf
 refine Tot.upto k (λ i (x:List Am×Int)=>x.2=(i:Int)/\x.1.length<=1+5*i) ?_ ?_ _ ⟨rfl,by omega⟩
 ·rintro i ⟨l,x⟩ hi ⟨h1,h2⟩
  simp only at h1 h2
  subst h1
  unfold Gy
  have hj:∀ p:CB Int,Tot (λ n=>En n r l (i:Int) p) (Rd2 (λ x=>x.2=((i+1:Nat):Int)/\x.1.length<=1+5*(i+1)) λ f=>f.length<=1000):=λ p=>by
   unfold En
   refine Tot.ite (λ _=>Tot.bindC (A9 (by simp;omega)) (Tot.pure ⟨An (by omega),by simp;omega⟩)) λ _=>Tot.bind (Sz _ _) λ q hq=>Tot.bindC (A9 (by omega)) (Tot.pure ⟨An (by omega),by simp;omega⟩)
  refine Tot.iteT (decide_eq_true (show (i:Int)<(k:Int) by omega)) (Tot.ite (λ h=>?_) λ _=>hj _)
  rw [decide_eq_true_eq] at h
  exact Tot.bindC (Dg (show i<r.L.length from by simpa using h)) (hj _)
 ·rintro ⟨l,x⟩ ⟨h1,h2⟩
  simp only at h1 h2
  subst h1
  unfold Gy
  exact Tot.iteF (decide_eq_false (show ¬(k:Int)<(k:Int) by omega)) (Tot.pure (by show l.length<=1000;omega))
theorem Z8 {r:RH} (hn:U8 r.N):Tot (λ n=>Lp n r) (λ f=>f.length<=1000):=by
 unfold Lp
 unfold U8 at hn
 obtain ⟨a1,a2,a3⟩:=BF (a:=r.N) (m:=4) (by omega) (by omega)
 have q0:Dv .u8 r.N 4=r.N / 4:=by
  unfold Dv
  rw [Int.tdiv_eq_ediv_of_nonneg (by omega),w8 (by omega) (by omega)]
 obtain ⟨b1,b2,b3⟩:=BF (a:=Dv .u8 r.N 4) (m:=4) (by rw [q0];omega) (by omega)
 generalize Al r.N 4=p at *
 generalize Al (Dv .u8 r.N 4) 4=q at *
 rw [w64 (a:=p) (by omega) (by omega),w64 (a:=q) (by omega) (by omega)]
 have hp:p=0\/p=1\/p=2\/p=3:=by omega
 have hq:q=0\/q=1\/q=2\/q=3:=by omega
 refine Tot.ite (λ _=>?_) λ _=>Tot.ite (λ _=>?_) λ _=>Tot.ite (λ _=>Tot.bind (Sz _ _) λ l hl=>Tot.pure (by omega)) λ _=>Pq (k:=2) (by simp) (by omega)
 ·have e:∃ k:Nat,Ai .i64 3 p=(k:Int)/\k<=16:=by
   rcases hp with rfl|rfl|rfl|rfl
   ·exact ⟨3,rfl,by omega⟩
   ·exact ⟨4,rfl,by omega⟩
   ·exact ⟨5,rfl,by omega⟩
   ·exact ⟨6,rfl,by omega⟩
  obtain ⟨k,hk,hk2⟩:=e
  rw [hk]
  exact Pq (by simp) hk2
 ·have e:∃ k:Nat,BV .i64 (Ai .i64 1 p) (Ai .i64 1 q)=(k:Int)/\k<=16:=by
   rcases hp with rfl|rfl|rfl|rfl<;>rcases hq with rfl|rfl|rfl|rfl<;>exact ⟨_,rfl,by decide⟩
  obtain ⟨k,hk,hk2⟩:=e
  rw [hk]
  exact Pq (by simp) hk2
theorem XT (x:Wc Int) {w h:Int} (hw:w≠0) (hh:h≠0):Tot (λ n=>Gz n x w h) (λ f=>f.P.length<=4):=by
 unfold Gz DM DN
 refine Tot.bindC (Hp hw) (Tot.bindC (Hp hh) (Tot.ite (λ _=>Tot.pure (by simp)) λ _=>Tot.ite (λ _=>Tot.ite (λ _=>Tot.bindC (A9 (by simp)) (Tot.pure (by simp))) λ _=>Tot.pure (by simp)) λ _=>Tot.ite (λ _=>Tot.bindC (A9 (by simp)) (Tot.pure (by simp))) λ _=>Tot.pure (by simp)))
structure WD (p:Af):Prop where
 f:p.F.length<=100
 p:∀ g∈p.F,g.P.length<=100
theorem Z9 {r:Br} (hw:U8 r.W) (hh:U8 r.H):Tot (λ n=>Lq n r) WD:=by
 unfold Lq
 unfold U8 at hw hh
 obtain ⟨a1,a2,a3⟩:=BF (a:=r.W) (m:=13) (by omega) (by omega)
 obtain ⟨b1,b2,b3⟩:=BF (a:=r.H) (m:=9) (by omega) (by omega)
 rw [w64 (a:=Al r.W 13) (by omega) (by omega),w64 (a:=Al r.H 9) (by omega) (by omega)]
 rw [Gj (a:=2) (by omega) (by omega),Gj (a:=3) (by omega) (by omega),DG (a:=12) (b:=2*Al r.W 13) (by omega) (by omega),DG (a:=12) (b:=3*Al r.H 9) (by omega) (by omega)]
 refine Tot.bind (R:=WD) ?_ λ p hp=>Tot.ite (λ _=>Tot.pure ⟨by simp,by simp⟩) λ _=>Tot.pure hp
 refine Tot.upto (min r.F.length 4) (λ i (x:Af×Int)=>x.2=(i:Int)/\(x.1.W≠0/\x.1.H≠0)/\x.1.F.length=i/\∀ g∈x.1.F,g.P.length<=100) ?_ ?_ _ ⟨rfl,⟨by show (12:Int)+_≠0;omega,by show (12:Int)+_≠0;omega⟩,rfl,by simp⟩
 ·rintro i ⟨p,x⟩ hi ⟨h1,h2,h3,h4⟩
  simp only at h1 h2 h3 h4
  subst h1
  unfold GA
  have hlt:i<r.F.length:=by omega
  refine Tot.iteT (by rw [JmN,decide_eq_true_eq,decide_eq_true_eq];show (i:Int)<_/\(i:Int)<4;omega) (Tot.bindC (AD hlt) (Tot.bind (XT _ h2.1 h2.2) λ g hg=>Tot.bindC (A9 (by simp;omega)) (Tot.pure ⟨An (by omega),h2,by simp;exact h3,λ q hq=>?_⟩)))
  rw [List.mem_append,List.mem_singleton] at hq
  rcases hq with hq|rfl
  ·exact h4 q hq
  ·omega
 ·rintro ⟨p,x⟩ ⟨h1,h2,h3,h4⟩
  simp only at h1 h2 h3 h4
  subst h1
  unfold GA
  exact Tot.iteF (by rw [Bool.and_eq_false_iff,decide_eq_false_iff_not,decide_eq_false_iff_not];show ¬(((min r.F.length 4:Nat):Int)<_)\/¬(((min r.F.length 4:Nat):Int)<4);omega) (Tot.pure ⟨by show p.F.length<=100;omega,h4⟩)
theorem TI {α:Type} [DecidableEq α] {l m:List α} (h:l.Nodup) (hs:∀ x∈l,x∈m):l.length<=m.length:=by
 induction l generalizing m with
 | nil=>simp
 | cons a l ih=>
  rw [List.nodup_cons] at h
  have ha:=hs a (by simp)
  have hlen:(m.erase a).length=m.length-1:=List.length_erase_of_mem ha
  have hpos:0<m.length:=List.length_pos_of_mem ha
  have:=ih (m:=m.erase a) h.2 λ x hx=>by
   have hne:x≠a:=λ e=>h.1 (e▸hx)
   exact (List.mem_erase_of_ne hne).2 (hs x (by simp [hx]))
  simp
  omega
structure PtL (k:Nat) (l:List Aa):Prop where
 len:l.length<=k
 nr:∀ p∈l,Nr p
theorem Oc {a b:List Aa} (ha:PtL 1000000 a) (hb:PtL 1000000 b):Tot (λ n=>BC n a b) (λ _=>True):=by
 have hal:=ha.len
 have hbl:=hb.len
 refine Tot.bind (R:=λ _=>True) ?_ λ _ _=>Tot.pure trivial
 refine Tot.upto a.length (λ i (x:Int×Int)=>x.2=(i:Int)) ?_ ?_ _ rfl
 ·rintro i ⟨o,x⟩ hi h1
  simp only at h1
  subst h1
  unfold B8
  refine Tot.iteT (D4 hi) (Tot.bind (R:=λ _=>True) ?_ λ _ _=>Tot.pure (An (by omega)))
  refine Tot.upto b.length (λ i (x:Int×Int)=>x.2=(i:Int)) ?_ ?_ _ rfl
  ·rintro k ⟨o,x⟩ hk h1
   simp only at h1
   subst h1
   unfold B7
   refine Tot.iteT (D4 hk) (Tot.bindC (AD hi) (Tot.bindC (AD hk) (Tot.bindA (λ n=>Jcs n (ha.nr _ (JmB hi)) (hb.nr _ (JmB hk))) (Tot.ite (λ _=>Tot.pure (An (by omega))) λ _=>Tot.pure (An (by omega))))))
  ·rintro ⟨o,x⟩ h1
   simp only at h1
   subst h1
   unfold B7
   exact Tot.iteF (Cr _) (Tot.pure trivial)
 ·rintro ⟨o,x⟩ h1
  simp only at h1
  subst h1
  unfold B8
  exact Tot.iteF (Cr _) (Tot.pure trivial)
theorem SA {l:List Aa} (q:Aa) (hl:l.length<=1000000):Ev (λ n=>Ky n l q) (decide (q∈l)):=by
 refine Tot.ev (Tot.bind (R:=λ y=>y=if q∈l then .inr true else .inl ()) ?_ λ y hy=>?_)
 ·refine Tot.upto l.length (λ i (x:Int)=>x=(i:Int)/\q ∉ l.take i) ?_ ?_ _ ⟨rfl,by simp⟩
  ·rintro i _ hi ⟨rfl,hj⟩
   unfold HI
   refine Tot.iteT (decide_eq_true (by omega)) (Tot.bindC (AD hi) ?_)
   rw [JjW]
   refine Tot.ite (λ hb=>Tot.pure ?_) λ hb=>Tot.pure ⟨An (by omega),?_⟩
   ·show _=_
    rw [if_pos]
    rw [← of_decide_eq_true hb]
    exact JmB _
   ·rw [List.take_succ_eq_append_getElem hi,List.mem_append,List.mem_singleton]
    rintro (h|h)
    ·exact hj h
    ·exact of_decide_eq_false hb h.symm
  ·rintro _ ⟨rfl,hj⟩
   unfold HI
   refine Tot.iteF (decide_eq_false (by omega)) (Tot.pure ?_)
   show _=_
   rw [if_neg]
   rw [List.take_length] at hj
   exact hj
 ·subst hy
  by_cases h:q∈l
  ·rw [if_pos h,decide_eq_true h];exact Tot.pure rfl
  ·rw [if_neg h,decide_eq_false h];exact Tot.pure rfl
theorem P1 {l:List Aa} (hl:l.length<=100000):Tot (λ n=>HJ n l) (λ z=>(z.Nodup/\z.length<=l.length)/\∀ p,p∈z↔p∈l):=by
 refine Tot.bind (R:=λ z=>(z.Nodup/\z.length<=l.length)/\∀ p,p∈z↔p∈l) ?_ λ z hz=>Tot.pure hz
 refine Tot.upto l.length (λ i (x:List Aa×Int)=>x.2=(i:Int)/\(x.1.Nodup/\x.1.length<=i)/\∀ p,p∈x.1↔p∈l.take i) ?_ ?_ _ ⟨rfl,⟨List.nodup_nil,by simp⟩,by simp⟩
 ·rintro i ⟨o,x⟩ hi ⟨h1,⟨h2,h3⟩,h4⟩
  simp only at h1 h2 h3 h4
  subst h1
  unfold ED
  refine Tot.iteT (D4 hi) (Tot.bindC (AD hi) (Tot.bindE (SA _ (show o.length<=1000000 by omega)) (Tot.ite (λ hb=>Tot.pure ⟨An (by omega),⟨h2,by show o.length<=i+1;omega⟩,λ p=>?_⟩) λ hb=>?_)))
  ·rw [decide_eq_true_eq] at hb
   rw [List.take_succ_eq_append_getElem hi,List.mem_append,List.mem_singleton,← h4]
   constructor
   ·exact .inl
   ·rintro (h|rfl)
    ·exact h
    ·exact hb
  ·rw [decide_eq_false_iff_not] at hb
   refine Tot.bind (R:=λ y=>∃ k:Nat,y=(k:Int)/\k<=o.length) ?_ λ y hy=>?_
   ·refine Tot.whl (λ q (x:Int)=>x=(q:Int)/\q<=o.length) ?_ o.length _ ⟨rfl,JmD _⟩
    rintro q _ ⟨rfl,hq⟩
    unfold G4
    cases q with
    | zero=>exact Tot.gF rfl (Tot.gF rfl (Tot.gF rfl (Tot.iteF rfl (Tot.pure ⟨0,rfl,by omega⟩))))
    | succ q=>
     have e:AU .i64 ((q+1:Nat):Int) 1=(q:Int):=(Cq (by omega) (by omega)).trans (by omega)
     have hd:decide (((q+1:Nat):Int)>0)=true:=decide_eq_true (by omega)
     rw [e,hd]
     refine Tot.gE rfl (Ev.all λ n=>AD hi) (Tot.gE rfl (Ev.all λ n=>AD (show q<o.length by omega)) (Tot.gE rfl (Ev.all λ n=>rfl) (Tot.ite (λ _=>Tot.pure ⟨q,by omega,rfl,by omega⟩) λ _=>Tot.pure ⟨q+1,rfl,hq⟩)))
   ·obtain ⟨k,rfl,hk⟩:=hy
    have e1:((o.take ((o.length:Nat):Int).toNat).drop (k:Int).toNat)=o.drop k:=by simp
    have e2:((o.take (k:Int).toNat).drop (0:Int).toNat)=o.take k:=by simp
    refine Tot.bindC (Hm (by omega) (show (k:Int)<=((o.length:Nat):Int) by omega) (Int.le_refl _)) ?_
    rw [e1]
    refine Tot.bindC (A9 (by simp;omega)) (Tot.bindC (Hm (Int.le_refl 0) (by omega) (show (k:Int)<=((o.length:Nat):Int) by omega)) ?_)
    rw [e2,List.nil_append]
    have hperm:(o.take k++[l[i]]++o.drop k).Perm (l[i]::o):=by
     have:(o.take k++[l[i]]++o.drop k).Perm ([l[i]]++o.take k++o.drop k):=(List.perm_append_comm).append_right _
     rw [List.append_assoc ([l[i]]),List.take_append_drop] at this
     exact this
    refine Tot.bindC (AD hi) (Tot.bindC (A9 (by simp;omega)) (Tot.bindC (A9 (by simp;omega)) (Tot.pure ⟨An (by omega),⟨hperm.nodup_iff.2 (List.nodup_cons.2 ⟨hb,h2⟩),?_⟩,λ p=>?_⟩)))
    ·have:=hperm.length_eq
     show (o.take k++[l[i]]++o.drop k).length<=i+1
     rw [this,List.length_cons];omega
    ·show p∈o.take k++[l[i]]++o.drop k↔_
     rw [hperm.mem_iff,List.mem_cons,h4,List.take_succ_eq_append_getElem hi,List.mem_append,List.mem_singleton]
     exact or_comm
 ·rintro ⟨o,x⟩ ⟨h1,⟨h2,h3⟩,h4⟩
  simp only at h1 h2 h3 h4
  subst h1
  unfold ED
  rw [List.take_length] at h4
  exact Tot.iteF (Cr _) (Tot.pure ⟨⟨h2,h3⟩,h4⟩)
theorem WE {l:List Aa} (hl:PtL 100000 l) (gap:Int):Tot (λ n=>H9 n l gap) (λ _=>True):=by
 have hlen:=hl.len
 refine Tot.bind (P1 hlen) λ z hz=>Tot.bind (R:=λ _=>True) ?_ λ _ _=>Tot.pure trivial
 obtain ⟨⟨z1,z2⟩,z3⟩:=hz
 refine Tot.whl (λ q (x:List Aa×List (List Aa))=>x.1.length=q/\(x.1.Nodup/\PtL 100000 x.1)/\x.2.length+q<=100000) ?_ z.length _ ⟨rfl,⟨z1,show z.length<=100000 by omega,λ p hp=>hl.nr p ((z3 p).1 hp)⟩,by simp;omega⟩
 rintro q ⟨rest,out⟩ ⟨h1,⟨h2,h3⟩,h4⟩
 simp only at h1 h2 h3 h4
 subst h1
 unfold Fl
 have hrl:=h3.len
 cases hr:rest with
 | nil=>exact Tot.iteF rfl (Tot.pure trivial)
 | cons r0 rs=>
  rw [← hr]
  have hp:0<rest.length:=by rw [hr];simp
  have hr0:r0∈rest:=by rw [hr];exact List.mem_cons_self ..
  refine Tot.iteT (decide_eq_true (show (0:Int)<((rest.length:Nat):Int) by omega)) (Tot.bindC (Dg (i:=0) hp) ?_)
  have e0:rest.getD 0 default=r0:=by rw [hr];rfl
  rw [e0]
  have hsub:∀ {o:List Aa},o.Nodup->(∀ p∈o,p∈rest)->o.length<=rest.length:=λ h1 h2=>TI h1 h2
  refine Tot.bind (R:=λ one=>(r0∈one/\one.Nodup)/\∀ p∈one,p∈rest) ?_ λ one h1=>?_
  ·refine Tot.whl (λ m (x:List Aa×Bool)=>m=2*(rest.length-x.1.length)+(if x.2=true then 1 else 0)/\(r0∈x.1/\x.1.Nodup)/\∀ p∈x.1,p∈rest) ?_ _ _ ⟨rfl,⟨by simp,by simp⟩,by simpa using hr0⟩
   rintro m ⟨one,gr⟩ ⟨hm,⟨g1,g2⟩,g3⟩
   simp only at hm g1 g2 g3
   subst hm
   unfold Fj
   cases gr with
   | false=>exact Tot.iteF rfl (Tot.pure ⟨⟨g1,g2⟩,g3⟩)
   | true=>
    refine Tot.iteT rfl (Tot.bind (R:=λ y:List Aa×Bool=>(one.length<=y.1.length/\(y.2=true->one.length<y.1.length))/\(r0∈y.1/\y.1.Nodup)/\∀ p∈y.1,p∈rest) ?_ λ y hy=>Tot.pure ⟨_,?_,rfl,hy.2⟩)
    ·refine Tot.upto rest.length (λ i (x:List Aa×Bool×Int)=>x.2.2=(i:Int)/\(one.length<=x.1.length/\(x.2.1=true->one.length<x.1.length))/\(r0∈x.1/\x.1.Nodup)/\∀ p∈x.1,p∈rest) ?_ ?_ _ ⟨rfl,⟨JmD _,λ h=>by cases h⟩,⟨g1,g2⟩,g3⟩
     ·rintro i ⟨o,g,x⟩ hi ⟨k1,⟨k2,k2'⟩,⟨k3,k4⟩,k5⟩
      simp only at k1 k2 k2' k3 k4 k5
      subst k1
      unfold Dp
      have hol:=hsub k4 k5
      have hsb:sub rest (i:Int) (Ai .i64 (i:Int) 1)=some [rest[i]]:=by
       rw [An (by omega),Hm (by omega) (by omega) (by omega),JmW,JmW,List.take_succ_eq_append_getElem hi,List.drop_left' (by simp;omega)]
      have ho:PtL 1000000 o:=⟨by omega,λ p hp=>h3.nr p (k5 p hp)⟩
      have h1p:PtL 1000000 [rest[i]]:=⟨by simp,λ p hp=>by rw [List.mem_singleton] at hp;subst hp;exact h3.nr _ (JmB hi)⟩
      refine Tot.iteT (D4 hi) (Tot.bindC (AD hi) (Tot.bindE (SA _ ho.len) ?_))
      by_cases hin:rest[i]∈o
      ·rw [decide_eq_true hin]
       exact Tot.gF rfl (Tot.gF rfl (Tot.iteF rfl (Tot.pure ⟨An (by omega),⟨k2,k2'⟩,⟨k3,k4⟩,k5⟩)))
      ·rw [decide_eq_false hin]
       refine Tot.gE rfl (Ev.all λ n=>hsb) (Tot.guard (R:=λ _=>True) (λ _=>Oc ho h1p) λ d _=>Tot.ite (λ _=>?_) λ _=>Tot.pure ⟨An (by omega),⟨k2,k2'⟩,⟨k3,k4⟩,k5⟩)
       refine Tot.bindC (AD hi) (Tot.bindC (A9 (by simp;omega)) (Tot.pure ⟨An (by omega),⟨?_,λ _=>?_⟩,⟨?_,?_⟩,λ p hp=>?_⟩))
       ·show one.length<=(o++[rest[i]]).length
        rw [List.length_append];omega
       ·show one.length<(o++[rest[i]]).length
        rw [List.length_append];simp only [List.length_singleton];omega
       ·exact List.mem_append_left _ k3
       ·show (o++[rest[i]]).Nodup
        rw [List.nodup_append]
        exact ⟨k4,by simp,λ a ha b hb e=>by rw [List.mem_singleton] at hb;subst hb;subst e;exact hin ha⟩
       ·rw [List.mem_append,List.mem_singleton] at hp
        rcases hp with hp|rfl
        ·exact k5 p hp
        ·exact JmB hi
     ·rintro ⟨o,g,x⟩ ⟨k1,k2,k3,k5⟩
      simp only at k1 k2 k3 k5
      subst k1
      unfold Dp
      exact Tot.iteF (Cr _) (Tot.pure ⟨k2,k3,k5⟩)
    ·obtain ⟨⟨y1,y2⟩,⟨_,y4⟩,y5⟩:=hy
     have:=hsub y4 y5
     have h0:=hsub g2 g3
     show 2*(rest.length-y.1.length)+(if y.2=true then 1 else 0)<2*(rest.length-one.length)+(if true=true then 1 else 0)
     rw [if_pos rfl]
     split
     ·rename_i hb
      have:=y2 hb
      omega
     ·omega
  ·obtain ⟨⟨o1,o2⟩,o3⟩:=h1
   have hol:=hsub o2 o3
   have hone:one.length<=100000:=by omega
   refine Tot.bind (R:=λ y:List Aa=>y.length<rest.length/\y.Nodup/\∀ p∈y,p∈rest) ?_ λ y hy=>?_
   ·refine Tot.upto rest.length (λ i (x:List Aa×Int)=>x.2=(i:Int)/\x.1=(rest.take i).filter λ p=>!(decide (p∈one))) ?_ ?_ _ ⟨rfl,by simp⟩
    ·rintro i ⟨o,x⟩ hi ⟨k1,k2⟩
     simp only at k1 k2
     subst k1
     unfold Dq
     have hol:o.length<=i:=by
      rw [k2]
      have:=List.length_filter_le (λ p=>!(decide (p∈one))) (rest.take i)
      rw [List.length_take] at this
      omega
     refine Tot.iteT (D4 hi) (Tot.bindC (AD hi) (Tot.bindE (SA _ (by omega)) ?_))
     rw [List.take_succ_eq_append_getElem hi,List.filter_append,← k2]
     by_cases hin:rest[i]∈one
     ·rw [decide_eq_true hin]
      refine Tot.iteF rfl (Tot.pure ⟨An (by omega),?_⟩)
      simp [hin]
     ·rw [decide_eq_false hin]
      refine Tot.iteT rfl (Tot.bindC (AD hi) (Tot.bindC (A9 (by simp;omega)) (Tot.pure ⟨An (by omega),?_⟩)))
      simp [hin]
    ·rintro ⟨o,x⟩ ⟨k1,k2⟩
     simp only at k1 k2
     subst k1
     unfold Dq
     rw [List.take_length] at k2
     subst k2
     refine Tot.iteF (Cr _) (Tot.pure ⟨?_,h2.sublist (List.filter_sublist ..),λ p hp=>(List.mem_filter.1 hp).1⟩)
     show (rest.filter _).length<rest.length
     rw [hr,List.filter_cons_of_neg (by simp [o1])]
     have:=List.length_filter_le (λ p=>!(decide (p∈one))) rs
     rw [List.length_cons];omega
   ·obtain ⟨y1,y2,y3⟩:=hy
    refine Tot.bind (P1 hone) λ s hs=>Tot.bindC (A9 (by simp;omega)) (Tot.pure ⟨y.length,y1,rfl,⟨y2,show y.length<=100000 by omega,λ p hp=>h3.nr p (y3 p hp)⟩,by simp;omega⟩)
end Go.AI
end
section
namespace Go.AI
def bxG:List Aa:=(List.range 60).flatMap λ (y:Nat)=>(List.range 60).map λ (x:Nat)=>(⟨(x:Int),(y:Int)⟩:Aa)
theorem Jfq:bxG.length=3600:=by kernel_rfl
theorem Jfr {p:Aa} (h:Bx p):p∈bxG:=by
 obtain ⟨X,Y⟩:=p
 unfold Bx at h
 simp only at h
 unfold bxG
 rw [List.mem_flatMap]
 refine ⟨Y.toNat,List.mem_range.2 (by omega),JmG.2 ⟨X.toNat,List.mem_range.2 (by omega),?_⟩⟩
 rw [Int.toNat_of_nonneg (by omega),Int.toNat_of_nonneg (by omega)]
theorem Jfs {r:List Aa} (h:Inc r) (hb:∀ p∈r,Bx p):PtL 3600 r:=by
 refine ⟨?_,λ p hp=>(hb p hp).nr⟩
 have:=TI h.nodup λ p hp=>Jfr (hb p hp)
 rwa [Jfq] at this
theorem YM {f:Ax} (hv:LZ f=true):Tot (λ n=>Dd n f) (PtL 3600):=(JcF hv).mono λ r hr=>Jfs hr.1 λ p hp=>JjZ hv ((hr.2 p).1 hp)
theorem WF {l:List Aa} (hl:l.length<=1000000) (w h:Int):Tot (λ n=>Kx n l w h) (λ _=>True):=by
 refine Tot.bind (R:=λ _=>True) ?_ λ y _=>by
  cases y with
  | inl _=>exact Tot.pure trivial
  | inr _=>exact Tot.pure trivial
 refine Tot.upto l.length (λ i (x:Int)=>x=(i:Int)) (λ i x hi hx=>?_) (λ x hx=>?_) _ rfl
 ·subst hx
  unfold EB
  have g:∀ (c:Bool) (P:Nat->Aa->Option (Int⊕(Unit⊕Bool))) (Q:Int⊕(Unit⊕Bool)->Prop),(∀ x,Tot (λ n=>P n x) Q)->Tot (λ n=>(if c=true then idx l (i:Int) else some default).bind (P n)) Q:=λ c P Q hP=>Tot.guard (R:=λ _=>True) (λ _=>Tot.all (λ n=>AD hi) trivial) λ x _=>hP x
  refine Tot.iteT (D4 hi) (Tot.bindC (AD hi) (g _ _ _ λ x1=>g _ _ _ λ x2=>g _ _ _ λ x3=>Tot.ite (λ _=>Tot.pure trivial) λ _=>Tot.pure (An (by omega))))
 ·subst hx
  unfold EB
  exact Tot.iteF (Cr _) (Tot.pure trivial)
structure XU (p:Af):Prop where
 w:4<=p.W/\p.W<=60
 h:3<=p.H/\p.H<=60
 g:2<=p.Gap/\p.Gap<=6
 f:p.F.length<=8
 v:∀ x∈p.F,LZ x=true
theorem XV {p:Af} (hs:WD p):Tot (λ n=>Fh n p) (λ b=>b=true->XU p):=by
 have hf:=hs.f
 unfold Fh
 refine Tot.ite (λ _=>Tot.pure λ h=>by cases h) λ hc=>?_
 simp only [JmL,decide_eq_false_iff_not] at hc
 refine Tot.bind (R:=λ y:Unit⊕Bool=>(y=.inl ()->∀ x∈p.F,LZ x=true)/\y≠.inr true) ?_ λ y hy=>by
  cases y with
  | inl _=>exact Tot.pure λ _=>⟨by omega,by omega,by omega,by omega,hy.1 rfl⟩
  | inr b=>exact Tot.pure λ h=>absurd (by rw [h]) hy.2
 refine Tot.upto p.F.length (λ i (x:Int)=>x=(i:Int)/\∀ f∈p.F.take i,LZ f=true) ?_ ?_ _ ⟨rfl,by simp⟩
 ·rintro i _ hi ⟨rfl,hv⟩
  unfold Fw
  have hpl:=hs.p _ (JmB hi)
  refine Tot.iteT (D4 hi) (Tot.bindC (AD hi) (Tot.bindE (XR _ (by omega)) ?_))
  cases hb:LZ p.F[i] with
  | false=>exact Tot.gF rfl (Tot.gF rfl (Tot.gF rfl (Tot.iteT rfl (Tot.pure ⟨λ h=>(by cases h),λ h=>(by cases h)⟩))))
  | true=>
   refine Tot.gE rfl (Ev.all λ n=>AD hi) (Tot.gT rfl (YM hb) λ r hr=>Tot.gT rfl (WF (by have:=hr.len;omega) _ _) λ b _=>Tot.ite (λ _=>Tot.pure ⟨λ h=>(by cases h),λ h=>(by cases h)⟩) λ _=>Tot.pure ⟨An (by omega),λ f hf=>?_⟩)
   rw [List.take_succ_eq_append_getElem hi,List.mem_append,List.mem_singleton] at hf
   rcases hf with hf|rfl
   ·exact hv f hf
   ·exact hb
 ·rintro _ ⟨rfl,hv⟩
  unfold Fw
  rw [List.take_length] at hv
  exact Tot.iteF (Cr _) (Tot.pure ⟨λ _=>hv,λ h=>(by cases h)⟩)
structure JcG (k:Nat) (l:List (List Aa)):Prop where
 len:l.length=k
 pt:∀ r∈l,PtL 3600 r
theorem JcG.at {k:Nat} {l:List (List Aa)} (h:JcG k l) {i:Nat} (hi:i<l.length):PtL 1000000 l[i]:=by
 have:=h.pt _ (JmB hi)
 exact ⟨by have:=this.len;omega,this.nr⟩
theorem Ld {p:Af} (hv:XU p):Tot (λ n=>FO n p) (JcG p.F.length):=by
 have hf:=hv.f
 refine Tot.bind (R:=JcG p.F.length) ?_ λ l hl=>Tot.pure hl
 refine Tot.upto p.F.length (λ i (x:List (List Aa)×Int)=>x.2=(i:Int)/\JcG i x.1) ?_ ?_ _ ⟨rfl,rfl,by simp⟩
 ·rintro i ⟨l,x⟩ hi ⟨h1,h2⟩
  simp only at h1 h2
  subst h1
  unfold EC
  have hll:=h2.len
  refine Tot.iteT (D4 hi) (Tot.bindC (AD hi) (Tot.bind (YM (hv.v _ (JmB hi))) λ r hr=>Tot.bindC (A9 (by simp;omega)) (Tot.pure ⟨An (by omega),by simp;exact hll,λ q hq=>?_⟩)))
  rw [List.mem_append,List.mem_singleton] at hq
  rcases hq with hq|rfl
  ·exact h2.pt q hq
  ·exact hr
 ·rintro ⟨l,x⟩ ⟨h1,h2⟩
  simp only at h1 h2
  subst h1
  unfold EC
  exact Tot.iteF (Cr _) (Tot.pure h2)
theorem JcH {p:Af} (hb:Ev (λ n=>Fh n p) true) (hv:XU p):Tot (λ n=>G2 n p) (λ d=>d.length=p.F.length/\∀ r∈d,r.length=p.F.length):=by
 have hf:=hv.f
 refine Tot.bindE hb (Tot.iteF rfl (Tot.bind (Ld hv) λ l hl=>?_))
 have hll:=hl.len
 refine Tot.bind (R:=λ d=>d.length=p.F.length/\∀ r∈d,r.length=p.F.length) ?_ λ d hd=>Tot.pure hd
 refine Tot.upto l.length (λ i (x:List (List Int)×Int)=>x.2=(i:Int)/\x.1.length=i/\∀ r∈x.1,r.length=p.F.length) ?_ ?_ _ ⟨rfl,rfl,by simp⟩
 ·rintro i ⟨d,x⟩ hi ⟨h1,h2,h3⟩
  simp only at h1 h2 h3
  subst h1
  unfold C6
  refine Tot.iteT (D4 hi) (Tot.bind (R:=λ r=>r.length=p.F.length) ?_ λ r hr=>Tot.bindC (A9 (by simp;omega)) (Tot.pure ⟨An (by omega),by simp;exact h2,λ q hq=>?_⟩))
  ·refine Tot.upto l.length (λ k (x:List Int×Int)=>x.2=(k:Int)/\x.1.length=k) ?_ ?_ _ ⟨rfl,rfl⟩
   ·rintro k ⟨r,x⟩ hk ⟨g1,g2⟩
    simp only at g1 g2
    subst g1
    unfold C5
    exact Tot.iteT (D4 hk) (Tot.bindC (AD hi) (Tot.bindC (AD hk) (Tot.bind (Oc (hl.at hi) (hl.at hk)) λ d _=>Tot.bindC (A9 (by simp;omega)) (Tot.pure ⟨An (by omega),by simp;exact g2⟩))))
   ·rintro ⟨r,x⟩ ⟨g1,g2⟩
    simp only at g1 g2
    subst g1
    unfold C5
    exact Tot.iteF (Cr _) (Tot.pure (by show r.length=_;omega))
  ·rw [List.mem_append,List.mem_singleton] at hq
   rcases hq with hq|rfl
   ·exact h3 q hq
   ·exact hr
 ·rintro ⟨d,x⟩ ⟨h1,h2,h3⟩
  simp only at h1 h2 h3
  subst h1
  unfold C6
  exact Tot.iteF (Cr _) (Tot.pure ⟨by show d.length=_;omega,h3⟩)
end Go.AI
end
section
namespace Go.AI
theorem XW {p:Af} (hs:WD p):Tot (λ n=>MC n p) (λ r=>r.E=0->XU p):=by
 obtain ⟨b,hb,hbe⟩:=XV hs
 refine Tot.bindE hbe (Tot.ite (λ _=>Tot.pure λ h=>by cases h) λ hc=>?_)
 have hbt:b=true:=by simpa using hc
 subst hbt
 have hv:=hb rfl
 have hf:=hv.f
 refine Tot.bind (Ld hv) λ l hl=>Tot.bind (JcH hbe hv) λ d hd=>?_
 have hll:=hl.len
 have hfin:Tot (λ n=>(whl (λ (x:Int)=>DD n p l d x) n 0)) (λ _=>True):=by
  refine Tot.upto l.length (λ i (x:Int)=>x=(i:Int)) (λ i x hi hx=>?_) (λ x hx=>?_) _ rfl
  ·subst hx
   unfold DD
   refine Tot.iteT (D4 hi) (Tot.bind (R:=λ _=>True) ?_ λ y _=>by
    cases y with
    | inl _=>exact Tot.pure (An (by omega))
    | inr _=>exact Tot.pure trivial)
   refine Tot.whl (λ m (x:Int)=>∃ j:Nat,x=(j:Int)/\m=100-j) ?_ (100-(i+1)) _ ⟨i+1,An (by omega),rfl⟩
   rintro m _ ⟨j,rfl,rfl⟩
   unfold Ia
   refine Tot.ite (λ h=>?_) λ _=>Tot.pure trivial
   rw [decide_eq_true_eq] at h
   have hi2:i<d.length:=by omega
   have hr:=hd.2 _ (JmB hi2)
   exact Tot.bindC (AD hi2) (Tot.bindC (AD (show j<d[i].length by omega)) (Tot.ite (λ _=>Tot.pure trivial) λ _=>Tot.pure ⟨100-(j+1),by omega,j+1,An (by omega),rfl⟩))
  ·subst hx
   unfold DD
   exact Tot.iteF (Cr _) (Tot.pure trivial)
 refine Tot.bind (R:=λ _=>True) ?_ λ y _=>by
  cases y with
  | inr r=>exact Tot.pure λ _=>hv
  | inl _=>
   refine Tot.bind hfin λ y _=>?_
   cases y with
   | inr r=>exact Tot.pure λ _=>hv
   | inl _=>exact Tot.pure λ _=>hv
 refine Tot.upto l.length (λ i (x:Int)=>x=(i:Int)) (λ i x hi hx=>?_) (λ x hx=>?_) _ rfl
 ·subst hx
  unfold Fx
  have hp:=hl.pt _ (JmB hi)
  exact Tot.iteT (D4 hi) (Tot.bindC (AD hi) (Tot.bind (WE ⟨by have:=hp.len;omega,hp.nr⟩ _) λ c _=>Tot.ite (λ _=>Tot.pure trivial) λ _=>Tot.pure (An (by omega))))
 ·subst hx
  unfold Fx
  exact Tot.iteF (Cr _) (Tot.pure trivial)
def LbP (p:Aa):Prop:=(0<=p.X/\p.X<=60)/\0<=p.Y/\p.Y<=60
theorem Lf {i:Nat} (hi:i<8) {at_:Aa} (ha:LbP at_):Tot (λ n=>Co n (i:Int) at_) (PtL 1000000):=by
 unfold LbP at ha
 have hc:Tot (λ n=>Fm n (i:Int)) (λ l=>l.length=2):=by
  unfold Fm
  exact Tot.bindC (AD (show i<([1,3,9,25,17,11,27,19]:List Int).length from hi)) (Tot.pure rfl)
 refine Tot.bind hc λ c hc=>Tot.bind (R:=PtL 1000000) ?_ λ l hl=>Tot.pure hl
 refine Tot.upto 3 (λ r (x:List Aa×Int)=>x.2=(r:Int)/\PtL (4*r) x.1) ?_ ?_ _ ⟨rfl,by simp,by simp⟩
 ·rintro r ⟨l,x⟩ hr ⟨h1,h2⟩
  simp only at h1 h2
  subst h1
  unfold CF
  refine Tot.iteT (decide_eq_true (show (r:Int)<3 by omega)) (Tot.bind (R:=PtL (4*(r+1))) ?_ λ l hl=>Tot.pure ⟨An (by omega),hl⟩)
  refine Tot.upto 4 (λ k (x:List Aa×Int)=>x.2=(k:Int)/\PtL (4*r+k) x.1) ?_ ?_ _ ⟨rfl,h2⟩
  ·rintro k ⟨l,x⟩ hk ⟨g1,g2⟩
   simp only at g1 g2
   subst g1
   unfold CE
   have hll:=g2.len
   have e1:∃ j:Nat,Dv .i64 (k:Int) 2=(j:Int)/\j<2:=by
    have:k=0\/k=1\/k=2\/k=3:=by omega
    rcases this with rfl|rfl|rfl|rfl
    ·exact ⟨0,rfl,by omega⟩
    ·exact ⟨0,rfl,by omega⟩
    ·exact ⟨1,rfl,by omega⟩
    ·exact ⟨1,rfl,by omega⟩
   obtain ⟨j,hj,hj2⟩:=e1
   have e2:0<=Ai .i64 (BV .i64 3 (Al (k:Int) 2)) (r:Int):=by
    obtain ⟨_,b2,b3⟩:=BF (a:=(k:Int)) (m:=2) (by omega) (by omega)
    rw [Gj (by omega) (by omega),DG (by omega) (by omega)];omega
   rw [hj]
   refine Tot.iteT (decide_eq_true (show (k:Int)<4 by omega)) (Tot.bindC (AD (show j<c.length by omega)) (Tot.bindC (Eb (decide_eq_true e2)) (Tot.ite (λ _=>?_) λ _=>Tot.pure ⟨An (by omega),by show l.length<=4*r+(k+1);omega,g2.nr⟩)))
   refine Tot.bindC (A9 (by simp;omega)) (Tot.pure ⟨An (by omega),by simp;omega,λ q hq=>?_⟩)
   rw [List.mem_append,List.mem_singleton] at hq
   rcases hq with hq|rfl
   ·exact g2.nr q hq
   ·unfold Nr
    simp only
    rw [Gj (a:=2) (by omega) (by omega),Gj (a:=3) (by omega) (by omega),DG (by omega) (by omega),DG (by omega) (by omega)]
    omega
  ·rintro ⟨l,x⟩ ⟨g1,g2⟩
   simp only at g1 g2
   subst g1
   unfold CE
   exact Tot.iteF rfl (Tot.pure g2)
 ·rintro ⟨l,x⟩ ⟨h1,h2⟩
  simp only at h1 h2
  subst h1
  unfold CF
  exact Tot.iteF rfl (Tot.pure ⟨by have:=h2.len;show l.length<=_;omega,h2.nr⟩)
theorem Jft {p:Af} (hv:XU p) {i:Nat} (hi:i<p.F.length) (a:Aa):Tot (λ n=>OJ n p (i:Int) a) (λ _=>True):=by
 have hf:=hv.f
 refine Tot.ite (λ _=>Tot.pure trivial) λ hc=>?_
 simp only [JmL,decide_eq_false_iff_not] at hc
 have ha:LbP a:=by unfold LbP;omega
 refine Tot.bind (Ld hv) λ l hl=>Tot.bind (Lf (by omega) ha) λ q hq=>?_
 have hll:=hl.len
 refine Tot.bind (R:=λ _=>True) ?_ λ y _=>by
  cases y with
  | inr b=>exact Tot.pure trivial
  | inl _=>exact Tot.bindC (AD (show i<l.length by omega)) (Tot.bind (Oc hq (hl.at _)) λ d _=>Tot.pure trivial)
 refine Tot.upto l.length (λ k (x:Int)=>x=(k:Int)) (λ k x hk hx=>?_) (λ x hx=>?_) _ rfl
 ·subst hx
  unfold GD
  exact Tot.iteT (D4 hk) (Tot.bindC (AD hk) (Tot.bind (Oc hq (hl.at hk)) λ d _=>Tot.ite (λ _=>Tot.pure trivial) λ _=>Tot.pure (An (by omega))))
 ·subst hx
  unfold GD
  exact Tot.iteF (Cr _) (Tot.pure trivial)
structure LbL (l:List Aa):Prop where
 len:l.length<=100000
 p:∀ q∈l,LbP q
theorem JcI {p:Af} (hv:XU p) {i:Nat} (hi:i<p.F.length):Tot (λ n=>F5 n p (i:Int)) LbL:=by
 have hw:=hv.w
 have hh:=hv.h
 refine Tot.bind (R:=LbL) ?_ λ l hl=>Tot.pure hl
 refine Tot.whl (λ m (x:List Aa×Int)=>∃ y:Nat,x.2=(y:Int)/\(m=100-y/\y<=60)/\x.1.length<=100*y/\∀ q∈x.1,LbP q) ?_ 100 _ ⟨0,rfl,⟨rfl,by omega⟩,by simp,by simp⟩
 rintro m ⟨l,x⟩ ⟨y,h1,⟨rfl,hy⟩,h2,h3⟩
 simp only at h1 h2 h3
 subst h1
 unfold D2
 have e:BV .i64 3 (Ai .i64 (y:Int) 1)=3*((y:Int)+1):=by rw [DG (by omega) (by omega),Gj (by omega) (by omega)]
 rw [e]
 refine Tot.ite (λ hc=>?_) λ _=>Tot.pure ⟨by show l.length<=_;omega,h3⟩
 rw [decide_eq_true_eq] at hc
 refine Tot.bind (R:=λ l:List Aa=>l.length<=100*(y+1)/\∀ q∈l,LbP q) ?_ λ l hl=>Tot.pure ⟨100-(y+1),by omega,y+1,An (by omega),⟨rfl,by omega⟩,hl⟩
 refine Tot.whl (λ m (z:List Aa×Int)=>∃ x:Nat,z.2=(x:Int)/\(m=100-x/\x<=60)/\z.1.length<=100*y+x/\∀ q∈z.1,LbP q) ?_ 100 _ ⟨0,rfl,⟨rfl,by omega⟩,h2,h3⟩
 rintro m ⟨l,z⟩ ⟨x,g1,⟨rfl,hx⟩,g2,g3⟩
 simp only at g1 g2 g3
 subst g1
 unfold D1
 have e:BV .i64 2 (Ai .i64 (x:Int) 2)=2*((x:Int)+2):=by rw [DG (by omega) (by omega),Gj (by omega) (by omega)]
 rw [e]
 refine Tot.ite (λ hc'=>?_) λ _=>Tot.pure ⟨by show l.length<=_;omega,g3⟩
 rw [decide_eq_true_eq] at hc'
 refine Tot.bind (Jft hv hi _) λ b _=>Tot.ite (λ _=>?_) λ _=>Tot.pure ⟨100-(x+1),by omega,x+1,An (by omega),⟨rfl,by omega⟩,by show l.length<=_;omega,g3⟩
 refine Tot.bindC (A9 (by simp;omega)) (Tot.pure ⟨100-(x+1),by omega,x+1,An (by omega),⟨rfl,by omega⟩,by simp;omega,λ q hq=>?_⟩)
 rw [List.mem_append,List.mem_singleton] at hq
 rcases hq with hq|rfl
 ·exact g3 q hq
 ·unfold LbP;simp only;omega
structure LbA (a:List (List Aa)):Prop where
 len:a.length<=8
 l:∀ r∈a,LbL r
theorem LbP.d {l:List Aa} (h:∀ q∈l,LbP q) {i:Nat} (hi:i<l.length):LbP l[i]:=h _ (JmB hi)
theorem Jaa {p:Af} {a:List (List Aa)} (ha:LbA a):∀ (d:Nat) (l:List Aa),l.length<=a.length->a.length-l.length<d->(∀ q∈l,LbP q)->Tot (λ n=>J3 (λ _ _ _=>none) (A7 n) d p l a) (λ _=>True):=by
 have hal:=ha.len
 intro d
 induction d with
 | zero=>intro l _ h;omega
 | succ d ih=>
  intro l hl hd hp
  show Tot (λ n=>A7 n (J3 (λ _ _ _=>none) (A7 n) d) p l a) _
  unfold A7
  refine Tot.ite (λ _=>Tot.pure trivial) λ hne=>?_
  rw [beq_eq_false_iff_ne] at hne
  have hlt:l.length<a.length:=by omega
  have hr:=ha.l _ (JmB hlt)
  have hrl:=hr.len
  refine Tot.bind (R:=λ _=>True) ?_ λ y _=>by
   cases y with
   | inl _=>exact Tot.pure trivial
   | inr _=>exact Tot.pure trivial
  refine Tot.upto (body:=λ n x=>BN n (J3 (λ _ _ _=>none) (A7 n) d) p l a x) a[l.length].length (λ k (x:Int)=>x=(k:Int)) (λ k x hk hx=>?_) (λ x hx=>?_) _ rfl
  ·subst hx
   unfold BN
   have hq:=LbP.d hr.p hk
   refine Tot.bindC (AD hlt) (Tot.iteT (D4 hk) (Tot.bind (R:=λ _=>True) ?_ λ b _=>Tot.ite (λ _=>Tot.pure (An (by omega))) λ _=>?_))
   ·refine Tot.upto l.length (λ j (x:Bool×Int)=>x.2=(j:Int)) ?_ ?_ _ rfl
    ·rintro j ⟨f,x⟩ hj h1
     simp only at h1
     subst h1
     unfold B9
     have hj':=LbP.d hp hj
     refine Tot.iteT (D4 hj) ?_
     cases f with
     | false=>exact Tot.gF rfl (Tot.gF rfl (Tot.gF rfl (Tot.gF rfl (Tot.gF rfl (Tot.gF rfl (Tot.pure (An (by omega))))))))
     | true=>exact Tot.gE rfl (Ev.all λ n=>AD hlt) (Tot.gE rfl (Ev.all λ n=>AD hk) (Tot.gT rfl (Lf (show l.length<8 by omega) hq) λ r1 hr1=>Tot.gE rfl (Ev.all λ n=>AD hj) (Tot.gT rfl (Lf (show j<8 by omega) hj') λ r2 hr2=>Tot.gT rfl (Oc hr1 hr2) λ d _=>Tot.pure (An (by omega)))))
    ·rintro ⟨f,x⟩ h1
     simp only at h1
     subst h1
     unfold B9
     exact Tot.iteF (Cr _) (Tot.pure trivial)
   ·refine Tot.bindC (A9 (by simp;omega)) (Tot.bindC (AD hlt) (Tot.bindC (AD hk) (Tot.bindC (A9 (by simp;omega)) (Tot.bind (ih _ (by simp;omega) (by simp;omega) λ q hq'=>?_) λ r _=>Tot.ite (λ _=>Tot.pure trivial) λ _=>Tot.pure (An (by omega))))))
    rw [List.nil_append,List.mem_append,List.mem_singleton] at hq'
    rcases hq' with hq'|rfl
    ·exact hp q hq'
    ·exact hq
  ·subst hx
   unfold BN
   exact Tot.bindC (AD hlt) (Tot.iteF (Cr _) (Tot.pure trivial))
theorem Jab (n:Nat):∀ (x y:Nat),x<=y->∀ a b c,Le (J3 (λ _ _ _=>none) (A7 n) x a b c) (J3 (λ _ _ _=>none) (A7 n) y a b c):=by
 intro x
 induction x with
 | zero=>intro y _ _ _ _ z hz;cases hz
 | succ x ih=>
  intro y hy _ _ _
  cases y with
  | zero=>omega
  | succ y=>exact MZ (JmD n) (ih y (by omega)) _ _ _
theorem XX {p:Af} {a:List (List Aa)} (ha:LbA a) {l:List Aa} (hl:l.length<=a.length) (hp:∀ q∈l,LbP q):Tot (λ n=>Ib n p l a) (λ _=>True):=by
 obtain ⟨z,hz,N,hN⟩:=Jaa (p:=p) ha (a.length+1) l hl (by omega) hp
 exact ⟨z,hz,max N (a.length+1),λ m hm=>Jab m (a.length+1) m (by omega) _ _ _ _ (hN m (by omega))⟩
theorem XY {p:Af} {a:List (List Aa)} (ha:LbA a):Tot (λ n=>G5 n p a) (λ _=>True):=by
 have hal:=ha.len
 have hB:Tot (λ n=>Ca n (J3 (λ _ _=>none) (Ca n) (n-1)) p a) (λ _=>True):=by
  unfold Ca
  refine Tot.ite (λ _=>Tot.pure trivial) λ hne=>?_
  rw [beq_eq_false_iff_ne] at hne
  have hlt:0<a.length:=by omega
  have hr:=ha.l _ (JmB hlt)
  have hrl:=hr.len
  have h0:idx a 0=some a[0]:=AD hlt
  refine Tot.bind (R:=λ _=>True) ?_ λ y _=>by
   cases y with
   | inl _=>exact Tot.pure trivial
   | inr _=>exact Tot.pure trivial
  refine Tot.upto a[0].length (λ k (x:Int)=>x=(k:Int)) (λ k x hk hx=>?_) (λ x hx=>?_) _ rfl
  ·subst hx
   unfold C7
   have hq:=LbP.d hr.p hk
   refine Tot.bindC h0 (Tot.iteT (D4 hk) (Tot.bind (R:=λ _=>True) ?_ λ b _=>Tot.ite (λ _=>Tot.pure (An (by omega))) λ _=>?_))
   ·refine Tot.upto 0 (λ j (x:Bool×Int)=>x.2=0) (λ _ _ h _=>by omega) ?_ _ rfl
    rintro ⟨f,x⟩ h1
    simp only at h1
    subst h1
    unfold EF
    exact Tot.iteF rfl (Tot.pure trivial)
   ·refine Tot.bindC (A9 (by simp)) (Tot.bindC h0 (Tot.bindC (AD hk) (Tot.bindC (A9 (by simp)) (Tot.bind (XX ha (by simp;omega) λ q hq'=>?_) λ r _=>Tot.ite (λ _=>Tot.pure trivial) λ _=>Tot.pure (An (by omega))))))
    simp only [List.nil_append,List.mem_singleton] at hq'
    subst hq'
    exact hq
  ·subst hx
   unfold C7
   exact Tot.bindC h0 (Tot.iteF (Cr _) (Tot.pure trivial))
 obtain ⟨z,hz,N,hN⟩:=hB
 refine ⟨z,hz,max N 1,λ m hm=>?_⟩
 obtain ⟨k,rfl⟩:∃ k,m=k+1:=⟨m-1,by omega⟩
 exact hN (k+1) (by omega)
theorem JcJ {p:Af} (hv:XU p):Tot (λ n=>MD n p) (λ _=>True):=by
 have hf:=hv.f
 refine Tot.bind (R:=λ _=>True) ?_ λ y _=>by
  cases y with
  | inl _=>exact Tot.pure trivial
  | inr _=>exact Tot.pure trivial
 refine Tot.upto p.F.length (λ i (x:List (List Aa)×List Aa×Int)=>x.2.2=(i:Int)/\x.1.length=i/\∀ r∈x.1,LbL r) ?_ ?_ _ ⟨rfl,rfl,by simp⟩
 ·rintro i ⟨a,b,x⟩ hi ⟨h1,h2,h3⟩
  simp only at h1 h2 h3
  subst h1
  unfold Fy
  refine Tot.iteT (D4 hi) (Tot.bind (JcI hv hi) λ r hr=>Tot.bindC (A9 (by simp;omega)) ?_)
  have hm:∀ q∈a++[r],LbL q:=λ q hq=>by
   rw [List.mem_append,List.mem_singleton] at hq
   rcases hq with hq|rfl
   ·exact h3 q hq
   ·exact hr
  exact Tot.bind (XY ⟨by simp;omega,hm⟩) λ s _=>Tot.ite (λ _=>Tot.pure trivial) λ _=>Tot.pure ⟨An (by omega),by simp;exact h2,hm⟩
 ·rintro ⟨a,b,x⟩ ⟨h1,h2,h3⟩
  simp only at h1 h2 h3
  subst h1
  unfold Fy
  exact Tot.iteF (Cr _) (Tot.pure trivial)
theorem TJ {p:Af} (hs:WD p):Tot (λ n=>D9 n p) (λ _=>True):=by
 refine Tot.bind (XW hs) λ r hr=>Tot.ite (λ _=>Tot.pure trivial) λ hc=>?_
 exact Tot.bind (JcJ (hr (by simpa using hc))) λ _ _=>Tot.pure trivial
end Go.AI
end
section
namespace Go.AI
def L3 (s:List UInt8) (c:Ab):List UInt8:=(s.take c.At.toNat++c.Put)++s.drop (c.At+c.Cut).toNat
def M3 (s:List UInt8) (c:Ab):Bool:=decide ((0<=c.At/\0<=c.Cut)/\c.At+c.Cut<=(s.length:Int))
def Od (x:Ag) (s:List UInt8):Ag:={ Kind:=x.Kind,Level:=x.Level,Text:=s,Rows:=x.Rows,F:=x.F,Pic:=x.Pic,Page:=x.Page }
def M4 (b:List Ag) (i:Int) (s:List UInt8):List Ag:=b.set i.toNat (Od (CQ b i) s)
def apB (b:List Ag) (c:Ab):Bool:=wdB b c.Block&&(M3 (CQ b c.Block).Text c&&clS (L3 (CQ b c.Block).Text c))
def apS (b:List Ag) (c:Ab):List Ag×Int:=if apB b c=true then (M4 b c.Block (L3 (CQ b c.Block).Text c),0) else ([],320)
theorem JcK (n:Nat) (b:List Ag) (hb:b.length<=1000000):GT n b=some b:=by
 refine Jbt (JgI b) λ q hq=>?_
 cases q with
 | true=>
  have:b=[]:=Classical.byContradiction λ h=>by have:=hq h;cases this
  subst this;rfl
 | false=>
  rw [if_neg (by simp),A9 (by simp;omega)]
  rfl
theorem YN {s:List UInt8} {c:Ab} (hA:Okc 1000000000000 c) (hs:s.length<=1000000):((((decide (c.At<0))||(decide (c.Cut<0)))||(decide (c.At>((s.length:Nat):Int))))||(decide (c.Cut>AU .i64 ((s.length:Nat):Int) c.At)))=!M3 s c:=by
 unfold Okc at hA
 rw [Cq (by omega) (by omega)]
 unfold M3
 rw [Bool.eq_iff_iff]
 simp only [Jm4,decide_eq_true_eq,Bool.not_eq_true',decide_eq_false_iff_not]
 omega
theorem Jfu {s:List UInt8} {c:Ab} (h:M3 s c=true):((L3 s c).length:Int)=s.length+c.Put.length-c.Cut:=by
 unfold M3 at h
 rw [decide_eq_true_eq] at h
 unfold L3
 simp only [List.length_append,List.length_take,List.length_drop]
 omega
theorem JcL {s:List UInt8} {c:Ab} {ζ:Type} {k:List UInt8->Option ζ} (hA:Okc 1000000000000 c) (hs:s.length<=1000000) (h:M3 s c=true) :
  ((sub s 0 c.At).bind λ s1=>(cat s1 c.Put).bind λ s2=>(sub s (Ai .i64 c.At c.Cut) ((s.length:Nat):Int)).bind λ s3=>(cat s2 s3).bind k)=k (L3 s c):=by
 unfold M3 at h
 rw [decide_eq_true_eq] at h
 unfold Okc at hA
 rw [DG (by omega) (by omega),Hm (by omega) (by omega) (by omega),Jmv,MX (by simp only [List.length_drop,List.length_take];omega),Jmv,Hm (by omega) (by omega) (by omega),Jmv,MX (by simp only [List.length_append,List.length_drop,List.length_take];omega),Jmv]
 congr 1
 unfold L3
 simp
theorem JcM (n:Nat) {s:List UInt8} {c:Ab} (hA:Okc 1000000000000 c) (hs:s.length<=1000000):Lr n s c=some (if M3 s c=true then (L3 s c,true) else ([],false)):=by
 unfold Lr
 rw [YN hA hs]
 cases h:M3 s c with
 | false=>rfl
 | true=>
  rw [if_neg (by simp),JcL (k:=λ s13=>some (s13,true)) hA hs h]
  rfl
theorem Jfv {b:List Ag} {i:Int} (h:wdB b i=true) (x:Ag):put b i x=some (b.set i.toNat x):=by
 have:=(GK.1 h).1
 exact Jlp this.1 this.2
theorem UT {b:List Ag} {c:Ab} (hb:BkT b) (hA:Okc 1000000000000 c) (hi:(0<=c.Block/\c.Block<(b.length:Int))) {w:Bool} (hw:w=wdK (CQ b c.Block)):Ev (λ n=>Dj n b c (CQ b c.Block) w) (apS b c):=by
 have hT:=hb.blk c.Block
 have hlen:=hb.len
 unfold Dj apS apB
 have e:wdB b c.Block=w:=by
  unfold wdB
  rw [decide_eq_true hi.1,decide_eq_true hi.2,hw];rfl
 rw [e]
 refine Tot.ev (Tot.ite (λ h=>?_) λ h=>Tot.pure (by rw [h];rfl))
 rw [YN hA (by omega),h,Bool.true_and]
 cases hf:M3 (CQ b c.Block).Text c with
 | false=>exact Tot.iteT rfl (Tot.pure rfl)
 | true=>
  refine Tot.iteF rfl ?_
  have hl:=Jfu hf
  unfold Okc at hA
  refine Tot.congr (f:=λ n=>(Is n (L3 (CQ b c.Block).Text c)).bind λ r4=>if (!r4)=true then some ([],320) else (GT n b).bind λ r5=>(idx r5 c.Block).bind λ _=>(put r5 c.Block (Od (CQ b c.Block) (L3 (CQ b c.Block).Text c))).bind λ l2=>some (l2,0)) ?_ (λ n=>JcL (k:=λ s4=>(Is n s4).bind λ r4=>if (!r4)=true then some ([],320) else (GT n b).bind λ r5=>(idx r5 c.Block).bind λ _=>(put r5 c.Block (Od (CQ b c.Block) s4)).bind λ l2=>some (l2,0)) hA (by omega) hf)
  refine Tot.bindE (Jcl _ (by omega)) ?_
  cases hc:clS (L3 (CQ b c.Block).Text c) with
  | false=>exact Tot.iteT rfl (Tot.pure rfl)
  | true=>
   exact Tot.iteF rfl (Tot.bindA (λ n=>JcK n b (by omega)) (Tot.bindC (Lx hi.1 hi.2) (Tot.bindC (Jfv (by rw [e,h]) _) (Tot.pure rfl))))
theorem WG {b:List Ag} {c:Ab} (hb:BkT b) (hA:Okc 1000000000000 c):Ev (λ n=>Iu n b c) (apS b c):=by
 unfold Iu
 refine Tot.ev (Tot.ite (λ h=>Tot.pure ?_) λ h=>?_)
 ·simp only [Jm4,decide_eq_true_eq] at h
  have e:wdB b c.Block=false:=by
   rw [← Bool.not_eq_true,GK]
   omega
  unfold apS apB
  rw [e];rfl
 ·simp only [JmL,decide_eq_false_iff_not] at h
  have hi:0<=c.Block/\c.Block<(b.length:Int):=by omega
  have hK:wdK (CQ b c.Block)=(((CQ b c.Block).Kind==1||(CQ b c.Block).Kind==2)||(CQ b c.Block).Kind==4):=rfl
  refine Tot.bindC (Lx hi.1 hi.2) (Tot.ite (λ h1=>?_) λ h1=>Tot.ite (λ h2=>?_) λ h2=>?_)
  ·exact (UT hb hA hi (by rw [hK,h1];rfl)).tot rfl
  ·exact (UT hb hA hi (by rw [hK,h1,h2];rfl)).tot rfl
  ·exact (UT hb hA hi (by rw [hK,h1,h2];rfl)).tot rfl
theorem Oe (b:List Ag) (i:Int) (s:List UInt8):(M4 b i s).length=b.length:=by unfold M4;simp
theorem JcN {b:List Ag} {i:Int} {s:List UInt8} {j:Nat}:(M4 b i s)[j]? = if i.toNat=j/\j<b.length then some (Od (CQ b i) s) else b[j]? := by
 unfold M4
 rw [List.getElem?_set]
 by_cases h:i.toNat=j
 ·subst h
  by_cases h':i.toNat<b.length
  ·rw [if_pos rfl,if_pos h',if_pos ⟨rfl,h'⟩]
  ·rw [if_pos rfl,if_neg h',if_neg (λ hh=>h' hh.2),List.getElem?_eq_none (by omega)]
 ·rw [if_neg h,if_neg (λ hh=>h hh.1)]
theorem BkT.put {b:List Ag} (h:BkT b) (i:Int) {s:List UInt8} (hs:s.length<=400):BkT (M4 b i s):=by
 refine ⟨by rw [Oe];exact h.len,λ x hx=>?_⟩
 rcases List.mem_or_eq_of_mem_set hx with hx|rfl
 ·exact h.txt x hx
 ·exact hs
theorem JcO {b:List Ag} {i j:Int} {s:List UInt8} (hi:0<=i/\i<(b.length:Int)) (hj:0<=j):CQ (M4 b i s) j=if i=j then Od (CQ b i) s else CQ b j:=by
 have e:CQ (M4 b i s) j=((M4 b i s)[j.toNat]?).getD default:=by unfold CQ;rw [JmV]
 rw [e,JcN]
 by_cases h:i=j
 ·subst h
  rw [if_pos ⟨rfl,by omega⟩,if_pos rfl];rfl
 ·rw [if_neg (by omega),if_neg h]
  unfold CQ
  rw [JmV]
end Go.AI
end
section
namespace Go.AI
def Jfw (s:List UInt8) (c:Ab):List UInt8:=(s.take (c.At+c.Cut).toNat).drop c.At.toNat
theorem H1 {s:List UInt8} {c:Ab}:M3 s c=true↔(0<=c.At/\0<=c.Cut)/\c.At+c.Cut<=(s.length:Int):=by unfold M3;rw [decide_eq_true_eq]
theorem Jj0 {s:List UInt8} {c:Ab} (h:M3 s c=true):s=(s.take c.At.toNat++Jfw s c)++s.drop (c.At+c.Cut).toNat:=by
 rw [H1] at h
 unfold Jfw
 have e:s.take c.At.toNat=(s.take (c.At+c.Cut).toNat).take c.At.toNat:=by rw [List.take_take];congr 1;omega
 rw [e,List.take_append_drop,List.take_append_drop]
theorem Jmr (p q r x:List UInt8) {c:Ab} (h:c.At=(p.length:Int)) (h':c.Cut=(q.length:Int)):L3 ((p++q)++r) { Block:=x.length,At:=c.At,Cut:=c.Cut,Put:=x }=(p++x)++r:=by
 unfold L3
 simp only [h,h']
 congr 1
 ·congr 1
  rw [JmW,List.append_assoc,List.take_left']
  rfl
 ·rw [show ((p.length:Int)+(q.length:Int)).toNat=(p++q).length by rw [List.length_append];omega,List.drop_left']
  rfl
theorem JcP (s:List UInt8) (c:Ab) (k:Int):L3 s c=L3 s { Block:=k,At:=c.At,Cut:=c.Cut,Put:=c.Put }:=rfl
end Go.AI
end
section
namespace Go.AI
noncomputable def plB (p:Af):Bool:=lim λ n=>D9 n p
noncomputable def fvB (f:List Am):Bool:=lim λ n=>Fg n f
noncomputable def enB (r:List (List (List UInt8))):Bool:=lim λ n=>EG n r
theorem Jly {p:Af} (h:WD p):Ev (λ n=>D9 n p) (plB p):=(TJ h).lim.2
theorem Jlz (f:List Am):Ev (λ n=>Fg n f) (fvB f):=(TH f).lim.2
structure GdB (x:Ag):Prop where
 txt:x.Text.length<=400
 rows:x.Rows.length<=1000
 row:∀ r∈x.Rows,r.length<=1000/\∀ t∈r,t.length<=1000
 f:x.F.length<=1000
 pic:WD x.Pic
theorem GdB.sz {x:Ag} (h:GdB x):SzB x:=⟨by have:=h.rows;omega,λ r hr=>by have:=(h.row r hr).1;omega,by have:=h.f;omega,by have:=h.pic.f;omega,λ g hg=>by have:=h.pic.p g hg;omega⟩
theorem XZ {l:List (List (List UInt8))} (h:∀ r∈l,r.length<=1000/\∀ t∈r,t.length<=1000):Tot (λ n=>EG n l) (λ _=>True):=by
 refine Tot.ite (λ _=>Tot.pure trivial) λ hc=>?_
 simp only [JmL,decide_eq_false_iff_not] at hc
 refine Tot.bind (R:=λ _=>True) ?_ λ y _=>by
  cases y with
  | inl _=>exact Tot.pure trivial
  | inr _=>exact Tot.pure trivial
 refine Tot.upto l.length (λ i (x:Int)=>x=(i:Int)) (λ i x hi hx=>?_) (λ x hx=>?_) _ rfl
 ·subst hx
  unfold DP
  obtain ⟨h1,h2⟩:=h _ (JmB hi)
  have g:∀ (c:Bool) (P:Nat->List (List UInt8)->Option (Int⊕(Unit⊕Bool))) (Q:Int⊕(Unit⊕Bool)->Prop),(∀ x,Tot (λ n=>P n x) Q)->Tot (λ n=>(if c=true then idx l (i:Int) else some default).bind (P n)) Q:=λ c P Q hP=>Tot.guard (R:=λ _=>True) (λ _=>Tot.all (λ n=>AD hi) trivial) λ x _=>hP x
  refine Tot.iteT (D4 hi) (Tot.bindC (AD hi) (Tot.bindC (AD (i:=0) (by omega)) (g _ _ _ λ x1=>g _ _ _ λ x2=>Tot.ite (λ _=>Tot.pure trivial) λ _=>Tot.bind (R:=λ _=>True) ?_ λ y _=>by
   cases y with
   | inl _=>exact Tot.pure (An (by omega))
   | inr _=>exact Tot.pure trivial)))
  refine Tot.upto l[i].length (λ k (x:Int)=>x=(k:Int)) (λ k x hk hx=>?_) (λ x hx=>?_) _ rfl
  ·subst hx
   unfold DO
   have ht:=h2 _ (JmB hk)
   refine Tot.bindC (AD hi) (Tot.iteT (D4 hk) (Tot.bindC (AD hi) (Tot.bindC (AD hk) (Tot.bindE (Lw _ (by omega)) ?_))))
   cases hb:clS l[i][k] with
   | false=>exact Tot.gF rfl (Tot.gF rfl (Tot.iteT rfl (Tot.pure trivial)))
   | true=>exact Tot.gE rfl (Ev.all λ n=>AD hi) (Tot.gE rfl (Ev.all λ n=>AD hk) (Tot.ite (λ _=>Tot.pure trivial) λ _=>Tot.pure (An (by omega))))
  ·subst hx
   unfold DO
   exact Tot.bindC (AD hi) (Tot.iteF (Cr _) (Tot.pure trivial))
 ·subst hx
  unfold DP
  exact Tot.iteF (Cr _) (Tot.pure trivial)
theorem JlA {x:Ag} (h:GdB x):Ev (λ n=>EG n x.Rows) (enB x.Rows):=(XZ h.row).lim.2
def bkN (b:List Ag) (i:Nat):Ag:=b.getD i default
def jB (t l r f p g:Bool):Bool:=((((t&&l)&&r)&&f)&&p)&&g
def rw0 (x:Ag):Bool:=((x.Rows.length:Nat):Int)==0
def f0 (x:Ag):Bool:=((x.F.length:Nat):Int)==0
def np0 (p:Af):Bool:=(((p.W==0)&&(p.H==0))&&(p.Gap==0))&&(((p.F.length:Nat):Int)==0)
noncomputable def rgC (x:Ag) (pv pg:Bool):Bool:=
 if (x.Kind==1)=true then jB (clS x.Text) (x.Level==0) (rw0 x) (f0 x) (np0 x.Pic) (x.Page==0)
 else if (x.Kind==2)=true then jB (clS x.Text) (decide (x.Level>=1)&&decide (x.Level<=3)) (rw0 x) (f0 x) (np0 x.Pic) (x.Page==0)
 else if (x.Kind==3)=true then jB (x.Text==[]) (x.Level==0) (enB x.Rows) (f0 x) (np0 x.Pic) (x.Page==0)
 else if (x.Kind==4)=true then jB (clS x.Text&&pv) (x.Level==0) (rw0 x) (f0 x) (np0 x.Pic) (x.Page==0)
 else if (x.Kind==5)=true then jB (x.Text==[]) (x.Level==0) (rw0 x) (fvB x.F) (np0 x.Pic) (x.Page==0)
 else if (x.Kind==6)=true then jB (x.Text==[]) (x.Level==0) (rw0 x) (f0 x) (plB x.Pic) (x.Page==0)
 else if (x.Kind==7)=true then jB (x.Text==[]) (x.Level==0) (rw0 x) (f0 x) (np0 x.Pic) pg
 else false
def pvB (b:List Ag) (i:Nat):Bool:=decide (0<i)&&(((bkN b (i-1)).Kind==1)||((bkN b (i-1)).Kind==4))
def pgB (b:List Ag) (i:Nat):Bool:=(decide ((bkN b i).Page>=1)&&decide ((bkN b i).Page<=9999))&&(List.range i).all λ k=>((bkN b k).Kind != 7)||decide ((bkN b k).Page<(bkN b i).Page)
noncomputable def WH (b:List Ag) (i:Nat):Bool:=rgC (bkN b i) (pvB b i) (pgB b i)
theorem X0 {b:List Ag} {i:Nat} (h:i<b.length):idx b (i:Int)=some (bkN b i):=Dg h
theorem JcQ {b:List Ag} {i:Nat} (hi:i<b.length) (hl:b.length<=1000) (hg:GdB (bkN b i)):Ev (λ n=>MF n b (i:Int)) (WH b i):=by
 unfold WH
 have ht:=hg.txt
 refine Tot.ev (Tot.bindC (X0 hi) (Tot.bindA (λ n=>rfl) ?_))
 unfold rgC
 generalize hx:bkN b i=x at *
 by_cases k1:(x.Kind==1)=true
 ·rw [if_pos k1]
  exact Tot.iteT k1 (Tot.bindE (Lw _ (by omega)) (Tot.pure rfl))
 have k1':(x.Kind==1)=false:=by simpa using k1
 rw [if_neg k1]
 refine Tot.iteF k1' ?_
 by_cases k2:(x.Kind==2)=true
 ·rw [if_pos k2]
  exact Tot.iteT k2 (Tot.bindE (Lw _ (by omega)) (Tot.pure rfl))
 rw [if_neg k2]
 refine Tot.iteF (by simpa using k2) ?_
 by_cases k3:(x.Kind==3)=true
 ·rw [if_pos k3]
  exact Tot.iteT k3 (Tot.bindE (JlA hg) (Tot.pure rfl))
 rw [if_neg k3]
 refine Tot.iteF (by simpa using k3) ?_
 by_cases k4:(x.Kind==4)=true
 ·rw [if_pos k4]
  refine Tot.iteT k4 (Tot.bindE (Lw _ (by omega)) ?_)
  unfold pvB
  have e0:decide ((i:Int)>0)=decide (0<i):=by rw [decide_eq_decide];omega
  rw [e0]
  cases hc:clS x.Text with
  | false=>exact Tot.gF rfl (Tot.gF rfl (Tot.pure rfl))
  | true=>
   cases hd:decide (0<i) with
   | false=>exact Tot.gF rfl (Tot.gF rfl (Tot.pure rfl))
   | true=>
    rw [decide_eq_true_eq] at hd
    have ei:AU .i64 (i:Int) 1=((i-1:Nat):Int):=(Cq (by omega) (by omega)).trans (by omega)
    rw [ei]
    have hg:∀ n:Nat,idx b ((i-1:Nat):Int)=some (bkN b (i-1)):=λ n=>X0 (by omega)
    refine Tot.gE rfl (Ev.all hg) ?_
    cases hk:((bkN b (i-1)).Kind==1) with
    | true=>exact Tot.gF rfl (Tot.pure rfl)
    | false=>exact Tot.gE rfl (Ev.all hg) (Tot.pure rfl)
 rw [if_neg k4]
 refine Tot.iteF (by simpa using k4) ?_
 by_cases k5:(x.Kind==5)=true
 ·rw [if_pos k5]
  exact Tot.iteT k5 (Tot.bindE (Jlz _) (Tot.pure rfl))
 rw [if_neg k5]
 refine Tot.iteF (by simpa using k5) ?_
 by_cases k6:(x.Kind==6)=true
 ·rw [if_pos k6]
  exact Tot.iteT k6 (Tot.bindE (Jly hg.pic) (Tot.pure rfl))
 rw [if_neg k6]
 refine Tot.iteF (by simpa using k6) ?_
 by_cases k7:(x.Kind==7)=true
 ·rw [if_pos k7]
  refine Tot.iteT k7 (Tot.bind (R:=λ y=>y=pgB b i) ?_ λ y hy=>Tot.pure (by rw [hy];rfl))
  unfold pgB
  rw [hx]
  refine Tot.upto i (λ k (z:Bool×Int)=>z.2=(k:Int)/\z.1=((decide (x.Page>=1)&&decide (x.Page<=9999))&&(List.range k).all λ k=>((bkN b k).Kind != 7)||decide ((bkN b k).Page<x.Page))) ?_ ?_ _ ⟨rfl,by simp⟩
  ·rintro k ⟨p,z⟩ hk ⟨h1,h2⟩
   simp only at h1 h2
   subst h1
   unfold FC
   rw [List.range_succ,List.all_append,← Bool.and_assoc,← h2]
   have hg:∀ n:Nat,idx b ((k:Nat):Int)=some (bkN b k):=λ n=>X0 (by omega)
   refine Tot.iteT (D4 hk) ?_
   cases p with
   | false=>exact Tot.gF rfl (Tot.gF rfl (Tot.pure ⟨An (by omega),rfl⟩))
   | true=>
    refine Tot.gE rfl (Ev.all hg) ?_
    simp only [List.all_cons,List.all_nil,Bool.and_true]
    cases hk7:((bkN b k).Kind != 7) with
    | true=>exact Tot.gF rfl (Tot.pure ⟨An (by omega),rfl⟩)
    | false=>exact Tot.gE rfl (Ev.all hg) (Tot.pure ⟨An (by omega),rfl⟩)
  ·rintro ⟨p,z⟩ ⟨h1,h2⟩
   simp only at h1 h2
   subst h1
   unfold FC
   exact Tot.iteF (Cr _) (Tot.pure h2)
 rw [if_neg k7]
 exact Tot.iteF (by simpa using k7) (Tot.pure rfl)
structure VB (b:List Ag):Prop where
 len:b.length<=5
 gd:∀ i,i<b.length->GdB (bkN b i)
 rg:∀ i,i<b.length->WH b i=true
theorem VB.mem {b:List Ag} (h:VB b) {x:Ag} (hx:x∈b):GdB x:=by
 obtain ⟨i,hi,rfl⟩:=List.getElem_of_mem hx
 have:=h.gd i hi
 unfold bkN at this
 rwa [BU hi] at this
theorem VB.bkt {b:List Ag} (h:VB b):BkT b:=⟨by have:=h.len;omega,λ _ hx=>(h.mem hx).txt⟩
theorem VB.same {b:List Ag} (h:VB b):Ev (λ n=>Ix n b b) true:=Wq (by have:=h.len;omega) λ _ hx=>(h.mem hx).sz
theorem Jac {x:Ag} {pv pg:Bool} (h:rgC x pv pg=true) (hw:wdK x=true):clS x.Text=true:=by
 unfold wdK at hw
 unfold rgC at h
 split at h
 ·unfold jB at h;simp only [JmN] at h;exact h.1.1.1.1.1
 ·split at h
  ·unfold jB at h;simp only [JmN] at h;exact h.1.1.1.1.1
  ·rename_i k1 k2
   have k4:x.Kind=4:=by
    simp only [Jm4,beq_iff_eq] at hw k1 k2
    omega
   rw [k4] at h
   rw [if_neg (by decide),if_pos (by decide)] at h
   unfold jB at h;simp only [JmN] at h;exact h.1.1.1.1.1.1
theorem Jad {x:Ag} {pv pg:Bool} {s:List UInt8} (h:rgC x pv pg=true) (hw:wdK x=true) (hs:clS s=true):rgC (Od x s) pv pg=true:=by
 have hc:=Jac h hw
 unfold wdK at hw
 simp only [Jm4,beq_iff_eq] at hw
 have e1:(Od x s).Kind=x.Kind:=rfl
 have e2:(Od x s).Text=s:=rfl
 unfold rgC at h ⊢
 rw [e1,e2,hs]
 rw [hc] at h
 rcases hw with (hw|hw)|hw
 ·rw [hw] at h ⊢;exact h
 ·rw [hw] at h ⊢;exact h
 ·rw [hw] at h ⊢;exact h
theorem UU {b:List Ag} {i:Int} {s:List UInt8} {j:Nat} (hi:0<=i/\i<(b.length:Int)):bkN (M4 b i s) j=if i.toNat=j then Od (bkN b j) s else bkN b j:=by
 have h:=JcO (j:=(j:Int)) (s:=s) hi (by omega)
 unfold CQ at h
 rw [JmW] at h
 unfold bkN
 rw [h]
 by_cases e:i.toNat=j
 ·rw [if_pos e,if_pos (by omega),e]
 ·rw [if_neg e,if_neg (by omega)]
theorem VB.put {b:List Ag} (h:VB b) {i:Int} {s:List UInt8} (hw:wdB b i=true) (hs:clS s=true):VB (M4 b i s):=by
 obtain ⟨hi,hk⟩:=GK.1 hw
 have hb:CQ b i=bkN b i.toNat:=rfl
 rw [hb] at hk
 have hK:∀ j,(bkN (M4 b i s) j).Kind=(bkN b j).Kind/\(bkN (M4 b i s) j).Page=(bkN b j).Page:=λ j=>by
  rw [UU hi];split<;>exact ⟨rfl,rfl⟩
 refine ⟨by rw [Oe];exact h.len,λ j hj=>?_,λ j hj=>?_⟩
 ·rw [Oe] at hj
  have g:=h.gd j hj
  rw [UU hi]
  split
  ·exact ⟨(Jfj hs).2,g.rows,g.row,g.f,g.pic⟩
  ·exact g
 ·rw [Oe] at hj
  have g:=h.rg j hj
  unfold WH at g ⊢
  have e1:pvB (M4 b i s) j=pvB b j:=by unfold pvB;rw [(hK _).1]
  have e2:pgB (M4 b i s) j=pgB b j:=by
   unfold pgB
   rw [(hK _).2]
   congr 2
   funext k
   rw [(hK _).1,(hK _).2]
  rw [e1,e2,UU hi]
  split
  ·rename_i e
   subst e
   exact Jad g hk hs
  ·exact g
end Go.AI
end
section
namespace Go.AI
structure RwB (x:Bd):Prop where
 k:U8 x.Kind
 n:U8 x.N
 tl:x.T.length<=9223372036854775807
 t:∀ y∈x.T,U8 y
 fn:U8 x.F.N
 pw:U8 x.P.W
 ph:U8 x.P.H
theorem Jj1:WD ({ W:=0,H:=0,Gap:=0,F:=[] }:Af):=⟨by simp,by simp⟩
theorem QF {k l pg:Int} {s:List UInt8} (h:s.length<=12):GdB { Kind:=k,Level:=l,Text:=s,Rows:=[],F:=[],Pic:={ W:=0,H:=0,Gap:=0,F:=[] },Page:=pg }:=⟨by show s.length<=400;omega,by simp,by simp,by simp,Jj1⟩
theorem JcR {x:Bd} (hx:RwB x):Tot (λ n=>ME n x [97,98,99]) GdB:=by
 have hn:=hx.n
 unfold U8 at hn
 obtain ⟨a1,a2,a3⟩:=BF (a:=x.N) (m:=3) (by omega) (by omega)
 have q0:Dv .u8 x.N 4=x.N / 4:=by
  unfold Dv
  rw [Int.tdiv_eq_ediv_of_nonneg (by omega),w8 (by omega) (by omega)]
 obtain ⟨b1,b2,b3⟩:=BF (a:=Dv .u8 x.N 4) (m:=3) (by rw [q0];omega) (by omega)
 refine Tot.bind (Sr (k:=12) hx.tl hx.t (by omega) (by omega) (by decide) (by decide)) λ s hs=>?_
 have hp:Tot (λ n=>Fz n s) GdB:=Tot.pure (QF hs)
 have hj:∀ b,Tot (λ n=>DE n x s b) GdB:=λ b=>by
  unfold DE
  refine Tot.ite (λ _=>Tot.pure (QF hs)) λ _=>Tot.ite (λ _=>?_) λ _=>Tot.ite (λ _=>?_) λ _=>Tot.ite (λ _=>Tot.pure (QF (by simp))) λ _=>hp
  ·exact Tot.bind (Z8 hx.fn) λ f hf=>Tot.pure ⟨by simp,by simp,by simp,hf,Jj1⟩
  ·have hsub:∀ l:List (Wc Int),∃ y,sub l 0 (if 2<((l.length:Nat):Int) then 2 else ((l.length:Nat):Int))=some y:=λ l=>by
    split
    ·exact ⟨_,Hm (by omega) (by omega) (by omega)⟩
    ·exact ⟨_,Hm (by omega) (by omega) (by omega)⟩
   obtain ⟨y,hy⟩:=hsub x.P.F
   refine Tot.bindC hy (Tot.bind (Z9 (r:={ W:=x.P.W,H:=x.P.H,Gap:=x.P.Gap,F:=y }) hx.pw hx.ph) λ p hp'=>Tot.bind (TJ hp') λ b _=>Tot.ite (λ _=>Tot.pure ⟨by simp,by simp,by simp,by simp,hp'⟩) λ _=>hp)
 refine Tot.ite (λ _=>Tot.pure (QF hs)) λ _=>Tot.ite (λ _=>?_) λ _=>Tot.ite (λ _=>hj _) λ _=>hj _
 refine Tot.bind (R:=GdB) ?_ λ y hy=>Tot.pure hy
 have e1:∀ r:Int,0<=r->r<3->∃ k:Nat,Ai .i64 1 (IntKind.i64.wrap r)=(k:Int)/\k<=3:=λ r h1 h2=>by
  rw [w64 (by omega) (by omega),DG (by omega) (by omega)]
  exact ⟨(1+r).toNat,by omega,by omega⟩
 obtain ⟨rc,hrc,hrc3⟩:=e1 _ a2 a3
 obtain ⟨rr,hrr,hrr3⟩:=e1 _ b2 b3
 refine Tot.upto rr (λ i (y:Ag×Int)=>y.2=(i:Int)/\(y.1.Text=[]/\y.1.F=[]/\y.1.Pic={ W:=0,H:=0,Gap:=0,F:=[] })/\y.1.Rows.length=i/\∀ r∈y.1.Rows,r.length<=1000/\∀ t∈r,t.length<=1000) ?_ ?_ _ ⟨rfl,⟨rfl,rfl,rfl⟩,rfl,by simp⟩
 ·rintro i ⟨o,y⟩ hi ⟨h1,h2,h3,h4⟩
  simp only at h1 h2 h3 h4
  subst h1
  unfold FB
  rw [hrr]
  refine Tot.iteT (decide_eq_true (show (i:Int)<(rr:Int) by omega)) (Tot.bind (R:=λ r=>r.length<=1000/\∀ t∈r,t.length<=1000) ?_ λ r hr=>Tot.bindC (A9 (by simp;omega)) (Tot.pure ⟨An (by omega),h2,by simp;exact h3,λ q hq=>?_⟩))
  ·refine Tot.upto rc (λ k (y:List (List UInt8)×Int)=>y.2=(k:Int)/\y.1.length=k/\∀ t∈y.1,t.length<=1000) ?_ ?_ _ ⟨rfl,rfl,by simp⟩
   ·rintro k ⟨r,y⟩ hk ⟨g1,g2,g3⟩
    simp only at g1 g2 g3
    subst g1
    unfold FA
    rw [hrc]
    have e2:BV .i64 2 (Ai .i64 (i:Int) (k:Int))=2*((i:Int)+k):=by rw [DG (by omega) (by omega),Gj (by omega) (by omega)]
    rw [e2]
    have hsub:∃ z:List Int,sub x.T (if ((x.T.length:Nat):Int)<2*((i:Int)+k) then ((x.T.length:Nat):Int) else 2*((i:Int)+k)) ((x.T.length:Nat):Int)=some z/\z.length<=9223372036854775807/\∀ y∈z,U8 y:=by
     have htl:=hx.tl
     have fin:∀ a:Int,0<=a->a<=(x.T.length:Int)->∃ z:List Int,sub x.T a ((x.T.length:Nat):Int)=some z/\z.length<=9223372036854775807/\∀ y∈z,U8 y:=λ a h0 h1=>by
      refine ⟨_,Hm h0 h1 (Int.le_refl _),?_,λ y hy=>hx.t y (List.mem_of_mem_take (List.mem_of_mem_drop hy))⟩
      simp only [List.length_drop,List.length_take];omega
     split
     ·exact fin _ (by omega) (by omega)
     ·exact fin _ (by omega) (by omega)
    obtain ⟨z,hz,hzl,hzu⟩:=hsub
    refine Tot.iteT (decide_eq_true (show (k:Int)<(rc:Int) by omega)) (Tot.bindC hz (Tot.bind (Sr (k:=4) hzl hzu (by omega) (by omega) (by decide) (by decide)) λ t ht=>Tot.bindC (A9 (by simp;omega)) (Tot.pure ⟨An (by omega),by simp;exact g2,λ q hq=>?_⟩)))
    rw [List.mem_append,List.mem_singleton] at hq
    rcases hq with hq|rfl
    ·exact g3 q hq
    ·omega
   ·rintro ⟨r,y⟩ ⟨g1,g2,g3⟩
    simp only at g1 g2 g3
    subst g1
    unfold FA
    rw [hrc]
    exact Tot.iteF (decide_eq_false (show ¬(rc:Int)<(rc:Int) by omega)) (Tot.pure ⟨by show r.length<=1000;omega,g3⟩)
  ·rw [List.mem_append,List.mem_singleton] at hq
   rcases hq with hq|rfl
   ·exact h4 q hq
   ·exact hr
 ·rintro ⟨o,y⟩ ⟨h1,⟨h2,h2',h2''⟩,h3,h4⟩
  simp only at h1 h2 h2' h2'' h3 h4
  subst h1
  unfold FB
  rw [hrr]
  exact Tot.iteF (decide_eq_false (show ¬(rr:Int)<(rr:Int) by omega)) (Tot.pure ⟨by rw [h2];simp,by show o.Rows.length<=1000;omega,h4,by rw [h2'];simp,by rw [h2''];exact Jj1⟩)
theorem Pr {b:List Ag} {x:Ag} {j:Nat} (h:j<b.length):bkN (b++[x]) j=bkN b j:=by
 unfold bkN
 rw [JmV,JmU h,JmV]
theorem Jfx {b:List Ag} {x:Ag} {j:Nat} (h:j<b.length):WH (b++[x]) j=WH b j:=by
 unfold WH
 rw [Pr h]
 have e1:pvB (b++[x]) j=pvB b j:=by unfold pvB;rw [Pr (by omega)]
 have e2:pgB (b++[x]) j=pgB b j:=by
  unfold pgB
  rw [Pr h]
  congr 1
  rw [Bool.eq_iff_iff,Jmz,Jmz]
  constructor
  ·intro hh k hk
   have:=hh k hk
   rwa [Pr (by rw [List.mem_range] at hk;omega)] at this
  ·intro hh k hk
   have:=hh k hk
   rwa [Pr (by rw [List.mem_range] at hk;omega)]
 rw [e1,e2]
theorem JcS {l:List Bd} (hl:∀ x∈l,RwB x):Tot (λ n=>OK n l 5 [97,98,99]) VB:=by
 refine Tot.bind (R:=VB) ?_ λ b hb=>Tot.pure hb
 refine Tot.upto (min l.length 5) (λ i (y:List Ag×Int)=>y.2=(i:Int)/\y.1.length<=i/\VB y.1) ?_ ?_ _ ⟨rfl,by simp,by simp,λ i hi=>by simp at hi,λ i hi=>by simp at hi⟩
 ·rintro i ⟨b,y⟩ hi ⟨h1,h2,h3⟩
  simp only at h1 h2 h3
  subst h1
  unfold GE
  have hlt:i<l.length:=by omega
  refine Tot.iteT (by rw [JmN,decide_eq_true_eq,decide_eq_true_eq];show (i:Int)<_/\(i:Int)<5;omega) (Tot.bindC (AD hlt) (Tot.bind (JcR (hl _ (JmB hlt))) λ x hx=>Tot.bindC (A9 (by simp;omega)) ?_))
  have el:((List.length (b++[x]):Nat):Int)=((b.length+1:Nat):Int):=by simp
  rw [el]
  have es:AU .i64 ((b.length+1:Nat):Int) 1=((b.length:Nat):Int):=(Cq (by omega) (by omega)).trans (by omega)
  rw [es]
  have hbk:bkN (b++[x]) b.length=x:=by
   unfold bkN
   rw [JmV,Jm3 (JmD _)]
   simp
  refine Tot.bindE (JcQ (by simp) (by simp;omega) (by rw [hbk];exact hx)) ?_
  cases hr:WH (b++[x]) b.length with
  | false=>
   refine Tot.iteT rfl (Tot.bindC (y:=b) ?_ (Tot.pure ⟨An (by omega),by show b.length<=i+1;omega,h3⟩))
   rw [UO (by simp)]
   simp
  | true=>
   refine Tot.iteF rfl (Tot.pure ⟨An (by omega),by simp;omega,by simp;omega,λ j hj=>?_,λ j hj=>?_⟩)
   ·rw [List.length_append,List.length_singleton] at hj
    rcases Nat.lt_succ_iff_lt_or_eq.1 hj with h|rfl
    ·rw [Pr h];exact h3.gd j h
    ·rw [hbk];exact hx
   ·rw [List.length_append,List.length_singleton] at hj
    rcases Nat.lt_succ_iff_lt_or_eq.1 hj with h|rfl
    ·rw [Jfx h];exact h3.rg j h
    ·exact hr
 ·rintro ⟨b,y⟩ ⟨h1,h2,h3⟩
  simp only at h1 h2 h3
  subst h1
  unfold GE
  exact Tot.iteF (by rw [Bool.and_eq_false_iff,decide_eq_false_iff_not,decide_eq_false_iff_not];show ¬(((min l.length 5:Nat):Int)<_)\/¬(((min l.length 5:Nat):Int)<5);omega) (Tot.pure h3)
theorem Jfy {l:List Bd} (hl:∀ x∈l,RwB x):Tot (λ n=>OL n l) VB:=Tot.bind (JcS hl) λ _ hb=>Tot.pure hb
end Go.AI
end
section
namespace Go.AI
def Ps (a b:List UInt8):Prop:=Op.bytesLess a b=true
theorem SB (a:List UInt8):¬Ps a []:=by cases a<;>simp [Ps,Op.bytesLess]
theorem Lz {a b:UInt8} {x y:List UInt8}:Ps (a::x) (b::y)↔a<b\/(a=b/\Ps x y):=by
 simp [Ps,Op.bytesLess]
theorem P2:∀ a:List UInt8,¬Ps a a
 | []=>SB _
 | a::x=>by
  rw [Lz]
  rintro (h|⟨_,h⟩)
  ·exact UInt8.lt_irrefl a h
  ·exact P2 x h
theorem SC:∀ {a b c:List UInt8},Ps a b->Ps b c->Ps a c
 | a,[],c,h,_=>absurd h (SB a)
 | _,_::_,[],_,h=>absurd h (SB _)
 | [],_::_,_::_,_,_=>rfl
 | a::x,b::y,c::z,h,h'=>by
  rw [Lz] at *
  rcases h with h|⟨rfl,h⟩
  ·rcases h' with h'|⟨rfl,_⟩
   ·exact .inl (UInt8.lt_trans h h')
   ·exact .inl h
  ·rcases h' with h'|⟨rfl,h'⟩
   ·exact .inl h'
   ·exact .inr ⟨rfl,SC h h'⟩
theorem SD:∀ (a b:List UInt8),a=b\/Ps a b\/Ps b a
 | [],[]=>.inl rfl
 | [],_::_=>.inr (.inl rfl)
 | _::_,[]=>.inr (.inr rfl)
 | a::x,b::y=>by
  rw [Lz,Lz]
  by_cases h:a=b
  ·subst h
   rcases SD x y with rfl|h|h
   ·exact .inl rfl
   ·exact .inr (.inl (.inr ⟨rfl,h⟩))
   ·exact .inr (.inr (.inr ⟨rfl,h⟩))
  ·rcases Nat.lt_or_gt_of_ne (λ e=>h (UInt8.toNat_inj.1 e)) with h1|h1
   ·exact .inr (.inl (.inl (UInt8.lt_iff_toNat_lt.2 h1)))
   ·exact .inr (.inr (.inl (UInt8.lt_iff_toNat_lt.2 h1)))
def ltA (c d:Ab):Prop:=CP c d\/((c.Block=d.Block/\c.At=d.At)/\c.Cut=d.Cut)/\Ps c.Put d.Put
theorem H2 {c d:Ab}:XO c d<0↔ltA c d:=by
 unfold XO ltA CP Ps
 cases hq:Op.bytesLess c.Put d.Put with
 | true=>
  simp only [if_true,and_true]
  (repeat' split)<;>omega
 | false=>
  simp only [JmY,if_false,and_false,or_false]
  (repeat' split)<;>omega
theorem UV {c:Ab}:¬ltA c c:=by
 rintro (h|h)
 ·exact Wl h
 ·exact P2 _ h.2
theorem UW {c d e:Ab} (h:ltA c d) (h':ltA d e):ltA c e:=by
 rcases h with h|⟨h,hb⟩<;>rcases h' with h'|⟨h',hb'⟩
 ·exact .inl (YA h h')
 ·left;unfold CP at *;omega
 ·left;unfold CP at *;omega
 ·exact .inr ⟨by omega,SC hb hb'⟩
theorem Of (c d:Ab):c=d\/ltA c d\/ltA d c:=by
 by_cases h:(c.Block=d.Block/\c.At=d.At)/\c.Cut=d.Cut
 ·rcases SD c.Put d.Put with hp|hp|hp
  ·left;cases c;cases d;simp only at h hp;simp [h,hp]
  ·exact .inr (.inl (.inr ⟨h,hp⟩))
  ·exact .inr (.inr (.inr ⟨by omega,hp⟩))
 ·right
  unfold ltA CP;omega
theorem WI {c d:Ab} (h:ltA c d):¬ltA d c:=λ h'=>UV (UW h h')
theorem Og {n:Nat} (hn:5<=n) (c d:Ab):ltC (λ x y=>GL n x y) c d=decide (XO c d<0):=by unfold ltC;simp only [Wo c d n hn,JmA]
theorem Jj2 {n:Nat} (hn:5<=n):Yx (λ x y=>GL n x y):=by
 refine ⟨λ x y=>by rw [Wo x y n hn];rfl,λ x=>?_,λ x y z h h'=>?_,λ x y z h h'=>?_,λ x y h h'=>?_⟩
 ·rw [Og hn,decide_eq_false_iff_not,H2];exact UV
 ·rw [Og hn,decide_eq_true_eq,H2] at *;exact UW h h'
 ·rw [Og hn,decide_eq_false_iff_not,H2] at *
  intro hh
  rcases Of y x with rfl|h1|h1
  ·exact h' hh
  ·exact h' (UW h1 hh)
  ·exact h h1
 ·rw [Og hn,decide_eq_false_iff_not,H2] at *
  rcases Of x y with h1|h1|h1
  ·exact h1
  ·exact absurd h1 h
  ·exact absurd h1 h'
def X1 (l:List Ab):List Ab:=MA (λ x y=>decide (XO x y<0)) l
theorem Jfz {l:List Ab} (hl:l.length<=1000000):Ev (λ n=>RI n l) (X1 l):=by
 refine ⟨5,λ n hn=>?_⟩
 show sortC _ l=_
 rw [Jbx (Jj2 hn) l (by omega)]
 unfold X1
 congr 2
 funext x y
 exact Og hn x y
theorem SE (l:List Ab):(X1 l).Perm l:=Ko l
theorem X2 (l:List Ab):(X1 l).Pairwise λ a b=>¬ltA b a:=by
 refine (H7 (lt:=λ x y:Ab=>decide (XO x y<0)) (λ x y z h h'=>?_) (λ x y h=>?_) l).imp λ {a b} h=>?_
 ·rw [decide_eq_false_iff_not,H2] at *
  intro hh
  rcases Of y x with rfl|h1|h1
  ·exact h' hh
  ·exact h' (UW h1 hh)
  ·exact h h1
 ·rw [decide_eq_false_iff_not,H2]
  rw [decide_eq_true_eq,H2] at h
  exact WI h
 ·rw [decide_eq_false_iff_not,H2] at h
  exact h
theorem UX {motive:List Ab->Prop} (nil:motive []) (append_singleton:∀ l x,motive l->motive (l++[x])) (l:List Ab):motive l:=by
 have key:∀ m:List Ab,motive m.reverse:=by
  intro m
  induction m with
  | nil=>exact nil
  | cons x m ih=>rw [List.reverse_cons];exact append_singleton _ _ ih
 have:=key l.reverse
 rwa [List.reverse_reverse] at this
def ddS (l:List Ab):List Ab:=l.foldl (λ acc x=>if acc.getLast? = some x then acc else acc++[x]) []
theorem H3 (l:List Ab) (x:Ab):ddS (l++[x])=if (ddS l).getLast? = some x then ddS l else ddS l++[x]:=by unfold ddS;rw [List.foldl_append];rfl
theorem UY (l:List Ab):(ddS l).getLast? = l.getLast? := by
 rcases List.eq_nil_or_concat l with rfl|⟨l',x,rfl⟩
 ·rfl
 ·rw [List.concat_eq_append,H3]
  split
  ·rename_i h;rw [h];simp
  ·simp
theorem X3 (l:List Ab) (x:Ab):x∈ddS l↔x∈l:=by
 induction l using UX with
 | nil=>rfl
 | append_singleton l y ih=>
  rw [H3]
  split
  ·rename_i h
   rw [ih,List.mem_append,List.mem_singleton]
   constructor
   ·exact .inl
   ·rintro (h'|rfl)
    ·exact h'
    ·exact ih.1 (List.mem_of_getLast? h)
  ·rw [List.mem_append,List.mem_append,ih]
theorem Jj3 (l:List Ab):(ddS l).length<=l.length:=by
 induction l using UX with
 | nil=>exact JmD _
 | append_singleton l y ih=>
  rw [H3,List.length_append]
  split
  ·omega
  ·rw [List.length_append];simp only [List.length_singleton];omega
theorem Jae {l:List Ab} (h:l.Pairwise λ a b=>¬ltA b a):(ddS l).Pairwise ltA:=by
 induction l using UX with
 | nil=>exact .nil
 | append_singleton l y ih=>
  rw [List.pairwise_append] at h
  have ih:=ih h.1
  rw [H3]
  split
  ·exact ih
  ·rename_i hne
   refine List.pairwise_append.2 ⟨ih,List.pairwise_singleton _ _,λ a ha b hb=>?_⟩
   rw [List.mem_singleton] at hb
   subst hb
   have hab:=h.2.2 a ((X3 l a).1 ha) b (List.mem_singleton_self _)
   rcases Of a b with rfl|h1|h1
   ·exfalso
    rw [UY] at hne
    rcases List.eq_nil_or_concat l with rfl|⟨l',z,rfl⟩
    ·cases ha
    ·rw [List.concat_eq_append] at h hne ha
     have hz:=h.2.2 z (by simp) a (List.mem_singleton_self _)
     rw [X3] at ha
     rcases List.mem_append.1 ha with hm|hm
     ·have hza:=(List.pairwise_append.1 h.1).2.2 a hm z (List.mem_singleton_self _)
      rcases Of z a with rfl|h2|h2
      ·exact hne (by simp)
      ·exact hza h2
      ·exact hz h2
     ·rw [List.mem_singleton] at hm
      subst hm
      exact hne (by simp)
   ·exact h1
   ·exact absurd h1 hab
theorem chE (c d:Ab):((c.Block==d.Block)&&((c.At==d.At)&&((c.Cut==d.Cut)&&((c.Put==d.Put)&&true))))=decide (c=d):=by
 cases c;cases d
 rw [Bool.eq_iff_iff]
 simp
theorem JcT {l:List Ab} {lo n:Nat} {i:Int} (h:0<=i) (h':i<(n:Int)) (hl:lo+n<=l.length):ixP l (lo,n) i=some (l.getD (lo+i.toNat) default):=by
 unfold ixP inB
 rw [decide_eq_true h,decide_eq_true h']
 exact Dg (by omega)
theorem YO {l:List Ab} {k:Nat} (hk:k<=l.length) (h:∀ j,1<=j->j<k->l.getD j default≠l.getD (j-1) default):ddS (l.take k)=l.take k:=by
 induction k with
 | zero=>simp [ddS]
 | succ k ih=>
  have hlt:k<l.length:=by omega
  rw [List.take_succ_eq_append_getElem hlt,H3,ih (by omega) λ j h1 h2=>h j h1 (by omega),if_neg]
  intro he
  rcases Nat.eq_zero_or_pos k with rfl|hp
  ·simp at he
  ·have:=h k hp (by omega)
   rw [List.getLast?_eq_getElem?,List.length_take,Nat.min_eq_left (by omega),List.getElem?_take,if_pos (by omega),JmM (by omega)] at he
   rw [BU hlt,BU (show k-1<l.length by omega)] at this
   exact this (Option.some.inj he).symm
theorem Oh {l:List Ab} {k:Nat} (hk:1<=k) (h:k<=l.length):(l.take k).getLast? = some (l.getD (k-1) default):=by
 rw [List.getLast?_eq_getElem?,List.length_take,Nat.min_eq_left h,List.getElem?_take,if_pos (by omega),JmM (by omega),BU (show k-1<l.length by omega)]
theorem X4 {l:List Ab} (hl:l.length<=1000000):Tot (λ n=>Kr n l) (λ r=>(r.2.1=0/\r.2.2=(ddS l).length/\r.2.2<=r.1.length)/\r.1.take r.2.2=ddS l):=by
 have hid:ddS l=l->((0:Nat)=0/\l.length=(ddS l).length/\l.length<=l.length)/\l.take l.length=ddS l:=λ e=>by
  rw [e];exact ⟨⟨rfl,rfl,JmD _⟩,List.take_length⟩
 have hall:(∀ j,1<=j->j<l.length->l.getD j default≠l.getD (j-1) default)->ddS l=l:=λ h=>by
  have:=YO (JmD _) h
  rwa [List.take_length] at this
 refine Tot.ite (λ h=>Tot.pure ?_) λ h=>?_
 ·rw [decide_eq_true_eq] at h
  exact hid (hall λ j h1 h2=>by omega)
 ·rw [decide_eq_false_iff_not] at h
  refine Tot.bind (R:=λ y=>match y with | .inl _=>ddS l=l | .inr r=>(r.2.1=0/\r.2.2=(ddS l).length/\r.2.2<=r.1.length)/\r.1.take r.2.2=ddS l) ?_ λ y hy=>by
   cases y with
   | inl _=>exact Tot.pure (hid hy)
   | inr r=>exact Tot.pure hy
  refine Tot.whl (λ q (x:Int)=>∃ k:Nat,x=(k:Int)/\1<=k/\k+q=l.length/\∀ j,1<=j->j<k->l.getD j default≠l.getD (j-1) default) ?_ (l.length-1) _ ⟨1,rfl,by omega,by omega,λ j h1 h2=>by omega⟩
  rintro q _ ⟨k,rfl,hk1,hkq,hne⟩
  unfold GX
  rcases JmE k l.length with hk|hk
  ·refine Tot.iteT (decide_eq_true (by omega)) (Tot.bindC (Dg hk) ?_)
   rw [Cq (by omega) (by omega),show (k:Int)-1=((k-1:Nat):Int) by omega]
   refine Tot.bindC (Dg (by omega)) ?_
   rw [chE]
   refine Tot.ite (λ he=>?_) λ he=>Tot.pure ⟨q-1,by omega,k+1,An (by omega),by omega,by omega,λ j h1 h2=>?_⟩
   ·rw [decide_eq_true_eq] at he
    refine Tot.bindC (Hm (by omega) (by omega) (by omega)) ?_
    have hd0:=YO (by omega) hne
    refine Tot.bind (R:=λ y=>(y.1.length=l.length/\∃ m:Nat,y.2=(m:Int)/\m<=l.length/\y.1.take m=ddS l)) ?_ λ y hy=>?_
    ·refine Tot.whl (λ q (x:List Ab×Int×Int)=>∃ m k2:Nat,(x.2.1=(m:Int)/\x.2.2=(k2:Int))/\(1<=k2/\k+k2+q=l.length/\m+1<=k+k2)/\(x.1.length=l.length/\∀ j,k+k2<=j+1->x.1.getD j default=l.getD j default)/\x.1.take m=ddS (l.take (k+k2))) ?_ (l.length-(k+1)) _ ⟨k,1,⟨rfl,rfl⟩,⟨by omega,by omega,by omega⟩,⟨rfl,λ _ _=>rfl⟩,?_⟩
     ·rintro q ⟨s,a,b⟩ ⟨m,k2,⟨h1,h2⟩,⟨g1,g2,g3⟩,⟨s1,s2⟩,s3⟩
      simp only at h1 h2 s1 s2 s3
      subst h1 h2
      unfold GW
      have eb:(((0+Int.toNat (k:Int),Int.toNat ((l.length:Nat):Int)-Int.toNat (k:Int)):Nat×Nat))=(k,l.length-k):=by simp
      rw [eb]
      rcases JmE (k+k2) l.length with hlt|hge
      ·refine Tot.iteT (decide_eq_true ?_) ?_
       ·show (k2:Int)<((l.length-k:Nat):Int);omega
       have i1:ixP s (k,l.length-k) (k2:Int)=some (l.getD (k+k2) default):=by
        rw [JcT (by omega) (by omega) (by omega),JmW,s2 _ (by omega)]
       have i2:ixP s (k,l.length-k) (AU .i64 (k2:Int) 1)=some (l.getD (k+k2-1) default):=by
        rw [Cq (by omega) (by omega),JcT (by omega) (by omega) (by omega),show k+((k2:Int)-1).toNat=k+k2-1 by omega,s2 _ (by omega)]
       refine Tot.bindC i1 (Tot.bindC i2 ?_)
       rw [chE]
       have hsn:l.take (k+(k2+1))=l.take (k+k2)++[l.getD (k+k2) default]:=by
        rw [← JmI,List.take_succ_eq_append_getElem hlt,BU hlt]
       have hla:(ddS (l.take (k+k2))).getLast? = some (l.getD (k+k2-1) default):=by
        rw [UY,Oh (by omega) (by omega)]
       refine Tot.ite (λ hd=>?_) λ hd=>?_
       ·rw [Bool.not_eq_true',decide_eq_false_iff_not] at hd
        refine Tot.bindC i1 (Tot.bindC (Dg (show m<s.length by omega)) (Tot.bindC (Sk (show m<s.length by omega)) (Tot.pure ⟨q-1,by omega,m+1,k2+1,⟨An (by omega),An (by omega)⟩,⟨by omega,by omega,by omega⟩,⟨by simp [s1],λ j hj=>?_⟩,?_⟩)))
        ·rw [JmV,Jm2 (by omega),← JmV,s2 _ (by omega)]
        ·rw [hsn,H3,hla,if_neg (λ e=>hd (Option.some.inj e).symm),← s3]
         show (s.set m _).take (m+1)=_
         rw [List.take_succ_eq_append_getElem (by simp;omega),List.getElem_set_self,List.take_set_of_le (JmD _)]
       ·rw [Bool.not_eq_false',decide_eq_true_eq] at hd
        refine Tot.pure ⟨q-1,by omega,m,k2+1,⟨rfl,An (by omega)⟩,⟨by omega,by omega,by omega⟩,⟨s1,λ j hj=>s2 j (by omega)⟩,?_⟩
        rw [hsn,H3,hla,hd,if_pos rfl]
        exact s3
      ·refine Tot.iteF (decide_eq_false ?_) (Tot.pure ⟨s1,m,rfl,by omega,?_⟩)
       ·show ¬((k2:Int)<((l.length-k:Nat):Int));omega
       ·show s.take m=_
        rw [s3,List.take_of_length_le (by omega)]
     ·show l.take k=_
      rw [List.take_succ_eq_append_getElem hk,H3,UY,Oh (by omega) (by omega),← BU (d:=default) hk,he,if_pos rfl,hd0]
    ·obtain ⟨y1,m,hm,hm2,hm3⟩:=hy
     obtain ⟨ya,yb⟩:=y
     simp only at y1 hm hm3
     subst hm
     have hml:m=(ddS l).length:=by rw [← hm3,List.length_take];omega
     refine Tot.bindC (Hm (by omega) (show (m:Int)<=((ya.length:Nat):Int) by omega) (Int.le_refl _)) (Tot.bindC (y:=ya.take m++List.replicate (ya.length-m) ⟨0,0,0,[]⟩) ?_ (Tot.bindC (Hm (by omega) (by omega) (by simp;omega)) (Tot.pure ?_)))
     ·simp only [Jm0,JmW]
      unfold ZB
      rw [if_pos (by omega)]
      unfold spl
      rw [List.length_replicate,List.drop_of_length_le (by omega),List.append_nil]
     ·simp only [Int.toNat_zero,Jm0,JmW,Nat.sub_zero]
      refine ⟨⟨rfl,hml,by simp;omega⟩,?_⟩
      rw [List.take_append_of_le_length (by simp;omega),List.take_take,Nat.min_self,hm3]
   ·rw [decide_eq_false_iff_not] at he
    rcases Nat.lt_succ_iff_lt_or_eq.1 h2 with h3|rfl
    ·exact hne j h1 h3
    ·exact he
  ·refine Tot.iteF (decide_eq_false (by omega)) (Tot.pure ?_)
   exact hall λ j h1 h2=>hne j h1 (by omega)
end Go.AI
end
section
namespace Go.AI
def csW (w:List AB) (i:Nat):Ab:=(w.getD i default).C
def qW (w:List AB) (i j:Nat):Bool:=(!(decide (csW w i=csW w j)))&&(!(frB (csW w i) (csW w j)))
def nlW (w:List AB) (i:Nat):Bool:=(List.range w.length).all λ j=>!(qW w i j)
def agI (w:List AB) (i:Nat):List Ab:=((List.range i).filter (nlW w)).map (csW w)
def agL (w:List AB):List Ab:=ddS (X1 (agI w w.length))
def S9 (w:List AB) (i j:Nat):List (CB Int):=((List.range j).filter λ k=>decide (i<k)&&qW w i k).map λ (k:Nat)=>(⟨(i:Int),(k:Int)⟩:CB Int)
def quW (w:List AB) (i:Nat):List (CB Int):=(List.range i).flatMap λ a=>S9 w a w.length
def jnS (w:List AB):Ao:={ Agreed:=CK [] (agL w),Quarrels:=quW w w.length }
structure WOK (w:List AB):Prop where
 len:w.length<=100
 ok:∀ y∈w,Okc 1000 y.C
 cut:∀ y∈w,0<=y.C.Cut
theorem YP (w:List AB) (i j:Nat):qW w i j=qW w j i:=by
 unfold qW
 rw [Sm (csW w i),show decide (csW w i=csW w j)=decide (csW w j=csW w i) by rw [decide_eq_decide];exact eq_comm]
theorem JfA (w:List AB) (i:Nat):qW w i i=false:=by unfold qW;simp
theorem QG {w:List AB} {i:Nat}:nlW w i=true↔∀ j,j<w.length->qW w i j=false:=by unfold nlW;simp
theorem Oi (w:List AB) (i:Nat):agI w (i+1)=agI w i++if nlW w i=true then [csW w i] else []:=by
 unfold agI
 rw [List.range_succ,List.filter_append,List.map_append]
 congr 1
 cases h:nlW w i<;>simp [h]
theorem JB {w:List AB} {i:Nat} {c:Ab}:c∈agI w i↔∃ k,(k<i/\nlW w k=true)/\csW w k=c:=by unfold agI;simp
theorem UZ (w:List AB) (i:Nat):(agI w i).length<=i:=by
 unfold agI
 rw [JmJ]
 have:=List.length_filter_le (nlW w) (List.range i)
 rwa [List.length_range] at this
theorem QH {w:List AB} {i:Nat} (h:i<w.length):w.getD i default∈w:=by rw [BU h];exact JmB h
theorem WOK.c {w:List AB} (h:WOK w) {i:Nat} (hi:i<w.length):Okc 1000 (csW w i)/\0<=(csW w i).Cut:=⟨h.ok _ (QH hi),h.cut _ (QH hi)⟩
theorem YQ {w:List AB} {i j:Nat} (hj:j<w.length) (h:nlW w i=true) (hne:csW w i≠csW w j):frB (csW w i) (csW w j)=true:=by
 have:=QG.1 h j hj
 unfold qW at this
 rw [decide_eq_false hne] at this
 simpa using this
theorem Jf8 {w:List AB} {i j:Nat} (hj:j<w.length) (h:nlW w i=true) (hne:csW w i≠csW w j):CP (csW w i) (csW w j)\/CP (csW w j) (csW w i):=Jff (YQ hj h hne)
theorem JC {w:List AB} {c:Ab}:c∈agL w↔c∈agI w w.length:=by
 unfold agL
 rw [X3,(SE _).mem_iff]
theorem U0 (w:List AB):(agL w).length<=w.length:=by
 unfold agL
 have h1:=Jj3 (X1 (agI w w.length))
 rw [(SE _).length_eq] at h1
 have:=UZ w w.length
 omega
theorem Oj (w:List AB):Frs (agL w):=by
 have h:=Jae (X2 (agI w w.length))
 unfold Frs
 refine List.Pairwise.imp_of_mem ?_ h
 intro c d hc hd hlt
 have hc':=JC.1 hc
 have hd':=JC.1 hd
 obtain ⟨i,⟨hi,hni⟩,rfl⟩:=JB.1 hc'
 obtain ⟨j,⟨hj,hnj⟩,rfl⟩:=JB.1 hd'
 have hne:csW w i≠csW w j:=λ e=>by rw [e] at hlt;exact UV hlt
 refine ⟨YQ hj hni hne,?_⟩
 rcases Jf8 hj hni hne with h|h
 ·exact h
 ·exact absurd (Or.inl h) (WI hlt)
theorem YR {l m:List Ab} (h:l.Pairwise CP) (h':m.Pairwise CP) (hm:∀ c,c∈l↔c∈m):l=m:=by
 have nd:∀ {l:List Ab},l.Pairwise CP->l.Nodup:=λ h=>h.imp λ {a b} hab e=>by subst e;exact Wl hab
 refine List.Perm.eq_of_pairwise (le:=CP) (λ a b _ _ h1 h2=>absurd h2 (ZS h1)) h h' ?_
 exact (List.perm_ext_iff_of_nodup (nd h) (nd h')).2 hm
def P3 (c d:Ab):Bool:=if (c.Block != d.Block)=true then decide (c.Block<d.Block) else decide (c.At<d.At)||((c.At==d.At)&&decide (c.Cut<d.Cut))
theorem WJ {c d:Ab}:P3 c d=true↔CP c d:=by
 unfold P3 CP
 by_cases h:c.Block=d.Block
 ·simp [h]
 ·simp [h]
theorem JfB (n:Nat) (c d:Ab):Lt n c d=some (P3 c d):=by
 unfold Lt P3
 split<;>rfl
def M5 (c:Ab):List Ab->List Ab
 | []=>[c]
 | x::l=>if P3 c x=true then c::x::l else x::M5 c l
theorem Ok (c x:Ab) (l:List Ab):M5 c (x::l)=if P3 c x=true then c::x::l else x::M5 c l:=rfl
theorem YS {c d:Ab} {l:List Ab}:d∈M5 c l↔d=c\/d∈l:=by
 induction l with
 | nil=>simp [M5]
 | cons x l ih=>
  rw [Ok]
  split
  ·simp
  ·rw [List.mem_cons,ih,List.mem_cons]
   constructor
   ·rintro (h|h|h)
    ·exact .inr (.inl h)
    ·exact .inl h
    ·exact .inr (.inr h)
   ·rintro (h|h|h)
    ·exact .inr (.inl h)
    ·exact .inl h
    ·exact .inr (.inr h)
theorem Jj4 {c:Ab} {l:List Ab} (h:l.Pairwise CP) (hc:∀ x∈l,CP c x\/CP x c):(M5 c l).Pairwise CP:=by
 induction l with
 | nil=>exact List.pairwise_singleton _ _
 | cons x l ih=>
  rw [List.pairwise_cons] at h
  rw [Ok]
  split
  ·rename_i hb
   rw [WJ] at hb
   refine List.pairwise_cons.2 ⟨λ y hy=>?_,List.pairwise_cons.2 h⟩
   rcases List.mem_cons.1 hy with rfl|hy
   ·exact hb
   ·exact YA hb (h.1 y hy)
  ·rename_i hb
   rw [WJ] at hb
   refine List.pairwise_cons.2 ⟨λ y hy=>?_,ih h.2 λ y hy=>hc y (List.mem_cons_of_mem _ hy)⟩
   rcases YS.1 hy with rfl|hy
   ·exact (hc x (List.mem_cons_self ..)).resolve_left hb
   ·exact h.1 y hy
theorem Jaf {l:List Ab} (c:Ab) (hl:l.length<=1000000):Ev (λ n=>Ju n c l) (if c∈l then l else M5 c l):=by
 refine Tot.ev (Tot.bind (R:=λ y=>y=if c∈l then .inr l else .inl ()) ?_ λ y hy=>?_)
 ·refine Tot.upto l.length (λ i (x:Int)=>x=(i:Int)/\c ∉ l.take i) ?_ ?_ _ ⟨rfl,by simp⟩
  ·rintro i _ hi ⟨rfl,hj⟩
   unfold DQ
   refine Tot.iteT (decide_eq_true (by omega)) (Tot.bindC (AD hi) ?_)
   rw [chE]
   refine Tot.ite (λ hb=>Tot.pure ?_) λ hb=>Tot.pure ⟨An (by omega),?_⟩
   ·show _=_
    rw [if_pos]
    rw [← of_decide_eq_true hb]
    exact JmB _
   ·rw [List.take_succ_eq_append_getElem hi,List.mem_append,List.mem_singleton]
    rintro (h|h)
    ·exact hj h
    ·exact of_decide_eq_false hb h.symm
  ·rintro _ ⟨rfl,hj⟩
   unfold DQ
   refine Tot.iteF (decide_eq_false (by omega)) (Tot.pure ?_)
   show _=_
   rw [if_neg]
   rw [List.take_length] at hj
   exact hj
 ·by_cases hc:c∈l
  ·rw [if_pos hc] at hy ⊢
   subst hy
   exact Tot.pure rfl
  ·rw [if_neg hc] at hy ⊢
   subst hy
   refine Tot.bind (R:=λ y=>(if y.2=true then y.1 else y.1++[c])=M5 c l/\y.1.length<=l.length+1) ?_ λ y hy=>?_
   ·refine Tot.upto l.length (λ i (x:List Ab×Bool×Int)=>x.2.2=(i:Int)/\(if x.2.1=true then x.1++l.drop i=M5 c l/\x.1.length=i+1 else x.1=l.take i/\l.take i++M5 c (l.drop i)=M5 c l)) ?_ ?_ _ ⟨rfl,by simp⟩
    ·rintro i ⟨o,d,x⟩ hi ⟨h1,h2⟩
     simp only at h1 h2
     subst h1
     unfold DR
     refine Tot.iteT (D4 hi) ?_
     have hdr:=List.drop_eq_getElem_cons hi
     cases d with
     | true=>
      rw [if_pos rfl] at h2
      refine Tot.gF rfl (Tot.gF rfl (Tot.iteF rfl (Tot.bindC (AD hi) (Tot.bindC (A9 (by simp;omega)) (Tot.pure ⟨An (by omega),?_⟩)))))
      rw [if_pos rfl]
      refine ⟨?_,by simp;omega⟩
      rw [List.append_assoc,List.singleton_append,← hdr]
      exact h2.1
     | false=>
      rw [if_neg (by simp)] at h2
      obtain ⟨h2,h3⟩:=h2
      have hol:o.length=i:=by rw [h2,List.length_take];omega
      rw [hdr,Ok] at h3
      refine Tot.gE rfl (Ev.all λ n=>AD hi) (Tot.gE rfl (Ev.all λ n=>JfB n _ _) (Tot.ite (λ hb=>?_) λ hb=>?_))
      ·have hb:P3 c l[i]=true:=by simpa using hb
       rw [if_pos hb] at h3
       refine Tot.bindC (A9 (by simp;omega)) (Tot.bindC (AD hi) (Tot.bindC (A9 (by simp;omega)) (Tot.pure ⟨An (by omega),?_⟩)))
       rw [if_pos rfl]
       refine ⟨?_,by simp;omega⟩
       rw [← h3,h2]
       simp
      ·have hb:P3 c l[i]=false:=by simpa using hb
       rw [if_neg (by rw [hb];simp)] at h3
       refine Tot.bindC (AD hi) (Tot.bindC (A9 (by simp;omega)) (Tot.pure ⟨An (by omega),?_⟩))
       rw [if_neg (by simp)]
       refine ⟨?_,?_⟩
       ·show o++[l[i]]=_
        rw [List.take_succ_eq_append_getElem hi,h2]
       ·rw [← h3,List.take_succ_eq_append_getElem hi,List.append_assoc,List.singleton_append]
    ·rintro ⟨o,d,x⟩ ⟨h1,h2⟩
     simp only at h1 h2
     subst h1
     unfold DR
     refine Tot.iteF (Cr _) (Tot.pure ?_)
     rw [List.drop_of_length_le (JmD _)] at h2
     cases d with
     | true=>
      rw [if_pos rfl,List.append_nil] at h2
      exact ⟨h2.1,by show o.length<=_;omega⟩
     | false=>
      rw [if_neg (by simp),List.take_length] at h2
      refine ⟨?_,by show o.length<=_;rw [h2.1];omega⟩
      show o++[c]=_
      rw [h2.1]
      exact h2.2
   ·obtain ⟨o,d⟩:=y
    obtain ⟨hy,hyl⟩:=hy
    simp only at hyl
    cases d with
    | true=>exact Tot.iteF rfl (Tot.pure hy)
    | false=>exact Tot.iteT rfl (Tot.bindC (A9 (by simp;omega)) (Tot.pure hy))
theorem SF {w:List AB} {i:Nat} (h:i<w.length):idx w (i:Int)=some (w.getD i default):=Dg h
theorem X5 {w:List AB} (hw:WOK w):Ev (λ n=>KB n w) (agL w):=by
 have hlen:=hw.len
 refine Tot.ev (Tot.bind (R:=λ r=>r=agL w) ?_ λ r hr=>Tot.pure hr)
 refine Tot.upto w.length (λ i (x:List Ab×Int)=>(x.2=(i:Int)/\x.1.length<=i)/\x.1.Pairwise CP/\∀ c,c∈x.1↔c∈agI w i) ?_ ?_ _ ⟨⟨rfl,by simp⟩,.nil,by simp [agI]⟩
 ·rintro i ⟨r,x⟩ hi ⟨⟨h1,h0⟩,h2,h3⟩
  simp only at h0 h1 h2 h3
  subst h1
  unfold EJ
  refine Tot.iteT (decide_eq_true (by omega)) (Tot.bind (R:=λ b=>b=nlW w i) ?_ λ b hb=>?_)
  ·refine Tot.upto w.length (λ j (x:Bool×Int)=>x.2=(j:Int)/\x.1=(List.range j).all λ k=>!(qW w i k)) ?_ ?_ _ ⟨rfl,rfl⟩
   ·rintro j ⟨f,x⟩ hj ⟨g1,g2⟩
    simp only at g1 g2
    subst g1
    unfold EI
    refine Tot.iteT (decide_eq_true (by omega)) ?_
    rw [List.range_succ,List.all_append,← g2]
    cases f with
    | false=>exact Tot.gF rfl (Tot.gF rfl (Tot.gF rfl (Tot.gF rfl (Tot.gF rfl (Tot.pure ⟨An (by omega),rfl⟩)))))
    | true=>
     refine Tot.gE rfl (Ev.all λ n=>SF hi) (Tot.gE rfl (Ev.all λ n=>SF hj) ?_)
     rw [chE]
     have e:(true&&[j].all λ k=>!(qW w i k))=(decide (csW w i=csW w j)||frB (csW w i) (csW w j)):=by
      simp only [List.all_cons,List.all_nil,qW]
      cases decide (csW w i=csW w j)<;>cases frB (csW w i) (csW w j)<;>rfl
     rw [e]
     cases hd:decide (csW w i=csW w j) with
     | true=>
      rw [show decide ((w.getD i default).C=(w.getD j default).C)=true from hd]
      exact Tot.gF rfl (Tot.gF rfl (Tot.gF rfl (Tot.pure ⟨An (by omega),rfl⟩)))
     | false=>
      rw [show decide ((w.getD i default).C=(w.getD j default).C)=false from hd]
      have hc1:=(hw.c hi).1
      have hc2:=(hw.c hj).1
      exact Tot.gE rfl (Ev.all λ n=>SF hi) (Tot.gE rfl (Ev.all λ n=>SF hj) (Tot.gE rfl (Ev.all λ n=>Jch n (by omega) hc1 hc2) (Tot.pure ⟨An (by omega),rfl⟩)))
   ·rintro ⟨f,x⟩ ⟨g1,g2⟩
    simp only at g1 g2
    subst g1
    unfold EI
    exact Tot.iteF (decide_eq_false (by omega)) (Tot.pure g2)
  ·subst hb
   refine Tot.ite (λ hb=>?_) λ hb=>Tot.pure ⟨⟨An (by omega),by show r.length<=i+1;omega⟩,h2,λ c=>?_⟩
   ·refine Tot.bindC (SF hi) (Tot.bindE (Jaf _ (show r.length<=1000000 by omega)) (Tot.pure ⟨⟨An (by omega),?_⟩,?_,λ c=>?_⟩))
    ·show (if csW w i∈r then r else M5 (csW w i) r).length<=i+1
     have hil:∀ l:List Ab,(M5 (csW w i) l).length=l.length+1:=by
      intro l
      induction l with
      | nil=>rfl
      | cons x l ih=>rw [Ok];split<;>simp [ih]
     split
     ·omega
     ·rw [hil];omega
    ·show (if csW w i∈r then r else M5 (csW w i) r).Pairwise CP
     split
     ·exact h2
     ·rename_i hm
      refine Jj4 h2 λ x hx=>?_
      obtain ⟨k,⟨hk,hnk⟩,rfl⟩:=JB.1 ((h3 x).1 hx)
      exact Jf8 (by omega) hb λ e=>hm (by rw [e];exact hx)
    ·show c∈(if csW w i∈r then r else M5 (csW w i) r)↔_
     rw [Oi,if_pos hb,List.mem_append,List.mem_singleton,← h3]
     split
     ·rename_i hm
      constructor
      ·exact .inl
      ·rintro (h|rfl)
       ·exact h
       ·exact hm
     ·rw [YS];exact or_comm
   ·rw [Oi,if_neg (by rw [hb];simp),List.append_nil]
    exact h3 c
 ·rintro ⟨r,x⟩ ⟨⟨h1,h0⟩,h2,h3⟩
  simp only at h0 h1 h2 h3
  subst h1
  unfold EJ
  refine Tot.iteF (decide_eq_false (by omega)) (Tot.pure ?_)
  exact YR h2 ((Oj w).imp λ h=>h.2) λ c=>by rw [h3,JC]
theorem Jag (w:List AB) (i j:Nat):S9 w i (j+1)=S9 w i j++if (decide (i<j)&&qW w i j)=true then [(⟨(i:Int),(j:Int)⟩:CB Int)] else []:=by
 unfold S9
 rw [List.range_succ,List.filter_append,List.map_append]
 congr 1
 cases h:decide (i<j)&&qW w i j<;>simp [h]
theorem Jj5 (w:List AB) (i:Nat):S9 w i (i+1)=[]:=by
 unfold S9
 rw [List.map_eq_nil_iff,List.filter_eq_nil_iff]
 intro k hk
 rw [List.mem_range] at hk
 rw [decide_eq_false (by omega)]
 simp
theorem WK (w:List AB) (i:Nat):quW w (i+1)=quW w i++S9 w i w.length:=by unfold quW;rw [List.range_succ,List.flatMap_append];simp
theorem WL (w:List AB) (i j:Nat):(S9 w i j).length<=j:=by
 unfold S9
 rw [JmJ]
 have:=List.length_filter_le (λ k=>decide (i<k)&&qW w i k) (List.range j)
 rwa [List.length_range] at this
theorem JfC (w:List AB) (i:Nat):(quW w i).length<=i*w.length:=by
 induction i with
 | zero=>simp [quW]
 | succ i ih=>
  rw [WK,List.length_append,JmZ]
  have:=WL w i w.length
  omega
theorem Jj6 {w:List AB} (hw:WOK w) {i:Nat} (hi:i<=w.length):(quW w i).length<=10000:=by
 have h1:=JfC w i
 have h2:=hw.len
 have:i*w.length<=100*100:=Nat.mul_le_mul (by omega) h2
 omega
theorem U1 {b:Int} {l:List Ab} (h:∀ c∈l,Okc 1000 c):-(2000*(l.length:Int))<=D3 b l/\D3 b l<=2000*(l.length:Int):=by
 induction l with
 | nil=>simp [D3]
 | cons d l ih=>
  have h1:=ih λ c hc=>h c (List.mem_cons_of_mem _ hc)
  have h2:=h d (List.mem_cons_self ..)
  unfold Okc at h2
  simp only [D3,List.length_cons]
  split<;>omega
theorem JcU {l pre:List Ab} (h:∀ c∈l,Okc 1000 c) (h':∀ c∈pre,Okc 1000 c) (hl:pre.length+l.length<=100):∀ c∈CK pre l,Okc 1000000 c:=by
 induction l generalizing pre with
 | nil=>simp [CK]
 | cons d l ih=>
  have hd:=h d (List.mem_cons_self ..)
  simp only [List.length_cons] at hl
  simp only [CK]
  intro c hc
  rcases List.mem_cons.1 hc with rfl|hc
  ·have:=U1 (b:=d.Block) h'
   unfold mvC Okc at *
   simp only
   omega
  ·refine ih (λ c hc=>h c (List.mem_cons_of_mem _ hc)) (λ c hc=>?_) (by simp;omega) c hc
   rw [List.mem_append,List.mem_singleton] at hc
   rcases hc with hc|rfl
   ·exact h' c hc
   ·exact hd
theorem SG {w:List AB} (hw:WOK w):∀ c∈agL w,Okc 1000 c/\0<=c.Cut:=λ c hc=>by
 obtain ⟨i,⟨hi,_⟩,rfl⟩:=JB.1 (JC.1 hc)
 exact hw.c hi
theorem X6 {w:List AB} (hw:WOK w) {i:Nat} (hi:i<(agL w).length):Qr (agL w)[i] (CK [] ((agL w).take i)) 0=(mvC (D3 (agL w)[i].Block ((agL w).take i)) (agL w)[i],(((agL w).take i).length:Int),true):=by
 have hm:=JmB hi
 have hc:=SG hw _ hm
 have hf:=Oj w
 unfold Frs at hf
 have e:=XN (agL w)[i] hc.2 [] ((agL w).take i) 0 (λ d hd=>(SG hw d (List.mem_of_mem_take hd)).2) (λ d hd=>by
  have h2:((agL w).take (i+1)).Pairwise λ c d=>frB c d=true/\CP c d:=hf.sublist (List.take_sublist _ _)
  rw [List.take_succ_eq_append_getElem hi,List.pairwise_append] at h2
  have:=h2.2.2 d hd _ (List.mem_singleton_self _)
  exact ⟨by rw [Sm];exact this.1,this.2⟩)
 rw [show D3 (agL w)[i].Block []=0 from rfl,Jlr,List.nil_append,Jm0] at e
 exact e
theorem Jah (w:List AB) {i:Nat} (hi:i<(agL w).length):CK [] ((agL w).take (i+1))=CK [] ((agL w).take i)++[mvC (D3 (agL w)[i].Block ((agL w).take i)) (agL w)[i]]:=by
 rw [List.take_succ_eq_append_getElem hi,TC,List.nil_append]
 rfl
theorem JfD {w:List AB} (hw:WOK w) (i:Nat):∀ d∈CK [] ((agL w).take i),Okc 1000000000 d:=λ d hd=>by
 have h1:=U0 w
 have h2:=hw.len
 exact (JcU (λ c hc=>(SG hw c (List.mem_of_mem_take hc)).1) (by simp) (by simp;omega) d hd).mono (by omega)
end Go.AI
end
section
namespace Go.AI
def ldP (w:List AB) (i j k:Nat):Prop:=∃ a b,(a<b/\b<w.length)/\(a<i\/a=i/\b<j)/\qW w a b=true/\(k=a\/k=b)
theorem JcV {w:List AB} {i k:Nat}:ldP w i 0 k↔ldP w i (i+1) k:=by
 unfold ldP
 constructor
 ·rintro ⟨a,b,h,h1,h2⟩;exact ⟨a,b,h,by omega,h2⟩
 ·rintro ⟨a,b,h,h1,h2⟩;exact ⟨a,b,h,by omega,h2⟩
theorem Jj7 {w:List AB} {i k:Nat}:ldP w i w.length k↔ldP w (i+1) 0 k:=by
 unfold ldP
 constructor
 ·rintro ⟨a,b,h,h1,h2⟩;exact ⟨a,b,h,by omega,h2⟩
 ·rintro ⟨a,b,h,h1,h2⟩;exact ⟨a,b,h,by omega,h2⟩
theorem JfE {w:List AB} {i j k:Nat} (hij:i<j) (hj:j<w.length):ldP w i (j+1) k↔ldP w i j k\/(qW w i j=true/\(k=i\/k=j)):=by
 unfold ldP
 constructor
 ·rintro ⟨a,b,h,h1,h2,h3⟩
  by_cases e:a=i/\b=j
  ·obtain ⟨rfl,rfl⟩:=e
   exact .inr ⟨h2,h3⟩
  ·exact .inl ⟨a,b,h,by omega,h2,h3⟩
 ·rintro (⟨a,b,h,h1,h2⟩|⟨h2,h3⟩)
  ·exact ⟨a,b,h,by omega,h2⟩
  ·exact ⟨i,j,⟨hij,hj⟩,.inr ⟨rfl,by omega⟩,h2,h3⟩
theorem Jj8 {w:List AB} {k:Nat} (hk:k<w.length):ldP w w.length 0 k↔nlW w k=false:=by
 rw [← Bool.not_eq_true,QG]
 unfold ldP
 constructor
 ·rintro ⟨a,b,h,h1,h2,rfl|rfl⟩ hn
  ·rw [hn b h.2] at h2;cases h2
  ·rw [YP,hn a (by omega)] at h2;cases h2
 ·intro hn
  refine Classical.byContradiction λ hh=>hn λ j hj=>?_
  cases hq:qW w k j with
  | false=>rfl
  | true=>
   exfalso
   refine hh ?_
   rcases Nat.lt_trichotomy k j with h|rfl|h
   ·exact ⟨k,j,⟨h,hj⟩,.inl hk,hq,.inl rfl⟩
   ·rw [JfA] at hq;cases hq
   ·exact ⟨j,k,⟨h,hk⟩,.inl hj,by rw [YP];exact hq,.inr rfl⟩
theorem WM {l:List Bool} {i k:Nat} {b:Bool} (hi:i<l.length):(l.set i b).getD k false=if i=k then b else l.getD k false:=by
 rw [JmV,List.getElem?_set]
 by_cases h:i=k
 ·subst h
  rw [if_pos rfl,if_pos hi,if_pos rfl];rfl
 ·rw [if_neg h,if_neg h,JmV]
theorem U2 {w:List AB} (hw:WOK w):Ev (λ n=>Iw n w) (jnS w):=by
 have hlen:=hw.len
 have hal:=U0 w
 unfold Iw
 refine Tot.ev (Tot.bindC (Jlq (by omega) (by omega)) ?_)
 rw [JmW]
 refine Tot.bind (R:=λ y:Ao×List Bool=>y.1={ Agreed:=[],Quarrels:=quW w w.length }/\y.2.length=w.length/\∀ k,k<w.length->(y.2.getD k false=true↔nlW w k=false)) ?_ λ y hy=>?_
 ·refine Tot.upto w.length (λ i (x:Ao×List Bool×Int)=>x.2.2=(i:Int)/\x.1={ Agreed:=[],Quarrels:=quW w i }/\x.2.1.length=w.length/\∀ k,k<w.length->(x.2.1.getD k false=true↔ldP w i 0 k)) ?_ ?_ _ ⟨rfl,rfl,by simp,λ k hk=>?_⟩
  ·rintro i ⟨v,ld,x⟩ hi ⟨h1,h2,h3,h4⟩
   simp only at h1 h2 h3 h4
   subst h1 h2
   unfold HC
   refine Tot.iteT (D4 hi) (Tot.bind (R:=λ y:Ao×List Bool=>y.1={ Agreed:=[],Quarrels:=quW w (i+1) }/\y.2.length=w.length/\∀ k,k<w.length->(y.2.getD k false=true↔ldP w (i+1) 0 k)) ?_ λ y hy=>Tot.pure ⟨An (by omega),hy⟩)
   have hq:=Jj6 hw (i:=i) (by omega)
   refine Tot.whl (λ m (x:Ao×List Bool×Int)=>∃ j:Nat,x.2.2=(j:Int)/\(i<j/\j+m=w.length)/\x.1={ Agreed:=[],Quarrels:=quW w i++S9 w i j }/\x.2.1.length=w.length/\∀ k,k<w.length->(x.2.1.getD k false=true↔ldP w i j k)) ?_ (w.length-(i+1)) _ ⟨i+1,An (by omega),by omega,by rw [Jj5,List.append_nil],h3,λ k hk=>(h4 k hk).trans JcV⟩
   rintro m ⟨v,l0,x⟩ ⟨j,h1,⟨g1,g2⟩,h2,h3,h4⟩
   simp only at h1 h2 h3 h4
   subst h1 h2
   unfold Kt
   rcases JmE j w.length with hj|hj
   ·refine Tot.iteT (D4 hj) (Tot.bindC (SF hi) (Tot.bindC (SF hj) ?_))
    rw [chE]
    have hr:=WL w i j
    have hs:=Jag w i j
    rw [decide_eq_true g1,Bool.true_and] at hs
    have hc1:=(hw.c hi).1
    have hc2:=(hw.c hj).1
    have hld:=λ k=>JfE (w:=w) (k:=k) g1 hj
    unfold qW at hs hld
    cases hd:decide (csW w i=csW w j) with
    | true=>
     rw [hd] at hs hld
     rw [show decide ((w.getD i default).C=(w.getD j default).C)=true from hd]
     refine Tot.gF rfl (Tot.gF rfl (Tot.gF rfl (Tot.iteF rfl (Tot.pure ⟨m-1,by omega,j+1,An (by omega),by omega,?_,h3,λ k hk=>?_⟩))))
     ·rw [hs];simp
     ·rw [h4 k hk,hld];simp
    | false=>
     rw [hd] at hs hld
     rw [show decide ((w.getD i default).C=(w.getD j default).C)=false from hd]
     refine Tot.gE rfl (Ev.all λ n=>SF hi) (Tot.gE rfl (Ev.all λ n=>SF hj) (Tot.gE rfl (Ev.all λ n=>YB n (by omega) hc1 hc2) ?_))
     cases hf:frB (csW w i) (csW w j) with
     | true=>
      rw [hf] at hs hld
      refine Tot.iteF (by rw [show frB (w.getD i default).C (w.getD j default).C=true from hf];rfl) (Tot.pure ⟨m-1,by omega,j+1,An (by omega),by omega,?_,h3,λ k hk=>?_⟩)
      ·rw [hs];simp
      ·rw [h4 k hk,hld];simp
     | false=>
      rw [hf] at hs hld
      refine Tot.iteT (by rw [show frB (w.getD i default).C (w.getD j default).C=false from hf];rfl) (Tot.bindC (A9 (by simp;omega)) (Tot.bindC (Dg (show i<l0.length by omega)) (Tot.bindC (Sk (show i<l0.length by omega)) (Tot.bindC (Dg (show j<(l0.set i true).length by simp;omega)) (Tot.bindC (Sk (show j<(l0.set i true).length by simp;omega)) (Tot.pure ⟨m-1,by omega,j+1,An (by omega),by omega,?_,by simp [h3],λ k hk=>?_⟩))))))
      ·rw [hs];simp
      ·rw [hld]
       show ((l0.set i true).set j true).getD k false=true↔_
       rw [WM (by simp;omega),WM (by omega)]
       by_cases e1:j=k
       ·subst e1;simp
       ·rw [if_neg e1]
        by_cases e2:i=k
        ·subst e2;simp
        ·rw [if_neg e2,h4 k hk]
         constructor
         ·exact .inl
         ·rintro (h|⟨_,h⟩)
          ·exact h
          ·omega
   ·refine Tot.iteF (decide_eq_false (by show ¬((j:Int)<((w.length:Nat):Int));omega)) (Tot.pure ?_)
    have:j=w.length:=by omega
    subst this
    exact ⟨by rw [WK],h3,λ k hk=>(h4 k hk).trans Jj7⟩
  ·rintro ⟨v,ld,x⟩ ⟨h1,h2,h3,h4⟩
   simp only at h1 h2 h3 h4
   subst h1 h2
   unfold HC
   exact Tot.iteF (Cr _) (Tot.pure ⟨rfl,h3,λ k hk=>(h4 k hk).trans (Jj8 hk)⟩)
  ·show (List.replicate w.length false).getD k false=true↔_
   rw [JmV,List.getElem?_replicate,if_pos hk]
   unfold ldP
   constructor
   ·intro h;cases h
   ·rintro ⟨a,b,_,h,_⟩;omega
 ·obtain ⟨v,ld⟩:=y
  obtain ⟨h1,h2,h3⟩:=hy
  simp only at h1 h2 h3
  subst h1
  refine Tot.bindE (f:=λ n=>whl (λ (x:List Ab×Int)=>FN n w ({ Agreed:=[],Quarrels:=quW w w.length },ld) x.1 x.2) n ([],0)) (x:=agI w w.length) ?_ ?_
  ·refine Tot.ev (Tot.upto w.length (λ i (x:List Ab×Int)=>x.2=(i:Int)/\x.1=agI w i) ?_ ?_ _ ⟨rfl,rfl⟩)
   ·rintro i ⟨l,x⟩ hi ⟨g1,g2⟩
    simp only at g1 g2
    subst g1 g2
    unfold FN
    have hil:=UZ w i
    refine Tot.iteT (D4 hi) (Tot.bindC (SF hi) (Tot.bindC (Dg (show i<ld.length by omega)) ?_))
    have h4:=h3 i hi
    rw [show ld.getD i default=ld.getD i false from rfl]
    refine Tot.ite (λ hb=>?_) λ hb=>?_
    ·have hn:nlW w i=true:=by
      have hb:ld.getD i false=false:=by simpa using hb
      cases hn:nlW w i with
      | true=>rfl
      | false=>rw [h4.2 hn] at hb;cases hb
     refine Tot.bindC (A9 (by simp;omega)) (Tot.pure ⟨An (by omega),?_⟩)
     rw [Oi,if_pos hn];rfl
    ·have hb:ld.getD i false=true:=by simpa using hb
     have hn:=h4.1 hb
     refine Tot.pure ⟨An (by omega),?_⟩
     rw [Oi,if_neg (by rw [hn];simp),List.append_nil]
   ·rintro ⟨l,x⟩ ⟨g1,g2⟩
    simp only at g1 g2
    subst g1 g2
    unfold FN
    exact Tot.iteF (Cr _) (Tot.pure rfl)
  have hil:=UZ w w.length
  have hsl:(X1 (agI w w.length)).length=(agI w w.length).length:=(SE _).length_eq
  refine Tot.bindE (Jfz (by omega)) (Tot.bindC (Eb (decide_eq_true hsl.symm)) (Tot.bind (X4 (by omega)) λ r hr=>?_))
  obtain ⟨arr,lo,m⟩:=r
  obtain ⟨⟨r1,r2,r3⟩,r4⟩:=hr
  simp only at r1 r2 r3 r4
  subst r1
  have r4:arr.take m=agL w:=r4
  have r2:m=(agL w).length:=r2
  refine Tot.bind (R:=λ v=>v=jnS w) ?_ λ v hv=>Tot.pure hv
  refine Tot.upto m (λ i (x:Ao×Int)=>x.2=(i:Int)/\x.1={ Agreed:=CK [] ((agL w).take i),Quarrels:=quW w w.length }) ?_ ?_ _ ⟨rfl,rfl⟩
  ·rintro i ⟨v,x⟩ hi ⟨g1,g2⟩
   simp only at g1 g2
   subst g1 g2
   unfold HD
   have hi':i<(agL w).length:=by omega
   have hok:=(SG hw _ (JmB hi')).1
   have hx:ixP arr (0,m) (i:Int)=some (agL w)[i]:=by
    rw [JcT (by omega) (by omega) (by omega),Jm0,JmW]
    congr 1
    have:(arr.take m)[i]? = some (agL w)[i]:=by rw [r4,JmM hi']
    rw [List.getElem?_take,if_pos hi] at this
    rw [JmV,this];rfl
   refine Tot.iteT (D4 hi) (Tot.bindC hx (Tot.bindE (Wn (by rw [I2];simp;omega) (JfD hw i) (hok.mono (by omega))) ?_))
   rw [X6 hw hi']
   refine Tot.iteT rfl (Tot.bindC (A9 (by simp [I2];omega)) (Tot.pure ⟨An (by omega),?_⟩))
   rw [Jah w hi']
  ·rintro ⟨v,x⟩ ⟨g1,g2⟩
   simp only at g1 g2
   subst g1 g2
   unfold HD
   refine Tot.iteF (Cr _) (Tot.pure ?_)
   show _=_
   rw [r2,List.take_length];rfl
end Go.AI
end
section
namespace Go.AI
def b0:List Ag:=[{ Kind:=1,Level:=0,Text:=[97,98,99],Rows:=[],F:=[],Pic:={ W:=0,H:=0,Gap:=0,F:=[] },Page:=0 }]
theorem Jf9:BkT b0:=⟨by decide,λ x hx=>by simp only [b0,List.mem_singleton] at hx;subst hx;decide⟩
def chg (a c:Int) (s:List UInt8):Ab:={ Block:=0,At:=a,Cut:=c,Put:=s }
def w0:List AB:=[⟨0,chg 2 1 [122]⟩,⟨0,chg 2 1 [122]⟩,⟨0,chg 0 1 [120,121]⟩,⟨0,chg 1 0 [112]⟩,⟨0,chg 1 0 [113]⟩]
theorem JlB:WOK w0:=by
 refine ⟨by decide,λ y hy=>?_,λ y hy=>?_⟩
 ·simp only [w0,List.mem_cons,List.not_mem_nil,or_false] at hy
  rcases hy with rfl|rfl|rfl|rfl|rfl<;>unfold Okc chg<;>decide
 ·simp only [w0,List.mem_cons,List.not_mem_nil,or_false] at hy
  rcases hy with rfl|rfl|rfl|rfl|rfl<;>unfold chg<;>decide
theorem JD {a c:Int} {s:List UInt8} (ha:-1000<=a/\a<=1000) (hc:-1000<=c/\c<=1000) (hs:s.length<=1000) {A:Int} (hA:1000<=A):Okc A (chg a c s):=by unfold Okc chg;simp only;omega
theorem WN:∀ i:Nat,i<5->∃ c:Ab,idx ([chg 0 3 [],chg 4 0 [97],{ Block:=1,At:=0,Cut:=0,Put:=[97] },chg (-1) 0 [97],chg 0 0 [32]]:List Ab) (i:Int)=some c/\Okc 1000000000000 c/\apS b0 c=([],320)
 | 0,_=>⟨_,rfl,JD (by decide) (by decide) (by decide) (by decide),by kernel_rfl⟩
 | 1,_=>⟨_,rfl,JD (by decide) (by decide) (by decide) (by decide),by kernel_rfl⟩
 | 2,_=>⟨_,rfl,by unfold Okc;decide,by kernel_rfl⟩
 | 3,_=>⟨_,rfl,JD (by decide) (by decide) (by decide) (by decide),by kernel_rfl⟩
 | 4,_=>⟨_,rfl,JD (by decide) (by decide) (by decide) (by decide),by kernel_rfl⟩
 | n+5,h=>by omega
theorem Lg {a c:Int} {s:List UInt8} {a' c':Int} {s':List UInt8} (h:(-1000<=a/\a<=1000)/\(-1000<=c/\c<=1000)/\s.length<=1000) (h':(-1000<=a'/\a'<=1000)/\(-1000<=c'/\c'<=1000)/\s'.length<=1000) (n:Nat):DC n (chg a c s) (chg a' c' s')=some (ovS (chg a c s) (chg a' c' s')):=
 YC n (A:=1000) (by decide) (JD h.1 h.2.1 h.2.2 (by decide)) (JD h'.1 h'.2.1 h'.2.2 (by decide))
theorem Jai:Ev (λ n=>HE n) true:=by
 have hA:apS b0 (chg 1 1 [120,121])=([{ Kind:=1,Level:=0,Text:=[97,120,121,99],Rows:=[],F:=[],Pic:={ W:=0,H:=0,Gap:=0,F:=[] },Page:=0 }],0):=by kernel_rfl
 have hJ:jnS w0={ Agreed:=[chg 0 1 [120,121],chg 3 1 [122]],Quarrels:=[⟨3,4⟩] }:=by kernel_rfl
 have h1:=WG Jf9 (JD (a:=1) (c:=1) (s:=[120,121]) (A:=1000000000000) (by decide) (by decide) (by decide) (by decide))
 rw [hA] at h1
 have hj:=U2 JlB
 rw [hJ] at hj
 have hc:Ev (λ n=>Iv n (chg 1 0 [97]) [chg 0 0 [98],chg 2 0 [99]]) (noC,1,false):=by
  have:=Wn (l:=[chg 0 0 [98],chg 2 0 [99]]) (c:=chg 1 0 [97]) (by decide) (λ d hd=>by
   simp only [List.mem_cons,List.not_mem_nil,or_false] at hd
   rcases hd with rfl|rfl<;>exact JD (by decide) (by decide) (by decide) (by decide)) (JD (by decide) (by decide) (by decide) (by decide))
  have e:Qr (chg 1 0 [97]) [chg 0 0 [98],chg 2 0 [99]] 0=(noC,1,false):=by kernel_rfl
  rwa [e] at this
 have o1:ovS (chg 2 1 []) (chg 0 1 [120,121,122])=(chg 4 1 [],true):=by kernel_rfl
 have o2:ovS (chg 1 0 [97]) (chg 1 0 [98])=(noC,false):=by kernel_rfl
 have o3:ovS (chg 0 2 []) (chg 1 2 [])=(noC,false):=by kernel_rfl
 have o4:ovS (chg 1 0 [97]) (chg 1 1 [])=(chg 1 0 [97],true):=by kernel_rfl
 have o5:ovS (chg 1 1 []) (chg 1 0 [97])=(chg 2 1 [],true):=by kernel_rfl
 have v1:=λ n=>(Lg (a:=2) (c:=1) (s:=[]) (a':=0) (c':=1) (s':=[120,121,122]) (by decide) (by decide) n).trans (congrArg some o1)
 have v2:=λ n=>(Lg (a:=1) (c:=0) (s:=[97]) (a':=1) (c':=0) (s':=[98]) (by decide) (by decide) n).trans (congrArg some o2)
 have v3:=λ n=>(Lg (a:=0) (c:=2) (s:=[]) (a':=1) (c':=2) (s':=[]) (by decide) (by decide) n).trans (congrArg some o3)
 have v4:=λ n=>(Lg (a:=1) (c:=0) (s:=[97]) (a':=1) (c':=1) (s':=[]) (by decide) (by decide) n).trans (congrArg some o4)
 have v5:=λ n=>(Lg (a:=1) (c:=1) (s:=[]) (a':=1) (c':=0) (s':=[97]) (by decide) (by decide) n).trans (congrArg some o5)
 unfold HE
 refine Tot.ev (Tot.bindA (y:=chg 1 1 [120,121]) (λ n=>rfl) (Tot.bindE h1 (Tot.bindA (y:=chg 0 3 []) (λ n=>rfl) (Tot.bindA (y:=chg 4 0 [97]) (λ n=>rfl) (Tot.bindA (y:=chg (-1) 0 [97]) (λ n=>rfl) (Tot.bindA (y:=chg 0 0 [32]) (λ n=>rfl) (Tot.bind (R:=λ y=>y=.inl ()) ?_ λ y hy=>?_)))))))
 ·refine Tot.upto 5 (λ i (x:Int)=>x=(i:Int)) (λ i x hi hx=>?_) (λ x hx=>?_) _ rfl
  ·subst hx
   obtain ⟨c,g1,g2,g3⟩:=WN i hi
   have g4:=WG Jf9 g2
   rw [g3] at g4
   unfold El
   exact Tot.iteT (decide_eq_true (show (i:Int)<((5:Nat):Int) by omega)) (Tot.bindC g1 (Tot.bindE g4 (Tot.iteF rfl (Tot.pure (An (by omega))))))
  ·subst hx
   unfold El
   exact Tot.iteF rfl (Tot.pure rfl)
 ·subst hy
  refine Tot.bindA (y:=chg 2 1 []) (λ n=>rfl) (Tot.bindA (y:=chg 0 1 [120,121,122]) (λ n=>rfl) (Tot.bindA v1 (Tot.bindA (y:=chg 1 0 [97]) (λ n=>rfl) (Tot.bindA (y:=chg 1 0 [98]) (λ n=>rfl) (Tot.bindA v2 (Tot.bindA (y:=chg 0 2 []) (λ n=>rfl) (Tot.bindA (y:=chg 1 2 []) (λ n=>rfl) (Tot.bindA v3 (Tot.bindA (y:=chg 1 0 [97]) (λ n=>rfl) (Tot.bindA (y:=chg 1 1 []) (λ n=>rfl) (Tot.bindA v4 (Tot.bindA (y:=chg 1 1 []) (λ n=>rfl) (Tot.bindA (y:=chg 1 0 [97]) (λ n=>rfl) (Tot.bindA v5 ?_))))))))))))))
  refine Tot.bindA (y:=chg 2 1 [122]) (λ n=>rfl) (Tot.bindA (y:=chg 0 1 [120,121]) (λ n=>rfl) (Tot.bindA (y:=chg 1 0 [112]) (λ n=>rfl) (Tot.bindA (y:=chg 1 0 [113]) (λ n=>rfl) (Tot.bindE hj (Tot.bindA (y:=chg 1 0 [97]) (λ n=>rfl) (Tot.bindA (y:=chg 0 0 [98]) (λ n=>rfl) (Tot.bindA (y:=chg 2 0 [99]) (λ n=>rfl) (Tot.bindE hc ?_))))))))
  have hs:Ev (λ n=>Ix n [{ Kind:=1,Level:=0,Text:=[97,120,121,99],Rows:=[],F:=[],Pic:={ W:=0,H:=0,Gap:=0,F:=[] },Page:=0 }] [{ Kind:=1,Level:=0,Text:=[97,120,121,99],Rows:=[],F:=[],Pic:={ W:=0,H:=0,Gap:=0,F:=[] },Page:=0 }]) true:=Wq (by decide) λ x hx=>by
   rw [List.mem_singleton] at hx
   subst hx
   exact ⟨by decide,by simp,by decide,by decide,by simp⟩
  refine Tot.gE rfl hs (Tot.gE rfl (x:=chg 4 1 []) (Ev.all λ n=>rfl) (Tot.gE rfl (x:=chg 1 0 [97]) (Ev.all λ n=>rfl) (Tot.gE rfl (x:=chg 2 1 []) (Ev.all λ n=>rfl) (Tot.gE rfl (x:=chg 0 1 [120,121]) (Ev.all λ n=>rfl) (Tot.gE rfl (x:=chg 3 1 [122]) (Ev.all λ n=>rfl) ?_)))))
  exact Tot.gE rfl (Ws (v:={ Agreed:=[chg 0 1 [120,121],chg 3 1 [122]],Quarrels:=[⟨3,4⟩] }) (by decide) (by decide)) (Tot.pure rfl)
theorem JlC (p q r:List UInt8) {c:Ab} (h:c.At=(p.length:Int)) (h':c.Cut=(q.length:Int)):L3 (p++(q++r)) c=p++(c.Put++r):=by
 have:=Jmr p q r c.Put h h'
 rw [← List.append_assoc,JcP _ c c.Put.length,this,List.append_assoc]
end Go.AI
end
section
namespace Go.AI
theorem Hq {n:Int} (h:okI .u8 n):U8 n:=by
 unfold okI Lit.wf at h
 have:IntKind.u8.min=0/\IntKind.u8.max=255:=by decide
 unfold U8
 simp only [JmN,decide_eq_true_eq] at h
 omega
theorem Jj9 {x:AS} (h:C8 x):RwC x:=⟨Hq h.1,Hq h.2.1,Hq h.2.2.1,h.2.2.2.1,λ y hy=>Hq (h.2.2.2.2 y hy)⟩
theorem Jka {x:Bd} (h:HX x):RwB x:=⟨Hq h.1,Hq h.2.1,h.2.2.1.1,λ y hy=>Hq (h.2.2.1.2 y hy),Hq h.2.2.2.1.2.1,Hq h.2.2.2.2.1,Hq h.2.2.2.2.2.1⟩
theorem Tot.out {f:Nat->Option Bool} (h:Tot f (λ y=>y=true)):∃ n,f n=some true:=by
 obtain ⟨z,rfl,N,h⟩:=h
 exact ⟨N,h N (JmD _)⟩
end Go.AI
end
section
namespace Go.AI
def trn (w:List AB) (k:Nat):List AB:=(List.range w.length).map λ i=>w.getD ((i+k) % w.length) default
theorem U3 (w:List AB) (k:Nat):(trn w k).length=w.length:=by unfold trn;simp
theorem U4 {w:List AB} {k i:Nat} (hi:i<w.length):csW (trn w k) i=csW w ((i+k) % w.length):=by
 unfold csW trn
 rw [JmV,JmQ,List.getElem?_range hi]
 rfl
theorem YT {N k j:Nat} (hj:j<N):∃ i,i<N/\(i+k) % N=j:=by
 have hr:k % N<N:=Nat.mod_lt _ (by omega)
 by_cases h:k % N<=j
 ·refine ⟨j-k % N,by omega,?_⟩
  rw [Nat.add_mod,Nat.mod_eq_of_lt (show j-k % N<N by omega),show j-k % N+k % N=j by omega,Nat.mod_eq_of_lt hj]
 ·refine ⟨j+N-k % N,by omega,?_⟩
  rw [Nat.add_mod,Nat.mod_eq_of_lt (show j+N-k % N<N by omega),show j+N-k % N+k % N=j+N by omega,Nat.add_mod_right,Nat.mod_eq_of_lt hj]
theorem Jga {w:List AB} {k i j:Nat} (hi:i<w.length) (hj:j<w.length):qW (trn w k) i j=qW w ((i+k) % w.length) ((j+k) % w.length):=by
 unfold qW
 rw [U4 hi,U4 hj]
theorem JcW {w:List AB} {k i:Nat} (hi:i<w.length):nlW (trn w k) i=nlW w ((i+k) % w.length):=by
 rw [Bool.eq_iff_iff,QG,QG,U3]
 constructor
 ·intro h j hj
  obtain ⟨m,hm,rfl⟩:=YT (k:=k) hj
  rw [← Jga hi hm];exact h m hm
 ·intro h j hj
  rw [Jga hi hj]
  exact h _ (Nat.mod_lt _ (by omega))
theorem Jkb (w:List AB) (k:Nat):agL (trn w k)=agL w:=by
 refine YR ((Oj _).imp λ h=>h.2) ((Oj _).imp λ h=>h.2) λ c=>?_
 rw [JC,JC,JB,JB,U3]
 constructor
 ·rintro ⟨i,⟨hi,hn⟩,rfl⟩
  rw [JcW hi] at hn
  exact ⟨_,⟨Nat.mod_lt _ (by omega),hn⟩,(U4 hi).symm⟩
 ·rintro ⟨j,⟨hj,hn⟩,rfl⟩
  obtain ⟨i,hi,rfl⟩:=YT (k:=k) hj
  exact ⟨i,⟨hi,by rw [JcW hi];exact hn⟩,U4 hi⟩
def rpD (s:List UInt8) (i:Int) (p:List UInt8×Nat) (c:Ab):List UInt8×Nat:=if c.Block=i then (p.1++((s.take c.At.toNat).drop p.2++c.Put),(c.At+c.Cut).toNat) else p
def rpL (s:List UInt8) (i:Int) (l:List Ab):List UInt8×Nat:=l.foldl (rpD s i) ([],0)
theorem Ol (s:List UInt8) (i:Int) (l:List Ab) (c:Ab):rpL s i (l++[c])=rpD s i (rpL s i l) c:=by unfold rpL;rw [List.foldl_append];rfl
structure JcX (s:List UInt8) (i:Int) (L:List Ab):Prop where
 tl:s.length<=400
 len:L.length<=100
 ok:∀ c∈L,Okc 1000 c/\0<=c.Cut
 frs:Frs L
 fit:∀ c∈L,c.Block=i->M3 s c=true
theorem SH {s:List UInt8} {i:Int} {L:List Ab} (h:JcX s i L):∀ m,m<=L.length->((rpL s i (L.take m)).2<=s.length/\D3 i (L.take m)=((rpL s i (L.take m)).1.length:Int)-((rpL s i (L.take m)).2:Int))/\∀ c∈L.drop m,c.Block=i->((rpL s i (L.take m)).2:Int)<=c.At
 | 0,_=>by
  refine ⟨⟨Nat.zero_le _,rfl⟩,λ c hc hb=>?_⟩
  have:=H1.1 (h.fit c (by simpa using hc) hb)
  exact this.1.1
 | m+1,hm=>by
  have hlt:m<L.length:=by omega
  obtain ⟨⟨i1,i2⟩,i3⟩:=SH h m (by omega)
  rw [List.take_succ_eq_append_getElem hlt,Ol,Sn]
  have hmem:=JmB hlt
  have hok:=(h.ok _ hmem)
  have hdr:L[m]∈L.drop m:=by rw [List.drop_eq_getElem_cons hlt];exact List.mem_cons_self ..
  by_cases hB:L[m].Block=i
  ·have hf:=H1.1 (h.fit _ hmem hB)
   have hat:=i3 _ hdr hB
   have e:rpD s i (rpL s i (L.take m)) L[m]=((rpL s i (L.take m)).1++((s.take L[m].At.toNat).drop (rpL s i (L.take m)).2++L[m].Put),(L[m].At+L[m].Cut).toNat):=by unfold rpD;rw [if_pos hB]
   rw [e]
   refine ⟨⟨by show (L[m].At+L[m].Cut).toNat<=_;omega,?_⟩,λ c hc hb=>?_⟩
   ·rw [i2]
    simp only [D3,if_pos hB,List.length_append,List.length_drop,List.length_take]
    omega
   ·have hp:=h.frs
    unfold Frs at hp
    rw [← List.take_append_drop (m+1) L,List.pairwise_append] at hp
    have hq:=hp.2.2 L[m] (by rw [List.take_succ_eq_append_getElem hlt];exact List.mem_append_right _ (List.mem_singleton_self _)) c hc
    have:=(Sl.1 (Wm hok.2 (h.ok c (List.mem_of_mem_drop hc)).2 hq.1 hq.2 (hB.trans hb.symm)).1).2
    show (((L[m].At+L[m].Cut).toNat:Nat):Int)<=c.At
    omega
  ·have e:rpD s i (rpL s i (L.take m)) L[m]=rpL s i (L.take m):=by unfold rpD;rw [if_neg hB]
   rw [e]
   refine ⟨⟨i1,?_⟩,λ c hc hb=>i3 c ?_ hb⟩
   ·rw [i2];simp [D3,hB]
   ·rw [List.drop_eq_getElem_cons hlt];exact List.mem_cons_of_mem _ hc
theorem X7 {s:List UInt8} {i:Int} {L:List Ab} (h:JcX s i L) {m:Nat} (hm:m<=L.length):(rpL s i (L.take m)).1.length<=300000:=by
 obtain ⟨⟨i1,i2⟩,_⟩:=SH h m hm
 have hb:=U1 (b:=i) (l:=L.take m) λ c hc=>(h.ok c (List.mem_of_mem_take hc)).1
 have h1:=h.tl
 have h2:=h.len
 have:(L.take m).length<=100:=by rw [List.length_take];omega
 omega
theorem WO {s:List UInt8} {i:Int} {L:List Ab} (h:JcX s i L):Ev (λ n=>Id n s L i) ((rpL s i L).1++s.drop (rpL s i L).2):=by
 have hs:=h.tl
 have hLl:=h.len
 have hfull:rpL s i (L.take L.length)=rpL s i L:=by rw [List.take_length]
 refine Tot.ev (Tot.bind (R:=λ y:List UInt8×Int=>y=((rpL s i L).1,((rpL s i L).2:Int))) ?_ λ y hy=>?_)
 ·refine Tot.upto L.length (λ m (x:List UInt8×Int×Int)=>x.2.2=(m:Int)/\x.1=(rpL s i (L.take m)).1/\x.2.1=((rpL s i (L.take m)).2:Int)) ?_ ?_ _ ⟨rfl,rfl,rfl⟩
  ·rintro m ⟨o,a,x⟩ hm ⟨h1,h2,h3⟩
   simp only at h1 h2 h3
   subst h1 h2 h3
   obtain ⟨⟨i1,i2⟩,i3⟩:=SH h m (by omega)
   have hpl:=X7 h (m:=m) (by omega)
   have hmem:=JmB hm
   have hdr:L[m]∈L.drop m:=by rw [List.drop_eq_getElem_cons hm];exact List.mem_cons_self ..
   unfold Dr
   rw [List.take_succ_eq_append_getElem hm,Ol]
   refine Tot.iteT (D4 hm) (Tot.bindC (AD hm) ?_)
   by_cases hB:L[m].Block=i
   ·have hf:=H1.1 (h.fit _ hmem hB)
    have hat:=i3 _ hdr hB
    have hok:=(h.ok _ hmem).1
    unfold Okc at hok
    have e:rpD s i (rpL s i (L.take m)) L[m]=((rpL s i (L.take m)).1++((s.take L[m].At.toNat).drop (rpL s i (L.take m)).2++L[m].Put),(L[m].At+L[m].Cut).toNat):=by unfold rpD;rw [if_pos hB]
    rw [e]
    refine Tot.iteT ?_ (Tot.bindC (Hm (show (0:Int)<=((rpL s i (L.take m)).2:Int) by omega) (show ((rpL s i (L.take m)).2:Int)<=L[m].At by omega) (by omega)) (Tot.bindC (MX ?_) (Tot.bindC (MX ?_) (Tot.pure ⟨An (by omega),rfl,?_⟩))))
    ·rw [JmN,JmN,beq_iff_eq,decide_eq_true_eq,decide_eq_true_eq,Cq (by omega) (by omega)]
     exact ⟨⟨hB,hat⟩,by omega⟩
    ·simp only [List.length_drop,List.length_take];omega
    ·simp only [List.length_append,List.length_drop,List.length_take];omega
    ·show Ai .i64 L[m].At L[m].Cut=(((L[m].At+L[m].Cut).toNat:Nat):Int)
     rw [DG (by omega) (by omega)];omega
   ·have e:rpD s i (rpL s i (L.take m)) L[m]=rpL s i (L.take m):=by unfold rpD;rw [if_neg hB]
    rw [e]
    exact Tot.iteF (by rw [show (L[m].Block==i)=false by simpa using hB];rfl) (Tot.pure ⟨An (by omega),rfl,rfl⟩)
  ·rintro ⟨o,a,x⟩ ⟨h1,h2,h3⟩
   simp only at h1 h2 h3
   subst h1
   unfold Dr
   rw [hfull] at h2 h3
   exact Tot.iteF (Cr _) (Tot.pure (show (o,a)=_ by rw [h2,h3]))
 ·subst hy
  obtain ⟨⟨i1,i2⟩,i3⟩:=SH h L.length (JmD _)
  have hpl:=X7 h (m:=L.length) (JmD _)
  rw [hfull] at i1 hpl
  refine Tot.bindC (Hm (by omega) (show ((rpL s i L).2:Int)<=((s.length:Nat):Int) by omega) (Int.le_refl _)) (Tot.bindC (MX ?_) (Tot.pure ?_))
  ·simp only [List.length_drop,List.length_take];omega
  ·simp
def stT (s:List UInt8) (i:Int) (l:List Ab):List UInt8:=(rpL s i l).1++s.drop (rpL s i l).2
theorem JfF {s:List UInt8} {i:Int} {L:List Ab} (h:JcX s i L) {m:Nat} (hm:m<L.length) (hB:L[m].Block=i) :
  M3 (stT s i (L.take m)) (mvC (D3 i (L.take m)) L[m])=true/\L3 (stT s i (L.take m)) (mvC (D3 i (L.take m)) L[m])=stT s i (L.take (m+1)):=by
 obtain ⟨⟨i1,i2⟩,i3⟩:=SH h m (by omega)
 have hmem:=JmB hm
 have hdr:L[m]∈L.drop m:=by rw [List.drop_eq_getElem_cons hm];exact List.mem_cons_self ..
 have hf:=H1.1 (h.fit _ hmem hB)
 have hat:=i3 _ hdr hB
 have e:rpD s i (rpL s i (L.take m)) L[m]=((rpL s i (L.take m)).1++((s.take L[m].At.toNat).drop (rpL s i (L.take m)).2++L[m].Put),(L[m].At+L[m].Cut).toNat):=by unfold rpD;rw [if_pos hB]
 rw [i2]
 unfold stT
 rw [List.take_succ_eq_append_getElem hm,Ol,e]
 generalize rpL s i (L.take m)=P at *
 obtain ⟨o,a⟩:=P
 simp only at *
 generalize L[m]=c at *
 refine ⟨?_,?_⟩
 ·rw [H1]
  unfold mvC
  simp only [List.length_append,List.length_drop]
  omega
 ·have hs:s.drop a=(s.take c.At.toNat).drop a++((s.take (c.At+c.Cut).toNat).drop c.At.toNat++s.drop (c.At+c.Cut).toNat):=by
   have e1:s=(s.take c.At.toNat++Jfw s c)++s.drop (c.At+c.Cut).toNat:=Jj0 (H1.2 hf)
   have hal:a<=(s.take c.At.toNat).length:=by rw [List.length_take];omega
   have e2:s.drop a=((s.take c.At.toNat++Jfw s c)++s.drop (c.At+c.Cut).toNat).drop a:=congrArg (List.drop a) e1
   rw [e2,List.append_assoc,List.drop_append_of_le_length hal]
   rfl
  rw [hs]
  have:=JlC (o++(s.take c.At.toNat).drop a) ((s.take (c.At+c.Cut).toNat).drop c.At.toNat) (s.drop (c.At+c.Cut).toNat) (c:=mvC ((o.length:Int)-(a:Int)) c) (by unfold mvC;simp only [List.length_append,List.length_drop,List.length_take];omega) (by unfold mvC;simp only [List.length_drop,List.length_take];omega)
  simp only [List.append_assoc] at this ⊢
  exact this
theorem JcY {L:List Ab} {m:Nat} (hm:m<L.length):(CK [] L)[m]? = some (mvC (D3 L[m].Block (L.take m)) L[m]):=by
 have hd:L=L.take m++L[m]::L.drop (m+1):=by rw [← List.drop_eq_getElem_cons hm,List.take_append_drop]
 have e:CK [] L=CK [] (L.take m)++(mvC (D3 L[m].Block (L.take m)) L[m]::CK (L.take m++[L[m]]) (L.drop (m+1))):=by
  have:=TC [] (L.take m) (L[m]::L.drop (m+1))
  rw [← hd] at this
  exact this
 rw [e,Jm3 (by rw [I2,List.length_take];omega),I2,List.length_take,Nat.min_eq_left (by omega),Nat.sub_self]
 rfl
theorem Jkc {l:List Bd} {x:List AS} {k:Int} (hl:∀ z∈l,RwB z) (hx:∀ z∈x,RwC z) (hk:U8 k):Tot (λ n=>Fp n l x k) (λ z=>z=true):=by
 refine Tot.bindE Jai (Tot.bind (Jfy hl) λ b hb=>Tot.bind (ZY (k:=6) hb.bkt hx (by decide)) λ w hw=>?_)
 have hW:WOK w:=⟨by omega,λ y hy=>(hw.2 y hy).ok (by decide),λ y hy=>(hw.2 y hy).cut0⟩
 have hwl:=hw.1
 have hal:=U0 w
 unfold U8 at hk
 obtain ⟨K,rfl⟩:∃ K:Nat,k=(K:Int):=⟨k.toNat,by omega⟩
 refine Tot.bindE (U2 hW) (Tot.bindE (x:=trn w K) ?_ ?_)
 ·refine Tot.ev (Tot.upto w.length (λ i (y:List AB×Int)=>y.2=(i:Int)/\y.1=(List.range i).map λ i=>w.getD ((i+K) % w.length) default) ?_ ?_ _ ⟨rfl,rfl⟩)
  ·rintro i ⟨t,y⟩ hi ⟨h1,h2⟩
   simp only at h1 h2
   subst h1 h2
   unfold Cw
   rw [u8w (n:=(K:Int)) hk]
   have e:Al (Ai .i64 (i:Int) (K:Int)) ((w.length:Nat):Int)=(((i+K) % w.length:Nat):Int):=by
    rw [DG (by omega) (by omega),(BF (by omega) (by omega)).1]
    rw [← Int.natCast_add,← Int.natCast_emod]
   rw [e]
   refine Tot.iteT (D4 hi) (Tot.bindC (Hp (by omega)) (Tot.bindC (SF (Nat.mod_lt _ (by omega))) (Tot.bindC (A9 (by simp;omega)) (Tot.pure ⟨An (by omega),?_⟩))))
   rw [List.range_succ,List.map_append];rfl
  ·rintro ⟨t,y⟩ ⟨h1,h2⟩
   simp only at h1 h2
   subst h1 h2
   unfold Cw
   exact Tot.iteF (Cr _) (Tot.pure rfl)
 ·have hT:WOK (trn w K):=by
   have hm:∀ y∈trn w K,y∈w:=λ y hy=>by
    unfold trn at hy
    rw [JmG] at hy
    obtain ⟨i,hi,rfl⟩:=hy
    rw [List.mem_range] at hi
    exact QH (Nat.mod_lt _ (by omega))
   exact ⟨by rw [U3];omega,λ y hy=>hW.ok y (hm y hy),λ y hy=>hW.cut y (hm y hy)⟩
  have eA:(jnS (trn w K)).Agreed=(jnS w).Agreed:=by
   show CK [] (agL (trn w K))=CK [] (agL w)
   rw [Jkb]
  refine Tot.bindE (U2 hT) ?_
  rw [eA]
  have hcl:((jnS w).Agreed).length=(agL w).length:=I2 _ _
  refine Tot.bindE (PX (by omega)) (Tot.iteF (by rw [decide_eq_false (by omega)];rfl) (Tot.bindE (X5 hW) (Tot.bind (R:=λ y=>y=.inl ()) ?_ λ y hy=>by subst hy;exact Tot.pure rfl)))
  have hbl:=hb.len
  refine Tot.upto b.length (λ i (x:Int)=>x=(i:Int)) (λ i x hi hx=>?_) (λ x hx=>?_) _ rfl
  ·subst hx
   unfold Cz
   refine Tot.iteT (D4 hi) (Tot.bindA (λ n=>TG n b _) (Tot.ite (λ _=>Tot.pure (An (by omega))) λ hwd=>?_))
   have hwd:wdB b (i:Int)=true:=by simpa using hwd
   have hF:JcX (CQ b (i:Int)).Text (i:Int) (agL w):=by
    refine ⟨hb.bkt.blk _,by omega,SG hW,Oj w,λ c hc hB=>?_⟩
    obtain ⟨j,⟨hj,_⟩,rfl⟩:=JB.1 (JC.1 hc)
    have hm:=hw.2 _ (QH hj)
    have h1:=(hm.wd ⟨_,hwd⟩).2
    rw [H1]
    refine ⟨⟨hm.at0,hm.cut0⟩,?_⟩
    have hB:(w.getD j default).C.Block=(i:Int):=hB
    rw [hB] at h1
    exact h1
   have hsl:=hF.tl
   refine Tot.bindC (Lx (GK.1 hwd).1.1 (GK.1 hwd).1.2) (Tot.bind (R:=λ y=>y=.inl (stT (CQ b (i:Int)).Text (i:Int) (agL w))) ?_ λ y hy=>?_)
   ·refine Tot.upto (agL w).length (λ m (x:List UInt8×Int)=>x.2=(m:Int)/\x.1=stT (CQ b (i:Int)).Text (i:Int) ((agL w).take m)) ?_ ?_ _ ⟨rfl,by simp [stT,rpL]⟩
    ·rintro m ⟨s,x⟩ hm ⟨h1,h2⟩
     simp only at h1 h2
     subst h1 h2
     unfold Cy
     have gi:idx (jnS w).Agreed (m:Int)=some (mvC (D3 (agL w)[m].Block ((agL w).take m)) (agL w)[m]):=Jcd (JcY hm)
     have hmem:=JmB hm
     have hok:=(SG hW _ hmem).1
     refine Tot.iteT (by rw [hcl];exact D4 hm) (Tot.bindC gi ?_)
     by_cases hB:(agL w)[m].Block=(i:Int)
     ·have hn:=JfF hF hm hB
      have hpl:=X7 hF (m:=m) (by omega)
      have hmv:=U1 (b:=(i:Int)) (l:=(agL w).take m) λ c hc=>(SG hW c (List.mem_of_mem_take hc)).1
      have htl:((agL w).take m).length<=100:=by rw [List.length_take];omega
      rw [hB] at gi ⊢
      refine Tot.iteF (by show ((agL w)[m].Block != (i:Int))=false;rw [hB];simp) (Tot.bindC gi (Tot.bindA (λ n=>JcM n ?_ ?_) ?_))
      ·unfold mvC Okc at *
       simp only
       omega
      ·unfold stT
       rw [List.length_append,List.length_drop];omega
      ·rw [if_pos hn.1]
       exact Tot.iteF rfl (Tot.pure ⟨An (by omega),hn.2⟩)
     ·refine Tot.iteT (by show ((agL w)[m].Block != (i:Int))=true;simpa using hB) (Tot.pure ⟨An (by omega),?_⟩)
      unfold stT
      rw [List.take_succ_eq_append_getElem hm,Ol]
      have e:rpD (CQ b (i:Int)).Text (i:Int) (rpL (CQ b (i:Int)).Text (i:Int) ((agL w).take m)) (agL w)[m]=rpL (CQ b (i:Int)).Text (i:Int) ((agL w).take m):=by unfold rpD;rw [if_neg hB]
      rw [e]
    ·rintro ⟨s,x⟩ ⟨h1,h2⟩
     simp only at h1 h2
     subst h1 h2
     unfold Cy
     refine Tot.iteF (by rw [hcl];exact Cr _) (Tot.pure ?_)
     show _=_
     rw [List.take_length]
   ·subst hy
    refine Tot.bindC (Lx (GK.1 hwd).1.1 (GK.1 hwd).1.2) (Tot.bindE (WO hF) (Tot.iteF ?_ (Tot.pure (An (by omega)))))
    unfold stT
    simp
  ·subst hx
   unfold Cz
   exact Tot.iteF (Cr _) (Tot.pure rfl)
end Go.AI
end
section
namespace Go.AI
theorem JfG:∀ (l:List Bd) (x:List AS) (k:Int),(l.length<=9223372036854775807/\∀ a∈l,HX a)->(x.length<=9223372036854775807/\∀ a∈x,C8 a)->okI .u8 k->∃ n,Fp n l x k=some true:=λ _ _ _ hl hx hk=>(Jkc (λ y hy=>Jka (hl.2 y hy)) (λ y hy=>Jj9 (hx.2 y hy)) (Hq hk)).out
end Go.AI
end
section
namespace Go.Proofs.YtbegmnhifelfoaaGreat
open Go.AI Go.ChangeShapes Go.WideShapes Go.ChangeAt Go.RowKit
theorem own:ownKnob Tryz.prog.godebug=none:=by kernel_rfl
set_option maxRecDepth 100000 in
theorem Jkd (os:Os) (started:os.Started) (H:Type) (enc:TypeId×Value->H) :
  ReturnsInHanded {} Tryz.checked os 6 .any (Rows.carryAgreesSpec.pre6 enc Tryz.prog Tryz.f6 Rows.carryAgreesRow.domain false) (Rows.carryAgreesSpec.post enc Tryz.prog Tryz.f6 false true false false):=by
 refine returnsInHanded_of_change (C:=Tryz.checked) own started (by kernel_rfl) Tryz.func6
  (ChangeSpec.witness6 (enc:=enc) (C:=Tryz.checked) false ⟨#[],#[.slice none 0 0,.slice none 0 0,.int .u8 0],[]⟩ 8 (by kernel_rfl) (by kernel_rfl) (by kernel_rfl) (by kernel_rfl)) ?_
 intro W base args ds gs before hval0 hW hcnd _
 have hval:∀ (j:Nat) t v,Tryz.f6.params[j]? = some t->args[j]? = some v->Value.okWide Tryz.prog W .any base t v:=hval0
 have hW':=hW
 obtain ⟨p,q,hA0,hV,rfl,hfz,hnd⟩:=hW
 have hA:DataW.TrodAll enc Tryz.prog W 0 (λ _=>true) true Tryz.f6.params.toList args.toList ds p:=hA0
 have hlt:=hA.lt
 rw [Tryz.params6] at hA hval
 obtain ⟨v0,vs0,d0,ds0,p0,q0,hargs,rfl,rfl,h0,r0⟩:=trodAll_cons hA
 obtain ⟨v1,vs1,d1,ds1,p1,q1,rfl,rfl,rfl,h1,r1⟩:=trodAll_cons r0
 obtain ⟨v2,vs2,d2,ds2,p2,q2,rfl,rfl,rfl,h2,r2⟩:=trodAll_cons r1
 obtain ⟨rfl,rfl,rfl⟩:=trodAll_nil r2
 obtain rfl:args=#[v0,v1,v2]:=by cases args;simp_all
 obtain ⟨rfl,rfl⟩:=trodVars_none hV
 obtain ⟨x0,y0,z0,hc0⟩:=okWide_slice Tryz.underlying22 (hval 0 22 v0 rfl rfl)
 obtain ⟨a0,k0,rep0⟩:=UM (y:=λ a=>.sl (a.map BO)) (by rw [hc0];rfl) h0 Jmm (λ _=>rfl)
 obtain ⟨x1,y1,z1,hc1⟩:=okWide_slice Tryz.underlying45 (hval 1 45 v1 rfl rfl)
 obtain ⟨a1,k1,rep1⟩:=UM (y:=λ a=>.sl (a.map A8)) (by rw [hc1];rfl) h1 Jmo (λ _=>rfl)
 obtain ⟨x2,hc2⟩:=okWide_int Tryz.underlying5 (hval 2 5 v2 rfl rfl)
 obtain ⟨a2,k2,rep2⟩:=UM (y:=λ a=>.int .u8 a) (by rw [hc2];rfl) h2 rd5 (λ _=>rfl)
 clear hA0 hval0
 simp only [List.append_nil] at hW' hlt
 obtain ⟨n,hn⟩:=JfG a0 a1 a2 k0 k1 k2
 refine (Jca (LU hn) (UN rep0 (UN rep1 (UN rep2 JjN)))).mono λ e W' ⟨he,hg,hold⟩=>?_
 subst he
 exact ⟨_,rfl,ZO (pv:=[]) hW' (λ _ _ _=>(trodAll_cons_mk (shut_bool Tryz.underlying4 _) trodAll_mk0)) (λ sp hsp=>trodAll_cons_mk (Jcb (by kernel_rfl) (by kernel_rfl) (of_decide_eq_true (by kernel_rfl)) h0 (λ p hp=>hlt p (by simp [hp])) (λ p hp=>hsp p (by simp [hp])) hold) (trodAll_cons_mk (Jcb (by kernel_rfl) (by kernel_rfl) (of_decide_eq_true (by kernel_rfl)) h1 (λ p hp=>hlt p (by simp [hp])) (λ p hp=>hsp p (by simp [hp])) hold) (trodAll_cons_mk (Jcb (by kernel_rfl) (by kernel_rfl) (of_decide_eq_true (by kernel_rfl)) h2 (λ p hp=>hlt p (by simp [hp])) (λ p hp=>hsp p (by simp [hp])) hold) trodAll_mk0))) (λ _ _=>rfl) (by simp) (hg _) hold (ok_one (by kernel_rfl) rfl (okWide_bool_mk Tryz.underlying4 _))⟩
theorem Jms:Rows.carryAgreesRow.holds Tryz.pinned (OpenSpec.ofChange Rows.carryAgreesSpec):=
 OpenClaim.holds_of_wide 6 Tryz.f6 rfl rfl rfl rfl rfl rfl rfl ⟨rfl,rfl,rfl,rfl,rfl⟩ rfl rfl rfl rfl rfl (by kernel_rfl) Tryz.func6 (by kernel_rfl)
  (of_decide_eq_true (by kernel_rfl)) (by unfold Func.isWrapper;first|(rw [if_pos (by decide +kernel)];kernel_rfl)|(rw [if_neg (by decide +kernel)];exact ⟨rfl,rfl⟩))
  (λ os started H enc _=>Jkd os started H enc)
theorem carryAgrees_holds:Rows.CarryAgreesSaid:=Jms
end Go.Proofs.YtbegmnhifelfoaaGreat
end
