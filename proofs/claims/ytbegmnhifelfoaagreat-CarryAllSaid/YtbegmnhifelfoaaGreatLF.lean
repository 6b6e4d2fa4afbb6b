/- The theorem: the last one of this text; part 6 of 6 of its proof. It holds with no condition beyond the given statement. -/
import Derived.Test.YtbegmnhifelfoaaGreatLE
import Derived.Test.YtbegmnhifelfoaaGreatRows
section
namespace Go.AI
def Nr (p:Aa):Prop:=(-1000<=p.X/\p.X<=1000)/\-1000<=p.Y/\p.Y<=1000
theorem JeK {a b:Int} (A B:Int) (h1:-A<=a) (h2:a<=A) (h3:-B<=b) (h4:b<=B):-(A*B)<=a*b/\a*b<=A*B:=by
 have hA:a.natAbs<=A.toNat:=by omega
 have hB:b.natAbs<=B.toNat:=by omega
 have h:=Nat.mul_le_mul hA hB
 rw [← Int.natAbs_mul] at h
 have e:((A.toNat*B.toNat:Nat):Int)=A*B:=by
  rw [Int.natCast_mul,Int.toNat_of_nonneg (by omega),Int.toNat_of_nonneg (by omega)]
 omega
theorem Zp (P:List Aa) {i:Nat} (h:i<P.length):P.getD i default∈P:=by
 rw [Jl7,JlY h]
 exact JlN _
def MH (a b:Aa):Nat:=max (a.X-b.X).natAbs (a.Y-b.Y).natAbs
def btw (a b:Int) (k n:Nat):Int:=(2*(a*n+k*(b-a))+n) / (2*n)
def ptL (a b:Aa) (k:Nat):Aa:=⟨btw a.X b.X k (MH a b),btw a.Y b.Y k (MH a b)⟩
def KQ (a b:Aa):List Aa:=if MH a b=0 then [a] else (List.range (MH a b+1)).map (ptL a b)
theorem Uf {a b:Aa} (ha:Nr a) (hb:Nr b):MH a b<=2000:=by
 unfold MH;unfold Nr at ha hb;omega
theorem Zq {a d:Int} (hd:0<d):(if decide (Ak a d<0)=true then a.tdiv d-1 else a.tdiv d)=a / d:=by
 unfold Ak
 have h1:=Int.mul_tdiv_add_tmod a d
 have h2:=Int.mul_ediv_add_emod a d
 have h3:=Int.emod_nonneg a (show d≠0 by omega)
 have h4:=Int.emod_lt_of_pos a hd
 rcases Int.lt_or_le a 0 with ha|ha
 ·have h5:a.tmod d<=0:=by
   have:=Int.tmod_nonneg d (a:=-a) (by omega)
   rw [Int.neg_tmod] at this
   omega
  have h6:-d<a.tmod d:=by
   have:=Int.lt_tmod_of_pos a hd
   omega
  split
  ·rename_i h
   have h:=of_decide_eq_true h
   refine Eq.symm (Int.ediv_eq_iff_of_pos hd |>.2 ?_)
   have:d*(a.tdiv d-1)=d*a.tdiv d-d:=by rw [Int.mul_sub,Int.mul_one]
   constructor
   ·rw [Int.mul_comm];omega
   ·rw [Int.mul_comm];omega
  ·rename_i h
   have h:¬a.tmod d<0:=λ hh=>h (decide_eq_true hh)
   refine Eq.symm (Int.ediv_eq_iff_of_pos hd |>.2 ?_)
   constructor
   ·rw [Int.mul_comm];omega
   ·rw [Int.mul_comm];omega
 ·have h5:=Int.tmod_nonneg d ha
  rw [if_neg (by simpa using h5)]
  exact Int.tdiv_eq_ediv_of_nonneg ha
theorem Ji5 {a b:Int} {k n:Nat} (ha:-1000<=a) (ha':a<=1000) (hb:-1000<=b) (hb':b<=1000) (hk:k<=2000) (hn:n<=2000) :
  (BU .i64 a n=a*n/\AT .i64 b a=b-a/\BU .i64 k (b-a)=k*(b-a)/\Aj .i64 (a*n) (k*(b-a))=a*n+k*(b-a) /\
  BU .i64 2 (a*n+k*(b-a))=2*(a*n+k*(b-a))/\Aj .i64 (2*(a*n+k*(b-a))) n=2*(a*n+k*(b-a))+n/\BU .i64 2 n=2*n) /\
  -20000000<=2*(a*n+k*(b-a))+n/\2*(a*n+k*(b-a))+n<=20000000:=by
 have h1:=JeK (a:=a) (b:=n) 1000 2000 ha ha' (by omega) (by omega)
 have h2:=JeK (a:=k) (b:=b-a) 2000 2000 (by omega) (by omega) (by omega) (by omega)
 exact ⟨⟨F5 (by omega) (by omega),CC (by omega) (by omega),F5 (by omega) (by omega),EG (by omega) (by omega),F5 (by omega) (by omega),EG (by omega) (by omega),F5 (by omega) (by omega)⟩,by omega,by omega⟩
theorem Ji6 {a d:Int} (h:-20000000<=a) (h':a<=20000000):-20000000<=a.tdiv d/\a.tdiv d<=20000000:=by
 have:=Int.natAbs_tdiv_le_natAbs a d
 omega
theorem VV (m:Nat) {a b:Int} {k n:Nat} (ha:-1000<=a) (ha':a<=1000) (hb:-1000<=b) (hb':b<=1000) (hk:k<=2000) (hn:n<=2000) (h0:0<n) :
  GM m (Aj .i64 (BU .i64 2 (Aj .i64 (BU .i64 a n) (BU .i64 k (AT .i64 b a)))) n) (BU .i64 2 n)=some (btw a b k n):=by
 obtain ⟨⟨e1,e2,e3,e4,e5,e6,e7⟩,l1,l2⟩:=Ji5 ha ha' hb hb' hk hn
 unfold GM Fh btw
 rw [e1,e2,e3,e4,e5,e6,e7]
 have hz:(!(2*(n:Int)==0))=true:=by simp;omega
 rw [hz]
 have q:=Ji6 (d:=2*n) l1 l2
 have e8:Du .i64 (2*(a*n+k*(b-a))+n) (2*n)=(2*(a*n+k*(b-a))+n).tdiv (2*n):=w64 (by omega) (by omega)
 rw [e8,CC (by omega) (by omega)]
 have:=Zq (a:=2*(a*n+k*(b-a))+n) (d:=2*n) (by omega)
 rw [← this]
 simp only [JbE,JlH]
 split<;>rfl
theorem JbS (m:Nat) {a b:Aa} (ha:Nr a) (hb:Nr b):GL m a b=some ((MH a b:Nat):Int):=by
 unfold Nr at ha hb
 unfold GL Ih MH
 simp only [JlH]
 rw [CC (a:=a.X) (by omega) (by omega),CC (a:=a.Y) (by omega) (by omega)]
 unfold JfN
 rw [w64 (a:=0-(a.X-b.X)) (by omega) (by omega),w64 (a:=0-(a.Y-b.Y)) (by omega) (by omega)]
 congr 1
 split<;>split<;>split<;>omega
theorem RP {α:Type} (f:Nat->α) (i:Nat):(List.range (i+1)).map f=(List.range i).map f++[f i]:=by
 rw [List.range_succ,List.map_append];rfl
theorem Zr {a b:Aa} (ha:Nr a) (hb:Nr b):Ev (λ n=>N5 n a b) (KQ a b):=by
 have hf:=Uf ha hb
 have ha':=ha
 have hb':=hb
 unfold Nr at ha' hb'
 refine Tot.ev (Tot.bindA (λ n=>JbS n ha hb) ?_)
 unfold KQ
 by_cases h0:MH a b=0
 ·rw [if_pos h0,h0]
  exact Tot.iteT rfl (Tot.pure rfl)
 ·rw [if_neg h0]
  refine Tot.iteF (by simpa using h0) ?_
  refine Tot.bind (R:=λ y=>y=(List.range (MH a b+1)).map (ptL a b)) (Tot.upto (MH a b+1) (λ i (x:List Aa×Int)=>x.2=(i:Int)/\x.1=(List.range i).map (ptL a b)) ?_ ?_ _ ⟨rfl,rfl⟩) λ y hy=>Tot.pure hy
  ·rintro i ⟨l,k⟩ hi ⟨hk,hl⟩
   simp only at hk hl
   subst hk hl
   unfold Gl
   refine Tot.iteT (decide_eq_true (by omega)) (Tot.bindA (λ n=>VV n (by omega) (by omega) (by omega) (by omega) (by omega) hf (by omega)) (Tot.bindA (λ n=>VV n (by omega) (by omega) (by omega) (by omega) (by omega) hf (by omega)) (Tot.bindC (Bf ?_) (Tot.pure ⟨Aq (by omega),?_⟩))))
   ·simp;omega
   ·rw [RP];rfl
  ·rintro ⟨l,k⟩ ⟨hk,hl⟩
   simp only at hk hl
   subst hk hl
   unfold Gl
   exact Tot.iteF (decide_eq_false (by omega)) (Tot.pure rfl)
theorem JbT {a b p:Aa}:p∈KQ a b↔(MH a b=0/\p=a)\/(MH a b≠0/\∃ k,k<=MH a b/\p=ptL a b k):=by
 unfold KQ
 split
 ·rename_i h;simp [h]
 ·rename_i h
  simp only [JlS,List.mem_range,h,false_and,false_or,ne_eq,not_false_eq_true,true_and]
  constructor
  ·rintro ⟨k,hk,rfl⟩;exact ⟨k,by omega,rfl⟩
  ·rintro ⟨k,hk,rfl⟩;exact ⟨k,by omega,rfl⟩
theorem JbU {a b m:Int} {k n:Nat} (h:0<n) (hk:k<=n) (ha:m<=a) (hb:m<=b):m<=btw a b k n:=by
 unfold btw
 rw [Int.le_ediv_iff_mul_le (by omega)]
 have e:a*n+k*(b-a)=a*(n-k:Nat)+k*b:=by
  have:((n-k:Nat):Int)=n-k:=by omega
  rw [this,Int.mul_sub,Int.mul_sub,Int.mul_comm (k:Int) a];omega
 rw [e]
 have h1:m*(n-k:Nat)<=a*(n-k:Nat):=Int.mul_le_mul_of_nonneg_right ha (by omega)
 have h2:k*m<=k*b:=Int.mul_le_mul_of_nonneg_left hb (by omega)
 have h3:m*(2*(n:Int))=2*(m*(n-k:Nat)+k*m):=by
  have:((n-k:Nat):Int)=n-k:=by omega
  rw [this,Int.mul_sub,Int.mul_comm (k:Int) m,Int.sub_add_cancel,← Int.mul_assoc,Int.mul_comm m 2,Int.mul_assoc]
 omega
theorem JbV {a b m:Int} {k n:Nat} (h:0<n) (hk:k<=n) (ha:a<=m) (hb:b<=m):btw a b k n<=m:=by
 unfold btw
 have:(2*(a*n+k*(b-a))+n) / (2*(n:Int))<m+1:=by
  rw [Int.ediv_lt_iff_lt_mul (by omega)]
  have e:a*n+k*(b-a)=a*(n-k:Nat)+k*b:=by
   have:((n-k:Nat):Int)=n-k:=by omega
   rw [this,Int.mul_sub,Int.mul_sub,Int.mul_comm (k:Int) a];omega
  rw [e]
  have h1:a*(n-k:Nat)<=m*(n-k:Nat):=Int.mul_le_mul_of_nonneg_right ha (by omega)
  have h2:k*b<=k*m:=Int.mul_le_mul_of_nonneg_left hb (by omega)
  have h3:m*(2*(n:Int))=2*(m*(n-k:Nat)+k*m):=by
   have:((n-k:Nat):Int)=n-k:=by omega
   rw [this,Int.mul_sub,Int.mul_comm (k:Int) m,Int.sub_add_cancel,← Int.mul_assoc,Int.mul_comm m 2,Int.mul_assoc]
  rw [Int.add_mul,h3]
  omega
 omega
theorem VW (a b:Aa):(KQ a b).length=MH a b+1:=by
 unfold KQ
 split
 ·rename_i h;rw [h];rfl
 ·simp
def In (m n:Aa) (p:Aa):Prop:=(m.X<=p.X/\p.X<=n.X)/\m.Y<=p.Y/\p.Y<=n.Y
theorem JeL {a b p m n:Aa} (h:p∈KQ a b) (ha:In m n a) (hb:In m n b):In m n p:=by
 rw [JbT] at h
 rcases h with ⟨h,rfl⟩|⟨h,k,hk,rfl⟩
 ·exact ha
 ·exact ⟨⟨JbU (by omega) hk ha.1.1 hb.1.1,JbV (by omega) hk ha.1.2 hb.1.2⟩,JbU (by omega) hk ha.2.1 hb.2.1,JbV (by omega) hk ha.2.2 hb.2.2⟩
end Go.AI
end
section
namespace Go.AI
def crS (a b q:Aa):Int:=(q.Y-a.Y)*(b.X-a.X)-(q.X-a.X)*(b.Y-a.Y)
def OnP (a b q:Aa):Prop:=crS a b q=0/\(min a.X b.X<=q.X/\q.X<=max a.X b.X)/\min a.Y b.Y<=q.Y/\q.Y<=max a.Y b.Y
instance (a b q:Aa):Decidable (OnP a b q):=by unfold OnP;infer_instance
def psS (a b q:Aa):Bool:=(decide (a.Y<=q.Y) != decide (b.Y<=q.Y))&&(bif decide (a.Y<b.Y) then decide (0<crS a b q) else decide (crS a b q<0))
def sd (P:List Aa) (i:Nat):Aa×Aa:=(P.getD i default,P.getD ((i+1) % P.length) default)
def onB (P:List Aa) (q:Aa) (i:Nat):Bool:=decide (OnP (sd P i).1 (sd P i).2 q)
def psB (P:List Aa) (q:Aa) (i:Nat):Bool:=psS (sd P i).1 (sd P i).2 q
def VX (P:List Aa) (q:Aa) (i:Nat):Nat:=(List.range i).countP (psB P q)
def OL (P:List Aa) (q:Aa):Bool:=(List.range P.length).any (onB P q)||decide (VX P q P.length % 2=1)
theorem X8 (a b q:Aa):crS b a q=-crS a b q:=by
 unfold crS
 have e1:q.Y-b.Y=(q.Y-a.Y)-(b.Y-a.Y):=by omega
 have e2:q.X-b.X=(q.X-a.X)-(b.X-a.X):=by omega
 have e3:a.X-b.X=-(b.X-a.X):=by omega
 have e4:a.Y-b.Y=-(b.Y-a.Y):=by omega
 rw [e1,e2,e3,e4]
 generalize q.Y-a.Y=u
 generalize q.X-a.X=v
 generalize b.X-a.X=s
 generalize b.Y-a.Y=r
 rw [Int.mul_neg,Int.mul_neg,Int.sub_mul,Int.sub_mul,Int.mul_comm r s]
 omega
theorem JkE {a b q:Aa} (ha:Nr a) (hb:Nr b) (hq:Nr q) :
  (-4000000<=(q.Y-a.Y)*(b.X-a.X)/\(q.Y-a.Y)*(b.X-a.X)<=4000000)/\-4000000<=(q.X-a.X)*(b.Y-a.Y)/\(q.X-a.X)*(b.Y-a.Y)<=4000000:=by
 unfold Nr at ha hb hq
 have h1:=JeK (a:=q.Y-a.Y) (b:=b.X-a.X) 2000 2000 (by omega) (by omega) (by omega) (by omega)
 have h2:=JeK (a:=q.X-a.X) (b:=b.Y-a.Y) 2000 2000 (by omega) (by omega) (by omega) (by omega)
 omega
theorem Jfv {a b q:Aa} (ha:Nr a) (hb:Nr b) (hq:Nr q) :
  (AT .i64 b.X a.X=b.X-a.X/\AT .i64 b.Y a.Y=b.Y-a.Y/\AT .i64 q.X a.X=q.X-a.X/\AT .i64 q.Y a.Y=q.Y-a.Y) /\
  BU .i64 (q.Y-a.Y) (b.X-a.X)=(q.Y-a.Y)*(b.X-a.X)/\BU .i64 (q.X-a.X) (b.Y-a.Y)=(q.X-a.X)*(b.Y-a.Y) /\
  BU .i64 (b.X-a.X) (q.Y-a.Y)=(q.Y-a.Y)*(b.X-a.X)/\BU .i64 (b.Y-a.Y) (q.X-a.X)=(q.X-a.X)*(b.Y-a.Y) /\
  AT .i64 ((q.Y-a.Y)*(b.X-a.X)) ((q.X-a.X)*(b.Y-a.Y))=crS a b q:=by
 obtain ⟨h1,h2⟩:=JkE ha hb hq
 have e1:=Int.mul_comm (q.Y-a.Y) (b.X-a.X)
 have e2:=Int.mul_comm (q.X-a.X) (b.Y-a.Y)
 unfold Nr at ha hb hq
 exact ⟨⟨CC (by omega) (by omega),CC (by omega) (by omega),CC (by omega) (by omega),CC (by omega) (by omega)⟩,F5 (by omega) (by omega),F5 (by omega) (by omega),(F5 (by omega) (by omega)).trans e1.symm,(F5 (by omega) (by omega)).trans e2.symm,CC (by omega) (by omega)⟩
theorem JeM (n:Nat) {a b q:Aa} (ha:Nr a) (hb:Nr b) (hq:Nr q):P2 n a b q=some (decide (OnP a b q)):=by
 obtain ⟨⟨e1,e2,e3,e4⟩,e5,e6,e7,e8,e9⟩:=Jfv ha hb hq
 unfold P2 N6
 rw [e1,e2,e3,e4,e7,e8,e9]
 rw [JlH]
 congr 1
 rw [Bool.eq_iff_iff,decide_eq_true_eq]
 simp only [JlZ,decide_eq_true_eq,beq_iff_eq]
 unfold OnP
 have hB:(if b.X<a.X then b.X else a.X)=min a.X b.X:=by split<;>omega
 have hC:(if b.X>a.X then b.X else a.X)=max a.X b.X:=by split<;>omega
 have hD:(if b.Y<a.Y then b.Y else a.Y)=min a.Y b.Y:=by split<;>omega
 have hE:(if b.Y>a.Y then b.Y else a.Y)=max a.Y b.Y:=by split<;>omega
 rw [hB,hC,hD,hE]
 constructor
 ·rintro ⟨⟨⟨⟨h0,h1⟩,h2⟩,h3⟩,h4⟩;exact ⟨h0,⟨h1,h2⟩,h3,h4⟩
 ·rintro ⟨h0,⟨h1,h2⟩,h3,h4⟩;exact ⟨⟨⟨⟨h0,h1⟩,h2⟩,h3⟩,h4⟩
theorem VY (n:Nat) {a b q:Aa} (ha:Nr a) (hb:Nr b) (hq:Nr q):Ht n a b q=some (psS a b q):=by
 obtain ⟨⟨e1,e2,e3,e4⟩,e5,e6,e7,e8,e9⟩:=Jfv ha hb hq
 unfold Ht psS
 rw [e1,e2,e3,e4,e5,e6]
 have h1:decide ((q.X-a.X)*(b.Y-a.Y)<(q.Y-a.Y)*(b.X-a.X))=decide (0<crS a b q):=decide_eq_decide.2 (by unfold crS;omega)
 have h2:decide ((q.X-a.X)*(b.Y-a.Y)>(q.Y-a.Y)*(b.X-a.X))=decide (crS a b q<0):=decide_eq_decide.2 (by unfold crS;omega)
 rw [h1,h2]
 have h3:decide (b.Y>a.Y)=decide (a.Y<b.Y):=rfl
 rw [h3,bne]
 cases (decide (a.Y<=q.Y)==decide (b.Y<=q.Y))<;>cases decide (a.Y<b.Y)<;>rfl
theorem JlB {N:Nat} (h:N≠0):(!(((N:Nat):Int)==0))=true:=by
 rw [Bool.not_eq_true'];exact beq_eq_false_iff_ne.2 (by omega)
theorem Ji7 {i N:Nat} (hi:i<N) (hN:N<=1000):Ak (Aj .i64 (i:Int) 1) ((N:Nat):Int)=(((i+1) % N:Nat):Int):=by
 rw [Aq (by omega),(BN (by omega) (by omega)).1]
 omega
theorem JbW {P:List Aa} (h:∀ p∈P,Nr p) {i:Nat} (hi:i<P.length):Nr (sd P i).1/\Nr (sd P i).2:=
 ⟨h _ (Zp P hi),h _ (Zp P (Nat.mod_lt _ (by omega)))⟩
theorem VZ (P:List Aa) (q:Aa) (i:Nat):VX P q (i+1)=VX P q i+(if psB P q i=true then 1 else 0):=by
 unfold VX
 rw [List.range_succ,List.countP_append,List.countP_singleton]
theorem JbX {n:Nat}:(!decide (n % 2=1))=decide ((n+1) % 2=1):=by
 rw [Bool.eq_iff_iff];simp;omega
theorem X9 (n:Nat) {P:List Aa} {i:Nat} (hi:i<P.length) (hl:P.length<=1000):Ig n P i=some (sd P i):=by
 unfold Ig
 rw [Da hi,D2 (JlB (by omega)),Ji7 hi hl,Da (Nat.mod_lt _ (by omega))]
 rfl
theorem V0 {P:List Aa} {q:Aa} (hl:P.length<=1000) (h:∀ p∈P,Nr p) (hq:Nr q):Ev (λ n=>Kf n P q) (OL P q):=by
 refine Tot.ev (Tot.bind (R:=λ y=>y=if (List.range P.length).any (onB P q)=true then .inr true else .inl (decide (VX P q P.length % 2=1)))
  (Tot.upto P.length (λ i (x:Bool×Int)=>x.2=(i:Int)/\x.1=decide (VX P q i % 2=1)/\∀ j,j<i->onB P q j=false) ?_ ?_ _ ⟨rfl,rfl,λ j hj=>by omega⟩) λ y hy=>?_)
 ·rintro i ⟨o,x⟩ hi ⟨h1,h2,h3⟩
  simp only at h1 h2
  subst h1 h2
  unfold Em
  obtain ⟨n1,n2⟩:=JbW h hi
  refine Tot.iteT (decide_eq_true (by omega)) (Tot.bindA (λ n=>X9 n hi hl) (Tot.bindA (λ n=>JeM n n1 n2 hq) (Tot.ite (λ ho=>Tot.pure ?_) λ ho=>Tot.bindA (λ n=>VY n n1 n2 hq) ?_)))
  ·show _=_
   rw [if_pos]
   exact List.any_eq_true.2 ⟨i,List.mem_range.2 hi,ho⟩
  ·have hj:∀ j,j<i+1->onB P q j=false:=λ j hj=>by
    rcases Nat.lt_succ_iff_lt_or_eq.1 hj with hj|rfl
    ·exact h3 j hj
    ·exact ho
   unfold El
   refine Tot.ite (λ hp=>Tot.pure ⟨Aq (by omega),?_,hj⟩) λ hp=>Tot.pure ⟨Aq (by omega),?_,hj⟩
   ·have hp:psB P q i=true:=hp
    rw [VZ,if_pos hp];exact JbX
   ·have hp:psB P q i=false:=hp
    rw [VZ,hp];rfl
 ·rintro ⟨o,x⟩ ⟨h1,h2,h3⟩
  simp only at h1 h2
  subst h1 h2
  unfold Em
  refine Tot.iteF (decide_eq_false (by omega)) (Tot.pure ?_)
  show _=_
  rw [if_neg]
  intro hh
  obtain ⟨j,hj,hh⟩:=List.any_eq_true.1 hh
  rw [h3 j (List.mem_range.1 hj)] at hh
  cases hh
 ·subst hy
  unfold OL
  cases (List.range P.length).any (onB P q) with
  | true=>exact Tot.pure rfl
  | false=>exact Tot.pure rfl
theorem JkF (x y z:Bool) (c:Nat) (h:c % 2=if (x != y)=true then 1 else 0):(c+if (y != z)=true then 1 else 0) % 2=if (x != z)=true then 1 else 0:=by
 cases x<;>cases y<;>cases z<;>simp at h ⊢<;>omega
theorem JkG (x y:Bool) (c:Nat) (h:c % 2=if (x != y)=true then 1 else 0):(c+if (y != x)=true then 1 else 0) % 2=0:=by
 cases x<;>cases y<;>simp at h ⊢<;>omega
theorem Jfw (f:Nat->Bool):∀ m:Nat,((List.range m).countP λ i=>f i != f (i+1)) % 2=if (f 0 != f m)=true then 1 else 0
 | 0=>by simp
 | m+1=>by
  rw [List.range_succ,List.countP_append,List.countP_singleton]
  exact JkF _ _ _ _ (Jfw f m)
theorem Zs (f:Nat->Bool) (N:Nat):((List.range N).countP λ i=>f i != f ((i+1) % N)) % 2=0:=by
 cases N with
 | zero=>simp
 | succ m=>
  rw [List.range_succ,List.countP_append,List.countP_singleton]
  have e:(List.range m).countP (λ i=>f i != f ((i+1) % (m+1)))=(List.range m).countP (λ i=>f i != f (i+1)):=by
   refine List.countP_congr λ i hi=>?_
   rw [Nat.mod_eq_of_lt (by have:=List.mem_range.1 hi;omega)]
  rw [e,Nat.mod_self]
  exact JkG _ _ _ (Jfw f m)
theorem JbY {a b q:Aa} (ha:a.X<q.X) (hb:b.X<q.X):psS a b q=false:=by
 cases h:psS a b q with
 | false=>rfl
 | true=>
  exfalso
  unfold psS at h
  rw [JlZ] at h
  obtain ⟨h1,h2⟩:=h
  have hm:∀ {u v w z:Int},0<=u->u<=w->0<w->v<z->0<z->u*v<z*w:=by
   intro u v w z h1 h2 h3 h4 h5
   rcases Int.lt_or_le 0 u with hu|hu
   ·have e1:u*v<u*z:=Int.mul_lt_mul_of_pos_left h4 hu
    have e2:u*z<=w*z:=Int.mul_le_mul_of_nonneg_right h2 (by omega)
    rw [Int.mul_comm z w];omega
   ·have:u=0:=by omega
    rw [this,Int.zero_mul];exact Int.mul_pos h5 h3
  rcases Int.lt_or_le a.Y b.Y with hy|hy
  ·rw [decide_eq_true hy,cond_true,decide_eq_true_eq] at h2
   unfold crS at h2
   have hq1:a.Y<=q.Y:=by
    refine Int.le_of_not_gt λ hh=>?_
    rw [decide_eq_false (by omega),decide_eq_false (by omega)] at h1;cases h1
   have hq2:q.Y<b.Y:=by
    refine Int.lt_of_not_ge λ hh=>?_
    rw [decide_eq_true hq1,decide_eq_true (by omega)] at h1;cases h1
   have:=hm (u:=q.Y-a.Y) (v:=b.X-a.X) (w:=b.Y-a.Y) (z:=q.X-a.X) (by omega) (by omega) (by omega) (by omega) (by omega)
   omega
  ·rw [decide_eq_false (by omega),cond_false,decide_eq_true_eq] at h2
   have hs:=X8 a b q
   have hq1:b.Y<=q.Y:=by
    refine Int.le_of_not_gt λ hh=>?_
    rw [decide_eq_false (by omega),decide_eq_false (by omega)] at h1;cases h1
   have hq2:q.Y<a.Y:=by
    refine Int.lt_of_not_ge λ hh=>?_
    rw [decide_eq_true (by omega),decide_eq_true (by omega)] at h1;cases h1
   have:=hm (u:=q.Y-b.Y) (v:=a.X-b.X) (w:=a.Y-b.Y) (z:=q.X-b.X) (by omega) (by omega) (by omega) (by omega) (by omega)
   unfold crS at hs h2
   omega
theorem JeN {a b q:Aa} (ha:q.X<a.X) (hb:q.X<b.X):psS a b q=(decide (a.Y<=q.Y) != decide (b.Y<=q.Y)):=by
 unfold psS
 cases h1:(decide (a.Y<=q.Y) != decide (b.Y<=q.Y)) with
 | false=>rfl
 | true=>
  rw [Bool.true_and]
  have hm:∀ {u v w z:Int},0<=u->u<w->-z<v->0<z->0<u*v+z*w:=by
   intro u v w z h1 h2 h3 h4
   have e1:u*(-z)<=u*v:=Int.mul_le_mul_of_nonneg_left (by omega) h1
   have e2:u*z<w*z:=Int.mul_lt_mul_of_pos_right h2 h4
   rw [Int.mul_neg] at e1
   rw [Int.mul_comm z w];omega
  rcases Int.lt_or_le a.Y b.Y with hy|hy
  ·rw [decide_eq_true hy,cond_true,decide_eq_true_eq]
   have hq1:a.Y<=q.Y:=by
    refine Int.le_of_not_gt λ hh=>?_
    rw [decide_eq_false (by omega),decide_eq_false (by omega)] at h1;cases h1
   have hq2:q.Y<b.Y:=by
    refine Int.lt_of_not_ge λ hh=>?_
    rw [decide_eq_true hq1,decide_eq_true (by omega)] at h1;cases h1
   have:=hm (u:=q.Y-a.Y) (v:=b.X-a.X) (w:=b.Y-a.Y) (z:=a.X-q.X) (by omega) (by omega) (by omega) (by omega)
   unfold crS
   have e:q.X-a.X=-(a.X-q.X):=by omega
   rw [e,Int.neg_mul]
   omega
  ·rw [decide_eq_false (by omega),cond_false,decide_eq_true_eq]
   have hs:=X8 a b q
   have hq1:b.Y<=q.Y:=by
    refine Int.le_of_not_gt λ hh=>?_
    rw [decide_eq_false (by omega),decide_eq_false (by omega)] at h1;cases h1
   have hq2:q.Y<a.Y:=by
    refine Int.lt_of_not_ge λ hh=>?_
    rw [decide_eq_true (by omega),decide_eq_true (by omega)] at h1;cases h1
   have:=hm (u:=q.Y-b.Y) (v:=a.X-b.X) (w:=a.Y-b.Y) (z:=b.X-q.X) (by omega) (by omega) (by omega) (by omega)
   have e:crS b a q=(q.Y-b.Y)*(a.X-b.X)+(b.X-q.X)*(a.Y-b.Y):=by
    unfold crS
    have e:q.X-b.X=-(b.X-q.X):=by omega
    rw [e,Int.neg_mul]
    omega
   omega
theorem Ji8 {P:List Aa} {q m n:Aa} (h:∀ p∈P,In m n p) (hq:OL P q=true):In m n q:=by
 unfold OL at hq
 rw [Jmg,List.any_eq_true,decide_eq_true_eq] at hq
 have hs:∀ i,i<P.length->In m n (sd P i).1/\In m n (sd P i).2:=λ i hi=>⟨h _ (Zp P hi),h _ (Zp P (Nat.mod_lt _ (by omega)))⟩
 rcases hq with ⟨i,hi,hq⟩|hq
 ·have hi:=List.mem_range.1 hi
  obtain ⟨h1,h2⟩:=hs i hi
  have hq:=(of_decide_eq_true hq).2
  unfold In at *
  omega
 ·have hex:∃ i,i<P.length/\psB P q i=true:=by
   refine Classical.byContradiction λ hh=>?_
   have:VX P q P.length=0:=List.countP_eq_zero.2 λ i hi hp=>hh ⟨i,List.mem_range.1 hi,hp⟩
   omega
  obtain ⟨i,hi,hp⟩:=hex
  obtain ⟨h1,h2⟩:=hs i hi
  have hY:m.Y<=q.Y/\q.Y<=n.Y:=by
   unfold psB psS at hp
   rw [JlZ] at hp
   have hp:=hp.1
   unfold In at h1 h2
   constructor
   ·refine Int.le_of_not_gt λ hh=>?_
    rw [decide_eq_false (by omega),decide_eq_false (by omega)] at hp;cases hp
   ·refine Int.le_of_not_gt λ hh=>?_
    rw [decide_eq_true (by omega),decide_eq_true (by omega)] at hp;cases hp
  have hX:m.X<=q.X:=by
   refine Int.le_of_not_gt λ hh=>?_
   have e:VX P q P.length=(List.range P.length).countP λ i=>(λ j=>decide ((P.getD j default).Y<=q.Y)) i != (λ j=>decide ((P.getD j default).Y<=q.Y)) ((i+1) % P.length):=by
    refine List.countP_congr λ i hi=>?_
    obtain ⟨h1,h2⟩:=hs i (List.mem_range.1 hi)
    unfold In at h1 h2
    unfold psB
    rw [JeN (by omega) (by omega)]
    exact Iff.rfl
   rw [e,Zs] at hq
   cases hq
  have hX':q.X<=n.X:=by
   refine Int.le_of_not_gt λ hh=>?_
   unfold In at h1 h2
   unfold psB at hp
   rw [JbY (by omega) (by omega)] at hp
   cases hp
  exact ⟨⟨hX,hX'⟩,hY⟩
end Go.AI
end
section
namespace Go.AI
def ltG (p q:Aa):Prop:=p.Y<q.Y\/(p.Y=q.Y/\p.X<q.X)
instance (p q:Aa):Decidable (ltG p q):=by unfold ltG;infer_instance
theorem RQ (p:Aa):¬ltG p p:=by unfold ltG;omega
theorem Zt {p q r:Aa} (h:ltG p q) (h':ltG q r):ltG p r:=by unfold ltG at *;omega
def Inc (l:List Aa):Prop:=l.Pairwise ltG
theorem Inc.nodup {l:List Aa} (h:Inc l):l.Nodup:=h.imp λ {a b} h e=>by subst e;exact RQ _ h
theorem Inc.uniq {l m:List Aa} (h:Inc l) (h':Inc m) (e:∀ p,p∈l↔p∈m):l=m:=
 ((List.perm_ext_iff_of_nodup h.nodup h'.nodup).2 e).eq_of_pairwise (le:=ltG) (λ _ _ _ _ h1 h2=>absurd (Zt h1 h2) (RQ _)) h h'
structure KS (m:List (Aa×Bool)) (N:Nat) (S:Aa->Prop):Prop where
 nd:(m.map Prod.fst).Nodup
 len:m.length<=N
 mem:∀ p,p∈m.map Prod.fst↔S p
theorem RR (k:Aa):∀ (m:List (Aa×Bool)) (p:Aa),p∈(QP k true m).map Prod.fst↔p∈m.map Prod.fst\/p=k
 | [],p=>by simp [QP]
 | e::m,p=>by
  unfold QP
  split
  ·rename_i h
   simp only [JlW,List.mem_cons]
   rw [← h]
   constructor
   ·rintro (h|h)
    ·exact .inr h
    ·exact .inl (.inr h)
   ·rintro ((h|h)|h)
    ·exact .inl h
    ·exact .inr h
    ·exact .inl h
  ·simp only [JlW,List.mem_cons]
   rw [RR k m p,or_assoc]
theorem Ya (k:Aa):∀ (m:List (Aa×Bool)),(m.map Prod.fst).Nodup->((QP k true m).map Prod.fst).Nodup
 | [],_=>by simp [QP]
 | e::m,h=>by
  rw [JlW,List.nodup_cons] at h
  unfold QP
  split
  ·rename_i h1
   rw [JlW,List.nodup_cons,h1];exact h
  ·rename_i h1
   rw [JlW,List.nodup_cons]
   refine ⟨λ hh=>?_,Ya k m h.2⟩
   rcases (RR k m _).1 hh with hh|hh
   ·exact h.1 hh
   ·exact h1 hh.symm
theorem V1 (k:Aa):∀ (m:List (Aa×Bool)),(QP k true m).length<=m.length+1
 | []=>by simp [QP]
 | e::m=>by
  unfold QP
  split
  ·simp
  ·have:=V1 k m
   rw [List.length_cons,List.length_cons];omega
theorem KS.nil {S:Aa->Prop} (h:∀ p,¬S p):KS [] 0 S:=⟨by simp,by simp,λ p=>by simp [h p]⟩
theorem KS.put {m:List (Aa×Bool)} {N:Nat} {S T:Aa->Prop} (h:KS m N S) (k:Aa) (hT:∀ p,T p↔S p\/p=k):KS (QP k true m) (N+1) T:=
 ⟨Ya k m h.nd,by have:=V1 k m;have:=h.len;omega,λ p=>by rw [RR,h.mem,hT]⟩
theorem KS.to {m:List (Aa×Bool)} {N M:Nat} {S T:Aa->Prop} (h:KS m N S) (hM:N<=M) (hT:∀ p,T p↔S p):KS m M T:=
 ⟨h.nd,by have:=h.len;omega,λ p=>by rw [h.mem,hT]⟩
def lnS (P:List Aa) (i:Nat) (p:Aa):Prop:=∃ j,j<i/\p∈KQ (sd P j).1 (sd P j).2
theorem JbZ {P:List Aa} {i:Nat} {p:Aa}:lnS P (i+1) p↔lnS P i p\/p∈KQ (sd P i).1 (sd P i).2:=by
 constructor
 ·rintro ⟨j,hj,h⟩
  rcases Nat.lt_succ_iff_lt_or_eq.1 hj with hj|rfl
  ·exact .inl ⟨j,hj,h⟩
  ·exact .inr h
 ·rintro (⟨j,hj,h⟩|h)
  ·exact ⟨j,by omega,h⟩
  ·exact ⟨i,by omega,h⟩
def lnN (P:List Aa):Nat->Nat
 | 0=>0
 | i+1=>lnN P i+(KQ (sd P i).1 (sd P i).2).length
theorem Ug {P:List Aa} (h:∀ p∈P,Nr p):∀ {i:Nat},i<=P.length->lnN P i<=2001*i
 | 0,_=>by simp [lnN]
 | i+1,hi=>by
  have h1:=Ug h (i:=i) (by omega)
  obtain ⟨h2,h3⟩:=JbW h (show i<P.length by omega)
  have:=Uf h2 h3
  unfold lnN
  rw [VW];omega
end Go.AI
end
section
namespace Go.AI
theorem RT {P:List Aa} (hl:P.length<=400) (h:∀ p∈P,Nr p) {k:Nat} (hk:k<=P.length) :
  Tot (λ n=>I6 n P (k:Int)) (λ z=>z.length=lnN P k/\∀ p,p∈z↔lnS P k p):=by
 refine Tot.bind (R:=λ z=>z.length=lnN P k/\∀ p,p∈z↔lnS P k p) ?_ λ y hy=>Tot.pure hy
 refine Tot.upto k (λ i (x:List Aa×Int)=>x.2=(i:Int)/\x.1.length=lnN P i/\∀ p,p∈x.1↔lnS P i p) ?_ ?_ _ ⟨rfl,rfl,λ p=>⟨λ h=>(by cases h),λ ⟨j,hj,_⟩=>by omega⟩⟩
 ·rintro i ⟨l,x⟩ hi ⟨h1,h2,h3⟩
  simp only at h1 h2 h3
  subst h1
  unfold Fi
  obtain ⟨n1,n2⟩:=JbW h (show i<P.length by omega)
  have hb:=Ug h (i:=i) (by omega)
  have:=Uf n1 n2
  refine Tot.iteT (decide_eq_true (by omega)) (Tot.bindA (λ n=>X9 n (by omega) (by omega)) (Tot.bindE (Zr n1 n2) (Tot.bindC (Bf ?_) (Tot.pure ⟨Aq (by omega),?_,λ p=>?_⟩))))
  ·rw [VW,h2];omega
  ·show (l++KQ _ _).length=_
   rw [List.length_append,h2];rfl
  ·rw [List.mem_append,h3,JbZ]
 ·rintro ⟨l,x⟩ ⟨h1,h2,h3⟩
  simp only at h1 h2 h3
  subst h1
  unfold Fi
  exact Tot.iteF (decide_eq_false (by omega)) (Tot.pure ⟨h2,h3⟩)
def Bx (p:Aa):Prop:=(0<=p.X/\p.X<60)/\0<=p.Y/\p.Y<60
theorem Bx.nr {p:Aa} (h:Bx p):Nr p:=by unfold Bx at h;unfold Nr;omega
structure Sq (t:List (List Bool)):Prop where
 len:t.length=60
 row:∀ y,y<60->(t.getD y []).length=60
def atT (t:List (List Bool)) (x y:Nat):Bool:=(t.getD y []).getD x false
theorem Ji9 {t:List (List Bool)} (h:Sq t) {x y:Nat} (hx:x<60) (hy:y<60):Y8 t (y:Int) (x:Int)=some (atT t x y):=by
 unfold Y8
 have e:idx t (y:Int)=some (t.getD y []):=Da (by rw [h.len];exact hy)
 rw [e,JlH]
 have e2:idx (t.getD y []) (x:Int)=some ((t.getD y []).getD x false):=Da (by rw [h.row y hy];exact hx)
 exact e2
theorem JeO {t:List (List Bool)} (h:Sq t) {x y:Nat} (hx:x<60) (hy:y<60) :
  ∃ t',Y9 t (y:Int) (x:Int) true=some t'/\Sq t'/\∀ x' y',x'<60->y'<60->(atT t' x' y'=true↔atT t x' y'=true\/(x'=x/\y'=y)):=by
 have e:idx t (y:Int)=some (t.getD y []):=Da (by rw [h.len];exact hy)
 have e2:put (t.getD y []) (x:Int) true=some ((t.getD y []).set x true):=RH (by rw [h.row y hy];exact hx)
 have e3:put t (y:Int) ((t.getD y []).set x true)=some (t.set y ((t.getD y []).set x true)):=RH (by rw [h.len];exact hy)
 have hg:∀ y',y'<60->(t.set y ((t.getD y []).set x true)).getD y' []=if y=y' then (t.getD y []).set x true else t.getD y' []:=by
  intro y' hy'
  rw [Jl7,List.getElem?_set,Jl7 (l:=t) (i:=y')]
  split
  ·rw [if_pos (by rw [h.len];exact hy)];rfl
  ·rfl
 refine ⟨_,by unfold Y9;rw [e,JlH,e2,JlH,e3],⟨by rw [List.length_set,h.len],λ y' hy'=>?_⟩,λ x' y' hx' hy'=>?_⟩
 ·rw [hg y' hy']
  split
  ·rw [List.length_set,h.row y hy]
  ·exact h.row y' hy'
 ·unfold atT
  rw [hg y' hy']
  split
  ·rename_i e;subst e
   have hr:=h.row y hy
   generalize t.getD y []=r at hr
   rw [Jl7,List.getElem?_set,Jl7]
   split
   ·rename_i e;subst e
    rw [if_pos (by rw [hr];exact hx)];simp
   ·rename_i e
    constructor
    ·exact .inl
    ·rintro (h|h)
     ·exact h
     ·exact absurd h.1.symm e
  ·rename_i e
   constructor
   ·exact .inl
   ·rintro (h|h)
    ·exact h
    ·exact absurd h.2.symm e
theorem Pq {l:List Aa} (hl:l.length<=1000000):Tot (λ n=>Hs n l) (λ z=>Inc z/\∀ p,p∈z↔p∈l/\Bx p):=by
 refine Tot.bind (R:=λ t=>Sq t/\∀ x y,x<60->y<60->(atT t x y=true↔(⟨x,y⟩:Aa)∈l)) ?_ ?_
 ·refine Tot.upto l.length (λ i (x:List (List Bool)×Int)=>x.2=(i:Int)/\Sq x.1/\∀ a b,a<60->b<60->(atT x.1 a b=true↔(⟨a,b⟩:Aa)∈l.take i)) ?_ ?_ _ ⟨rfl,⟨by simp,λ y hy=>?_⟩,λ a b ha hb=>?_⟩
  ·rintro i ⟨t,x⟩ hi ⟨h1,h2,h3⟩
   simp only at h1 h2 h3
   subst h1
   unfold Eh Eg
   have hm:∀ p,p∈l.take (i+1)↔p∈l.take i\/p=l[i]:=λ p=>by
    rw [List.take_succ_eq_append_getElem hi,List.mem_append,List.mem_singleton]
   refine Tot.iteT (decide_eq_true (by omega)) (Tot.bindC (AF hi) (Tot.ite (λ hb=>?_) λ hb=>?_))
   ·simp only [JlZ,decide_eq_true_eq] at hb
    generalize l[i]=q at hb hm
    obtain ⟨X,Y⟩:=q
    obtain ⟨X,rfl⟩:∃ m:Nat,X=m:=⟨X.toNat,by simp only at hb;omega⟩
    obtain ⟨Y,rfl⟩:∃ m:Nat,Y=m:=⟨Y.toNat,by simp only at hb;omega⟩
    simp only at hb
    obtain ⟨t',e,s',m'⟩:=JeO h2 (show X<60 by omega) (show Y<60 by omega)
    refine Tot.bindC (D2 (decide_eq_true (by show (0:Int)<=(Y:Int)/\(Y:Int)<_;omega))) (Tot.bindC (D2 (decide_eq_true (by show (0:Int)<=(X:Int)/\(X:Int)<_;omega))) (Tot.bindC e (Tot.pure ⟨Aq (by omega),s',λ a b ha hb=>?_⟩)))
    show atT t' a b=true↔_
    rw [m' a b ha hb,h3 a b ha hb,hm]
    simp only [Aa.mk.injEq]
    constructor
    ·rintro (h|h)
     ·exact .inl h
     ·exact .inr (by omega)
    ·rintro (h|h)
     ·exact .inl h
     ·exact .inr (by omega)
   ·refine Tot.pure ⟨Aq (by omega),h2,λ a b ha hb'=>?_⟩
    show atT t a b=true↔_
    rw [h3 a b ha hb',hm]
    constructor
    ·exact .inl
    ·rintro (h|h)
     ·exact h
     ·rw [← h] at hb
      simp only [Bool.and_eq_false_iff,decide_eq_false_iff_not] at hb
      omega
  ·rintro ⟨t,x⟩ ⟨h1,h2,h3⟩
   simp only at h1 h2 h3
   subst h1
   unfold Eh
   refine Tot.iteF (decide_eq_false (by omega)) (Tot.pure ⟨h2,λ a b ha hb=>?_⟩)
   rw [h3 a b ha hb,List.take_length]
  ·rw [Jl7,List.getElem?_replicate,if_pos hy];simp
  ·have:atT (List.replicate 60 (List.replicate 60 (false:Bool))) a b=false:=by
    unfold atT
    rw [Jl7 (l:=List.replicate _ _),List.getElem?_replicate,if_pos hb,JlM,Jl7,List.getElem?_replicate,if_pos ha,JlM]
   rw [List.take_zero]
   constructor
   ·intro h;exact absurd (this.symm.trans h) (by simp)
   ·intro h;cases h
 ·rintro t ⟨st,mt⟩
  have hG:∀ p,Bx p->((atT t p.X.toNat p.Y.toNat=true)↔p∈l):=λ p hp=>by
   unfold Bx at hp
   rw [mt _ _ (by omega) (by omega)]
   have:(⟨((p.X.toNat:Nat):Int),((p.Y.toNat:Nat):Int)⟩:Aa)=p:=by cases p;simp only [Aa.mk.injEq] at *;omega
   rw [this]
  refine Tot.bind (R:=λ z=>Inc z/\∀ p,p∈z↔p∈l/\Bx p) ?_ λ y hy=>Tot.pure hy
  refine Tot.upto 60 (λ i (x:List Aa×Int)=>x.2=(i:Int)/\x.1.length<=60*i/\Inc x.1/\∀ p,p∈x.1↔(p∈l/\Bx p)/\p.Y<i) ?_ ?_ _ ⟨rfl,by simp,.nil,λ p=>?_⟩
  ·rintro y ⟨o,x⟩ hy ⟨h1,h2,h3,h4⟩
   simp only at h1 h2 h3 h4
   subst h1
   unfold Ek
   refine Tot.iteT (decide_eq_true (by omega)) (Tot.bind (R:=λ z=>z.length<=60*(y+1)/\Inc z/\∀ p,p∈z↔(p∈l/\Bx p)/\p.Y<(y+1:Nat)) ?_ λ z hz=>Tot.pure ⟨Aq (by omega),hz⟩)
   refine Tot.upto 60 (λ j (x:List Aa×Int)=>x.2=(j:Int)/\x.1.length<=60*y+j/\Inc x.1/\∀ p,p∈x.1↔(p∈l/\Bx p)/\ltG p ⟨j,y⟩) ?_ ?_ _ ⟨rfl,h2,h3,λ p=>?_⟩
   ·rintro j ⟨o,x⟩ hj ⟨h1,h2,h3,h4⟩
    simp only at h1 h2 h3 h4
    subst h1
    unfold Ej Ei
    have hq:Bx (⟨j,y⟩:Aa):=by unfold Bx;simp only;omega
    have hG:=hG _ hq
    simp only [Jl8] at hG
    have hst:∀ p:Aa,ltG p ⟨(j+1:Nat),y⟩↔ltG p ⟨j,y⟩\/p=⟨j,y⟩:=λ p=>by
     cases p;unfold ltG;simp only [Aa.mk.injEq];omega
    refine Tot.iteT (decide_eq_true (by omega)) (Tot.bindC (D2 (decide_eq_true (by omega))) (Tot.bindC (D2 (decide_eq_true (by omega))) (Tot.bindC (Ji9 st hj hy) (Tot.ite (λ hb=>?_) λ hb=>?_))))
    ·refine Tot.bindC (Bf (by simp;omega)) (Tot.pure ⟨Aq (by omega),by simp;omega,?_,λ p=>?_⟩)
     ·refine List.pairwise_append.2 ⟨h3,List.pairwise_singleton _ _,λ a ha b hb=>?_⟩
      rw [List.mem_singleton] at hb
      rw [hb];exact ((h4 a).1 ha).2
     ·rw [List.mem_append,List.mem_singleton,h4,hst]
      constructor
      ·rintro (⟨h,h'⟩|rfl)
       ·exact ⟨h,.inl h'⟩
       ·exact ⟨⟨hG.1 hb,hq⟩,.inr rfl⟩
      ·rintro ⟨h,h'|h'⟩
       ·exact .inl ⟨h,h'⟩
       ·exact .inr h'
    ·refine Tot.pure ⟨Aq (by omega),by show o.length<=_;omega,h3,λ p=>?_⟩
     show p∈o↔_
     rw [h4,hst]
     constructor
     ·rintro ⟨h,h'⟩;exact ⟨h,.inl h'⟩
     ·rintro ⟨h,h'|rfl⟩
      ·exact ⟨h,h'⟩
      ·rw [hG.2 h.1] at hb;cases hb
   ·rintro ⟨o,x⟩ ⟨h1,h2,h3,h4⟩
    simp only at h1 h2 h3 h4
    subst h1
    unfold Ej
    refine Tot.iteF (decide_eq_false (by omega)) (Tot.pure ⟨by omega,h3,λ p=>?_⟩)
    rw [h4]
    unfold ltG Bx
    constructor
    ·rintro ⟨h,h'⟩;exact ⟨h,by simp only at h';omega⟩
    ·rintro ⟨h,h'⟩;exact ⟨h,by simp only;omega⟩
   ·rw [h4]
    unfold ltG Bx
    constructor
    ·rintro ⟨h,h'⟩;exact ⟨h,by simp only;omega⟩
    ·rintro ⟨h,h'⟩;exact ⟨h,by simp only at h';omega⟩
  ·rintro ⟨o,x⟩ ⟨h1,h2,h3,h4⟩
   simp only at h1 h2 h3 h4
   subst h1
   unfold Ek
   refine Tot.iteF (decide_eq_false (by omega)) (Tot.pure ⟨h3,λ p=>?_⟩)
   rw [h4]
   constructor
   ·rintro ⟨h,h'⟩;exact h
   ·intro h;exact ⟨h,by unfold Bx at h;omega⟩
  ·simp only [List.not_mem_nil,false_iff]
   rintro ⟨⟨_,h⟩,h'⟩
   unfold Bx at h
   omega
theorem Jja (a b:Aa):((a.X==b.X)&&((a.Y==b.Y)&&true))=decide (a=b):=by
 cases a;cases b
 rw [Bool.eq_iff_iff]
 simp
end Go.AI
end
section
namespace Go.AI
instance (p:Aa):Decidable (Bx p):=by unfold Bx;infer_instance
def L3 (f:Ax):Bool:=
 if (f.Kind==1)=true then decide (f.P.length=1)&&(f.Texture==0)
 else if (f.Kind==2)=true then decide (f.P.length>=2)&&(f.Texture==0)
 else if (f.Kind==3)=true then (decide (f.P.length>=3)&&decide (f.Texture>=0))&&decide (f.Texture<=3)
 else false
def LF (f:Ax):Bool:=if (∀ p∈f.P,Bx p)/\f.P.length<=12 then L3 f else false
theorem JkH {f:Ax} (h:(∀ p∈f.P,Bx p)/\f.P.length<=12):LF f=L3 f:=if_pos h
theorem Jfx {f:Ax} (h:¬((∀ p∈f.P,Bx p)/\f.P.length<=12)):LF f=false:=if_neg h
theorem Zu {f:Ax} (h:f.P.length=0):L3 f=false:=by
 unfold L3
 rw [h]
 split
 ·rfl
 ·split
  ·rfl
  ·split<;>rfl
theorem Zv {f:Ax}:Tot (λ _=>if (f.Kind==1)=true then
    some ((((f.P.length:Nat):Int)==1)&&(f.Texture==0))
   else
    if (f.Kind==2)=true then
     some ((decide (((f.P.length:Nat):Int)>=2))&&(f.Texture==0))
    else
     if (f.Kind==3)=true then
      some (((decide (((f.P.length:Nat):Int)>=3))&&(decide (f.Texture>=0)))&&(decide (f.Texture<=3)))
     else
      some false) (λ y=>y=L3 f):=by
 have e1:(((f.P.length:Nat):Int)==1)=decide (f.P.length=1):=by rw [Bool.eq_iff_iff];simp;omega
 have e2:decide (((f.P.length:Nat):Int)>=2)=decide (f.P.length>=2):=decide_eq_decide.2 (by omega)
 have e3:decide (((f.P.length:Nat):Int)>=3)=decide (f.P.length>=3):=decide_eq_decide.2 (by omega)
 rw [e1,e2,e3]
 unfold L3
 cases (f.Kind==1) with
 | true=>exact Tot.pure rfl
 | false=>
  cases (f.Kind==2) with
  | true=>exact Tot.pure rfl
  | false=>
   cases (f.Kind==3) with
   | true=>exact Tot.pure rfl
   | false=>exact Tot.pure rfl
theorem Xf (f:Ax) (hl:f.P.length<=1000000):Ev (λ n=>Mi n f) (LF f):=by
 refine Tot.ev (Tot.bind (R:=λ y=>y=if (∀ p∈f.P,Bx p) then .inl () else .inr false) ?_ λ y hy=>?_)
 ·refine Tot.upto f.P.length (λ i (x:Int)=>x=(i:Int)/\∀ p∈f.P.take i,Bx p) ?_ ?_ _ ⟨rfl,by simp⟩
  ·rintro i _ hi ⟨rfl,hj⟩
   unfold Fg
   refine Tot.iteT (decide_eq_true (by omega)) (Tot.bindC (AF hi) (Tot.ite (λ hb=>Tot.pure ?_) λ hb=>Tot.pure ⟨Aq (by omega),?_⟩))
   ·show _=_
    rw [if_neg]
    intro hh
    have:=hh _ (JlN hi)
    simp only [Jmg,decide_eq_true_eq] at hb
    unfold Bx at this
    omega
   ·rw [List.take_succ_eq_append_getElem hi]
    intro p hp
    rw [List.mem_append,List.mem_singleton] at hp
    rcases hp with hp|rfl
    ·exact hj p hp
    ·simp only [JlX,decide_eq_false_iff_not] at hb
     unfold Bx;omega
  ·rintro _ ⟨rfl,hj⟩
   unfold Fg
   refine Tot.iteF (decide_eq_false (by omega)) (Tot.pure ?_)
   show _=_
   rw [List.take_length] at hj
   rw [if_pos hj]
 ·subst hy
  by_cases hh:∀ p∈f.P,Bx p
  ·rw [if_pos hh]
   refine Tot.ite (λ h=>Tot.pure ?_) λ h=>?_
   ·rw [Jfx (λ hh=>by rw [decide_eq_true_eq] at h;omega)]
   ·rw [decide_eq_false_iff_not] at h
    rw [JkH ⟨hh,by omega⟩]
    exact Zv
  ·rw [if_neg hh,Jfx (λ h=>hh h.1)]
   exact Tot.pure rfl
def OM (k:Int) (p:Aa):Bool:=((k==3)||((k==2)&&(p.Y % 2==0)))||((k==1)&&((p.X+p.Y) % 2==0))
theorem Jb0 (n:Nat) (k:Int) {p:Aa} (h:Bx p):Gm n k p=some (OM k p):=by
 unfold Bx at h
 unfold Gm OM
 rw [EG (by omega) (by omega),(BN (a:=p.Y) (by omega) (by omega)).1,(BN (a:=p.X+p.Y) (by omega) (by omega)).1]
def arS (P:List Aa) (k:Int) (p:Aa):Prop:=lnS P P.length p\/(OM k p=true/\OL P p=true)
theorem Jjb {P:List Aa} {i:Nat} {p m n:Aa} (hi:i<=P.length) (h:∀ p∈P,In m n p) (hp:lnS P i p):In m n p:=by
 obtain ⟨j,hj,hp⟩:=hp
 exact JeL hp (h _ (Zp P (by omega))) (h _ (Zp P (Nat.mod_lt _ (by omega))))
theorem Yb {p:Aa}:Bx p↔In ⟨0,0⟩ ⟨59,59⟩ p:=by unfold Bx In;simp only;omega
theorem Xg {P:List Aa} {i:Nat} {p:Aa} (hi:i<=P.length) (h:∀ p∈P,Bx p) (hp:lnS P i p):Bx p:=Yb.2 (Jjb hi (λ p hp=>Yb.1 (h p hp)) hp)
theorem Jb1 {P:List Aa} {p:Aa} (h:∀ p∈P,Bx p) (hp:OL P p=true):Bx p:=Yb.2 (Ji8 (λ p hp=>Yb.1 (h p hp)) hp)
theorem Jb2 {P:List Aa} {k:Int} {p:Aa} (h:∀ p∈P,Bx p) (hp:arS P k p):Bx p:=by
 rcases hp with hp|hp
 ·exact Xg (JlP _) h hp
 ·exact Jb1 h hp.2
theorem RU {f:Ax} (hv:LF f=true):(∀ p∈f.P,Bx p)/\f.P.length<=12/\L3 f=true:=by
 unfold LF at hv
 split at hv
 ·rename_i h;exact ⟨h.1,h.2,hv⟩
 ·cases hv
theorem Zw {f:Ax} (hv:LF f=true) (hk:f.Kind=2) :
  Tot (λ n=>C7 n f) (λ r=>Inc r/\∀ p,p∈r↔lnS f.P (f.P.length-1) p):=by
 obtain ⟨hb,hl,hK⟩:=RU hv
 have h0:f.P.length≠0:=λ h=>by rw [Zu h] at hK;cases hK
 refine Tot.iteF (by rw [hk];rfl) (Tot.iteT (by rw [hk];rfl) ?_)
 rw [show AT .i64 ((f.P.length:Nat):Int) 1=((f.P.length-1:Nat):Int) from (CC (by omega) (by omega)).trans (by omega)]
 refine Tot.bind (RT (by omega) (λ p hp=>(hb p hp).nr) (k:=f.P.length-1) (by omega)) λ l hl=>?_
 have h1:=Ug (λ p hp=>(hb p hp).nr) (i:=f.P.length-1) (by omega)
 refine Tot.bind (Pq (by omega)) λ z hz=>Tot.pure ⟨hz.1,λ p=>?_⟩
 rw [hz.2,hl.2]
 exact ⟨λ h=>h.1,λ h=>⟨h,Xg (by omega) hb h⟩⟩
theorem Zx {f:Ax} (hv:LF f=true) (hk:f.Kind=3) :
  Tot (λ n=>C7 n f) (λ r=>Inc r/\∀ p,p∈r↔arS f.P f.Texture p):=by
 obtain ⟨hb,hl,hK⟩:=RU hv
 refine Tot.iteF (by rw [hk];rfl) (Tot.iteF (by rw [hk];rfl) (Tot.bind (RT (by omega) (λ p hp=>(hb p hp).nr) (k:=f.P.length) (by omega)) λ l hl=>?_))
 have h1:=Ug (λ p hp=>(hb p hp).nr) (i:=f.P.length) (by omega)
 refine Tot.bind (R:=λ z=>z.length<=100000/\∀ p,p∈z↔lnS f.P f.P.length p\/(Bx p/\OM f.Texture p=true/\OL f.P p=true)) ?_ λ z hz=>?_
 ·refine Tot.upto 60 (λ i (x:List Aa×Int)=>x.2=(i:Int)/\x.1.length<=30000+60*i/\∀ p,p∈x.1↔lnS f.P f.P.length p\/((Bx p/\p.Y<(i:Int))/\OM f.Texture p=true/\OL f.P p=true)) ?_ ?_ _ ⟨rfl,by show l.length<=_;omega,λ p=>?_⟩
  ·rintro i ⟨d,x⟩ hi' ⟨h1,h2,h3⟩
   simp only at h1 h2 h3
   subst h1
   unfold Ep
   refine Tot.iteT (decide_eq_true (by omega)) (Tot.bind (R:=λ z=>z.length<=30000+60*(i+1)/\∀ p,p∈z↔lnS f.P f.P.length p\/((Bx p/\p.Y<((i+1:Nat):Int))/\OM f.Texture p=true/\OL f.P p=true)) ?_ λ z hz=>Tot.pure ⟨Aq (by omega),hz⟩)
   refine Tot.upto 60 (λ j (x:List Aa×Int)=>x.2=(j:Int)/\x.1.length<=30000+60*i+j/\∀ p,p∈x.1↔lnS f.P f.P.length p\/((Bx p/\ltG p ⟨(j:Int),(i:Int)⟩)/\OM f.Texture p=true/\OL f.P p=true)) ?_ ?_ _ ⟨rfl,by show d.length<=_;omega,λ p=>?_⟩
   ·rintro j ⟨d,x⟩ hj ⟨h1,h2,h3⟩
    simp only at h1 h2 h3
    subst h1
    unfold Eo En
    have hqb:Bx ⟨(j:Int),(i:Int)⟩:=by unfold Bx;simp only;omega
    have hst:∀ p:Aa,ltG p ⟨((j+1:Nat):Int),(i:Int)⟩↔ltG p ⟨(j:Int),(i:Int)⟩\/p=⟨(j:Int),(i:Int)⟩:=λ p=>by
     cases p;unfold ltG;simp only [Aa.mk.injEq];omega
    refine Tot.iteT (decide_eq_true (by omega)) (Tot.bindA (λ n=>Jb0 n _ hqb) ?_)
    refine Tot.bind (R:=λ b=>b=(OM f.Texture ⟨(j:Int),(i:Int)⟩&&OL f.P ⟨(j:Int),(i:Int)⟩)) ?_ λ b hbb=>?_
    ·cases OM f.Texture ⟨(j:Int),(i:Int)⟩ with
     | true=>exact Tot.iteT rfl ((V0 (by omega) (λ p hp=>(hb p hp).nr) hqb.nr).tot rfl)
     | false=>exact Tot.iteF rfl (Tot.pure rfl)
    ·subst hbb
     rw [show (OM f.Texture ⟨(j:Int),(i:Int)⟩&&(OM f.Texture ⟨(j:Int),(i:Int)⟩&&OL f.P ⟨(j:Int),(i:Int)⟩))=(OM f.Texture ⟨(j:Int),(i:Int)⟩&&OL f.P ⟨(j:Int),(i:Int)⟩) from by cases OM f.Texture ⟨(j:Int),(i:Int)⟩<;>rfl]
     refine Tot.ite (λ hc=>Tot.bindC (Bf (by simp;omega)) (Tot.pure ⟨Aq (by omega),by simp;omega,λ p=>?_⟩)) λ hc=>Tot.pure ⟨Aq (by omega),by show d.length<=_;omega,λ p=>?_⟩
     ·rw [JlZ] at hc
      rw [List.mem_append,List.mem_singleton,h3,hst]
      constructor
      ·rintro ((h|⟨⟨h,h'⟩,h''⟩)|rfl)
       ·exact .inl h
       ·exact .inr ⟨⟨h,.inl h'⟩,h''⟩
       ·exact .inr ⟨⟨hqb,.inr rfl⟩,hc⟩
      ·rintro (h|⟨⟨h,h'|h'⟩,h''⟩)
       ·exact .inl (.inl h)
       ·exact .inl (.inr ⟨⟨h,h'⟩,h''⟩)
       ·exact .inr h'
     ·show p∈d↔_
      rw [h3,hst]
      constructor
      ·rintro (h|⟨⟨h,h'⟩,h''⟩)
       ·exact .inl h
       ·exact .inr ⟨⟨h,.inl h'⟩,h''⟩
      ·rintro (h|⟨⟨h,h'|rfl⟩,h''⟩)
       ·exact .inl h
       ·exact .inr ⟨⟨h,h'⟩,h''⟩
       ·rw [h''.1,h''.2] at hc;cases hc
   ·rintro ⟨d,x⟩ ⟨h1,h2,h3⟩
    simp only at h1 h2 h3
    subst h1
    unfold Eo
    refine Tot.iteF (decide_eq_false (by omega)) (Tot.pure ⟨by omega,λ p=>?_⟩)
    have:Bx p->(ltG p ⟨((60:Nat):Int),(i:Int)⟩↔p.Y<((i+1:Nat):Int)):=λ h=>by
     unfold Bx at h;unfold ltG;simp only;omega
    rw [h3]
    constructor
    ·rintro (h|⟨⟨h,h'⟩,h''⟩)
     ·exact .inl h
     ·exact .inr ⟨⟨h,(this h).1 h'⟩,h''⟩
    ·rintro (h|⟨⟨h,h'⟩,h''⟩)
     ·exact .inl h
     ·exact .inr ⟨⟨h,(this h).2 h'⟩,h''⟩
   ·have:Bx p->(ltG p ⟨((0:Nat):Int),(i:Int)⟩↔p.Y<(i:Int)):=λ h=>by
     unfold Bx at h;unfold ltG;simp only;omega
    show p∈d↔_
    rw [h3]
    constructor
    ·rintro (h|⟨⟨h,h'⟩,h''⟩)
     ·exact .inl h
     ·exact .inr ⟨⟨h,(this h).2 h'⟩,h''⟩
    ·rintro (h|⟨⟨h,h'⟩,h''⟩)
     ·exact .inl h
     ·exact .inr ⟨⟨h,(this h).1 h'⟩,h''⟩
  ·rintro ⟨d,x⟩ ⟨h1,h2,h3⟩
   simp only at h1 h2 h3
   subst h1
   unfold Ep
   refine Tot.iteF (decide_eq_false (by omega)) (Tot.pure ⟨by show d.length<=_;omega,λ p=>?_⟩)
   show p∈d↔_
   rw [h3]
   constructor
   ·rintro (h|⟨h,h''⟩)
    ·exact .inl h
    ·exact .inr ⟨h.1,h''⟩
   ·rintro (h|⟨h,h''⟩)
    ·exact .inl h
    ·exact .inr ⟨⟨h,by unfold Bx at h;omega⟩,h''⟩
  ·show p∈l↔_
   rw [hl.2]
   constructor
   ·exact .inl
   ·rintro (h|⟨⟨h,h'⟩,h''⟩)
    ·exact h
    ·unfold Bx at h;omega
 ·refine Tot.bind (Pq (by omega)) λ r hr=>Tot.pure ⟨hr.1,λ p=>?_⟩
  rw [hr.2,hz.2]
  constructor
  ·rintro ⟨h|h,_⟩
   ·exact .inl h
   ·exact .inr h.2
  ·intro h
   refine ⟨?_,Jb2 hb h⟩
   rcases h with h|h
   ·exact .inl h
   ·exact .inr ⟨Jb1 hb h.2,h⟩
end Go.AI
end
section
namespace Go.AI
theorem Jjc {f:Ax} (h:f.Kind=1):L3 f=(decide (f.P.length=1)&&(f.Texture==0)):=by unfold L3;rw [h];rfl
def ptS (f:Ax) (p:Aa):Prop:=if f.Kind=1 then p∈f.P else if f.Kind=2 then lnS f.P (f.P.length-1) p else arS f.P f.Texture p
theorem Jb3 {f:Ax} (hv:LF f=true):f.Kind=1\/f.Kind=2\/f.Kind=3:=by
 have hK:=(RU hv).2.2
 unfold L3 at hK
 split at hK
 ·rename_i h;exact .inl (by simpa using h)
 ·split at hK
  ·rename_i h;exact .inr (.inl (by simpa using h))
  ·split at hK
   ·rename_i h;exact .inr (.inr (by simpa using h))
   ·cases hK
theorem Jb4 {f:Ax} (hv:LF f=true) (hk:f.Kind=1):f.P=[f.P.getD 0 default]:=by
 have hK:=(RU hv).2.2
 rw [Jjc hk,JlZ,decide_eq_true_eq] at hK
 obtain ⟨a,e⟩:=List.length_eq_one_iff.1 hK.1
 rw [e];rfl
theorem Jb5 {f:Ax} (hv:LF f=true):Tot (λ n=>C7 n f) (λ r=>Inc r/\∀ p,p∈r↔ptS f p):=by
 unfold ptS
 rcases Jb3 hv with hk|hk|hk
 ·refine Tot.iteT (by rw [hk];rfl) (Tot.pure ⟨?_,λ p=>?_⟩)
  ·rw [Jb4 hv hk];exact List.pairwise_singleton _ _
  ·rw [if_pos hk]
 ·refine (Zw hv hk).mono λ r hr=>⟨hr.1,λ p=>?_⟩
  rw [if_neg (by omega),if_pos hk,hr.2]
 ·refine (Zx hv hk).mono λ r hr=>⟨hr.1,λ p=>?_⟩
  rw [if_neg (by omega),if_neg (by omega),hr.2]
theorem Jjd {f:Ax} (hv:LF f=true) {p:Aa} (h:ptS f p):Bx p:=by
 obtain ⟨hb,hl,_⟩:=RU hv
 unfold ptS at h
 split at h
 ·exact hb p h
 ·split at h
  ·exact Xg (by omega) hb h
  ·exact Jb2 hb h
theorem Tot.gT {α β:Type} {P:α->Prop} {c:Bool} {f:Nat->Option β} {d:β} {g:Nat->β->Option α} {R:β->Prop} (hc:c=true) (h:Tot f R) (k:∀ x,R x->Tot (λ n=>g n x) P):Tot (λ n=>(if c=true then f n else some d).bind (g n)) P:=by
 subst hc;exact Tot.bind h k
end Go.AI
end
section
namespace Go.AI
theorem RV (a b:Int):Tot (λ n=>E2 n a b) (λ l=>l.length<=5):=by
 unfold E2
 refine Tot.ite (λ _=>Tot.pure (by simp)) λ _=>Tot.ite (λ _=>Tot.pure (by simp)) λ _=>Tot.ite (λ _=>Tot.pure (by simp)) λ _=>Tot.ite (λ _=>Tot.pure (by simp)) λ _=>Tot.ite (λ _=>Tot.pure (by simp)) λ _=>Tot.ite (λ _=>Tot.pure (by simp)) λ _=>Tot.ite (λ _=>Tot.pure (by simp)) λ _=>Tot.pure (by simp)
theorem ON {r:Q4} {out:List Al} (ho:out.length<=1) {k:Nat} (hk:k<=16):Tot (λ n=>Di n r out (k:Int)) (λ f=>f.length<=1000):=by
 unfold Di
 refine Tot.bind (R:=λ f=>f.length<=1000) ?_ λ f hf=>Tot.bind (S6 f) λ b _=>Tot.ite (λ _=>Tot.bind (RV _ _) λ l hl=>Tot.pure (by omega)) λ _=>Tot.pure hf
 refine Tot.upto k (λ i (x:List Al×Int)=>x.2=(i:Int)/\x.1.length<=1+5*i) ?_ ?_ _ ⟨rfl,by omega⟩
 ·rintro i ⟨l,x⟩ hi ⟨h1,h2⟩
  simp only at h1 h2
  subst h1
  unfold Gi
  have hj:∀ p:Cv Int,Tot (λ n=>Ef n r l (i:Int) p) (Rd2 (λ x=>x.2=((i+1:Nat):Int)/\x.1.length<=1+5*(i+1)) λ f=>f.length<=1000):=λ p=>by
   unfold Ef
   refine Tot.ite (λ _=>Tot.bindC (Bf (by simp;omega)) (Tot.pure ⟨Aq (by omega),by simp;omega⟩)) λ _=>Tot.bind (RV _ _) λ q hq=>Tot.bindC (Bf (by omega)) (Tot.pure ⟨Aq (by omega),by simp;omega⟩)
  refine Tot.iteT (decide_eq_true (show (i:Int)<(k:Int) by omega)) (Tot.ite (λ h=>?_) λ _=>hj _)
  rw [decide_eq_true_eq] at h
  exact Tot.bindC (Da (show i<r.L.length from by simpa using h)) (hj _)
 ·rintro ⟨l,x⟩ ⟨h1,h2⟩
  simp only at h1 h2
  subst h1
  unfold Gi
  exact Tot.iteF (decide_eq_false (show ¬(k:Int)<(k:Int) by omega)) (Tot.pure (by show l.length<=1000;omega))
theorem Zy {r:Q4} (hn:U8 r.N):Tot (λ n=>K7 n r) (λ f=>f.length<=1000):=by
 unfold K7
 unfold U8 at hn
 obtain ⟨a1,a2,a3⟩:=BN (a:=r.N) (m:=4) (by omega) (by omega)
 have q0:Du .u8 r.N 4=r.N / 4:=by
  unfold Du
  rw [Int.tdiv_eq_ediv_of_nonneg (by omega),w8 (by omega) (by omega)]
 obtain ⟨b1,b2,b3⟩:=BN (a:=Du .u8 r.N 4) (m:=4) (by rw [q0];omega) (by omega)
 generalize Ak r.N 4=p at *
 generalize Ak (Du .u8 r.N 4) 4=q at *
 rw [w64 (a:=p) (by omega) (by omega),w64 (a:=q) (by omega) (by omega)]
 have hp:p=0\/p=1\/p=2\/p=3:=by omega
 have hq:q=0\/q=1\/q=2\/q=3:=by omega
 refine Tot.ite (λ _=>?_) λ _=>Tot.ite (λ _=>?_) λ _=>Tot.ite (λ _=>Tot.bind (RV _ _) λ l hl=>Tot.pure (by omega)) λ _=>ON (k:=2) (by simp) (by omega)
 ·have e:∃ k:Nat,Aj .i64 3 p=(k:Int)/\k<=16:=by
   rcases hp with rfl|rfl|rfl|rfl
   ·exact ⟨3,rfl,by omega⟩
   ·exact ⟨4,rfl,by omega⟩
   ·exact ⟨5,rfl,by omega⟩
   ·exact ⟨6,rfl,by omega⟩
  obtain ⟨k,hk,hk2⟩:=e
  rw [hk]
  exact ON (by simp) hk2
 ·have e:∃ k:Nat,BU .i64 (Aj .i64 1 p) (Aj .i64 1 q)=(k:Int)/\k<=16:=by
   rcases hp with rfl|rfl|rfl|rfl<;>rcases hq with rfl|rfl|rfl|rfl<;>exact ⟨_,rfl,by decide⟩
  obtain ⟨k,hk,hk2⟩:=e
  rw [hk]
  exact ON (by simp) hk2
theorem Xh (x:Vy Int) {w h:Int} (hw:w≠0) (hh:h≠0):Tot (λ n=>Gj n x w h) (λ f=>f.P.length<=4):=by
 unfold Gj DB DC
 refine Tot.bindC (IJ hw) (Tot.bindC (IJ hh) (Tot.ite (λ _=>Tot.pure (by simp)) λ _=>Tot.ite (λ _=>Tot.ite (λ _=>Tot.bindC (Bf (by simp)) (Tot.pure (by simp))) λ _=>Tot.pure (by simp)) λ _=>Tot.ite (λ _=>Tot.bindC (Bf (by simp)) (Tot.pure (by simp))) λ _=>Tot.pure (by simp)))
structure V2 (p:Af):Prop where
 f:p.F.length<=100
 p:∀ g∈p.F,g.P.length<=100
theorem Zz {r:Bo} (hw:U8 r.W) (hh:U8 r.H):Tot (λ n=>K8 n r) V2:=by
 unfold K8
 unfold U8 at hw hh
 obtain ⟨a1,a2,a3⟩:=BN (a:=r.W) (m:=13) (by omega) (by omega)
 obtain ⟨b1,b2,b3⟩:=BN (a:=r.H) (m:=9) (by omega) (by omega)
 rw [w64 (a:=Ak r.W 13) (by omega) (by omega),w64 (a:=Ak r.H 9) (by omega) (by omega)]
 rw [F5 (a:=2) (by omega) (by omega),F5 (a:=3) (by omega) (by omega),EG (a:=12) (b:=2*Ak r.W 13) (by omega) (by omega),EG (a:=12) (b:=3*Ak r.H 9) (by omega) (by omega)]
 refine Tot.bind (R:=V2) ?_ λ p hp=>Tot.ite (λ _=>Tot.pure ⟨by simp,by simp⟩) λ _=>Tot.pure hp
 refine Tot.upto (min r.F.length 4) (λ i (x:Af×Int)=>x.2=(i:Int)/\(x.1.W≠0/\x.1.H≠0)/\x.1.F.length=i/\∀ g∈x.1.F,g.P.length<=100) ?_ ?_ _ ⟨rfl,⟨by show (12:Int)+_≠0;omega,by show (12:Int)+_≠0;omega⟩,rfl,by simp⟩
 ·rintro i ⟨p,x⟩ hi ⟨h1,h2,h3,h4⟩
  simp only at h1 h2 h3 h4
  subst h1
  unfold Gk
  have hlt:i<r.F.length:=by omega
  refine Tot.iteT (by rw [JlZ,decide_eq_true_eq,decide_eq_true_eq];show (i:Int)<_/\(i:Int)<4;omega) (Tot.bindC (AF hlt) (Tot.bind (Xh _ h2.1 h2.2) λ g hg=>Tot.bindC (Bf (by simp;omega)) (Tot.pure ⟨Aq (by omega),h2,by simp;exact h3,λ q hq=>?_⟩)))
  rw [List.mem_append,List.mem_singleton] at hq
  rcases hq with hq|rfl
  ·exact h4 q hq
  ·omega
 ·rintro ⟨p,x⟩ ⟨h1,h2,h3,h4⟩
  simp only at h1 h2 h3 h4
  subst h1
  unfold Gk
  exact Tot.iteF (by rw [Bool.and_eq_false_iff,decide_eq_false_iff_not,decide_eq_false_iff_not];show ¬(((min r.F.length 4:Nat):Int)<_)\/¬(((min r.F.length 4:Nat):Int)<4);omega) (Tot.pure ⟨by show p.F.length<=100;omega,h4⟩)
theorem S7 {α:Type} [DecidableEq α] {l m:List α} (h:l.Nodup) (hs:∀ x∈l,x∈m):l.length<=m.length:=by
 induction l generalizing m with
 | nil=>simp
 | cons a l ih=>
  rw [List.nodup_cons] at h
  have ha:=hs a (by simp)
  have hlen:(m.erase a).length=m.length-1:=List.length_erase_of_mem ha
  have hpos:0<m.length:=List.length_pos_of_mem ha
  have:=ih (m:=m.erase a) h.2 λ x hx=>by
   have hne:x≠a:=λ e=>h.1 (e▸hx)
   exact (List.mem_erase_of_ne hne).2 (hs x (by simp [hx]))
  simp
  omega
structure PtL (k:Nat) (l:List Aa):Prop where
 len:l.length<=k
 nr:∀ p∈l,Nr p
theorem NI {a b:List Aa} (ha:PtL 1000000 a) (hb:PtL 1000000 b):Tot (λ n=>BB n a b) (λ _=>True):=by
 have hal:=ha.len
 have hbl:=hb.len
 refine Tot.bind (R:=λ _=>True) ?_ λ _ _=>Tot.pure trivial
 refine Tot.upto a.length (λ i (x:Int×Int)=>x.2=(i:Int)) ?_ ?_ _ rfl
 ·rintro i ⟨o,x⟩ hi h1
  simp only at h1
  subst h1
  unfold B6
  refine Tot.iteT (EJ hi) (Tot.bind (R:=λ _=>True) ?_ λ _ _=>Tot.pure (Aq (by omega)))
  refine Tot.upto b.length (λ i (x:Int×Int)=>x.2=(i:Int)) ?_ ?_ _ rfl
  ·rintro k ⟨o,x⟩ hk h1
   simp only at h1
   subst h1
   unfold B5
   refine Tot.iteT (EJ hk) (Tot.bindC (AF hi) (Tot.bindC (AF hk) (Tot.bindA (λ n=>JbS n (ha.nr _ (JlN hi)) (hb.nr _ (JlN hk))) (Tot.ite (λ _=>Tot.pure (Aq (by omega))) λ _=>Tot.pure (Aq (by omega))))))
  ·rintro ⟨o,x⟩ h1
   simp only at h1
   subst h1
   unfold B5
   exact Tot.iteF (C3 _) (Tot.pure trivial)
 ·rintro ⟨o,x⟩ h1
  simp only at h1
  subst h1
  unfold B6
  exact Tot.iteF (C3 _) (Tot.pure trivial)
theorem RW {l:List Aa} (q:Aa) (hl:l.length<=1000000):Ev (λ n=>Kh n l q) (decide (q∈l)):=by
 refine Tot.ev (Tot.bind (R:=λ y=>y=if q∈l then .inr true else .inl ()) ?_ λ y hy=>?_)
 ·refine Tot.upto l.length (λ i (x:Int)=>x=(i:Int)/\q ∉ l.take i) ?_ ?_ _ ⟨rfl,by simp⟩
  ·rintro i _ hi ⟨rfl,hj⟩
   unfold Hu
   refine Tot.iteT (decide_eq_true (by omega)) (Tot.bindC (AF hi) ?_)
   rw [Jja]
   refine Tot.ite (λ hb=>Tot.pure ?_) λ hb=>Tot.pure ⟨Aq (by omega),?_⟩
   ·show _=_
    rw [if_pos]
    rw [← of_decide_eq_true hb]
    exact JlN _
   ·rw [List.take_succ_eq_append_getElem hi,List.mem_append,List.mem_singleton]
    rintro (h|h)
    ·exact hj h
    ·exact of_decide_eq_false hb h.symm
  ·rintro _ ⟨rfl,hj⟩
   unfold Hu
   refine Tot.iteF (decide_eq_false (by omega)) (Tot.pure ?_)
   show _=_
   rw [if_neg]
   rw [List.take_length] at hj
   exact hj
 ·subst hy
  by_cases h:q∈l
  ·rw [if_pos h,decide_eq_true h];exact Tot.pure rfl
  ·rw [if_neg h,decide_eq_false h];exact Tot.pure rfl
theorem Pr {l:List Aa} (hl:l.length<=100000):Tot (λ n=>Hv n l) (λ z=>(z.Nodup/\z.length<=l.length)/\∀ p,p∈z↔p∈l):=by
 refine Tot.bind (R:=λ z=>(z.Nodup/\z.length<=l.length)/\∀ p,p∈z↔p∈l) ?_ λ z hz=>Tot.pure hz
 refine Tot.upto l.length (λ i (x:List Aa×Int)=>x.2=(i:Int)/\(x.1.Nodup/\x.1.length<=i)/\∀ p,p∈x.1↔p∈l.take i) ?_ ?_ _ ⟨rfl,⟨List.nodup_nil,by simp⟩,by simp⟩
 ·rintro i ⟨o,x⟩ hi ⟨h1,⟨h2,h3⟩,h4⟩
  simp only at h1 h2 h3 h4
  subst h1
  unfold Et
  refine Tot.iteT (EJ hi) (Tot.bindC (AF hi) (Tot.bindE (RW _ (show o.length<=1000000 by omega)) (Tot.ite (λ hb=>Tot.pure ⟨Aq (by omega),⟨h2,by show o.length<=i+1;omega⟩,λ p=>?_⟩) λ hb=>?_)))
  ·rw [decide_eq_true_eq] at hb
   rw [List.take_succ_eq_append_getElem hi,List.mem_append,List.mem_singleton,← h4]
   constructor
   ·exact .inl
   ·rintro (h|rfl)
    ·exact h
    ·exact hb
  ·rw [decide_eq_false_iff_not] at hb
   refine Tot.bind (R:=λ y=>∃ k:Nat,y=(k:Int)/\k<=o.length) ?_ λ y hy=>?_
   ·refine Tot.whl (λ q (x:Int)=>x=(q:Int)/\q<=o.length) ?_ o.length _ ⟨rfl,JlP _⟩
    rintro q _ ⟨rfl,hq⟩
    unfold GP
    cases q with
    | zero=>exact Tot.gF rfl (Tot.gF rfl (Tot.gF rfl (Tot.iteF rfl (Tot.pure ⟨0,rfl,by omega⟩))))
    | succ q=>
     have e:AT .i64 ((q+1:Nat):Int) 1=(q:Int):=(CC (by omega) (by omega)).trans (by omega)
     have hd:decide (((q+1:Nat):Int)>0)=true:=decide_eq_true (by omega)
     rw [e,hd]
     refine Tot.gE rfl (Ev.all λ n=>AF hi) (Tot.gE rfl (Ev.all λ n=>AF (show q<o.length by omega)) (Tot.gE rfl (Ev.all λ n=>rfl) (Tot.ite (λ _=>Tot.pure ⟨q,by omega,rfl,by omega⟩) λ _=>Tot.pure ⟨q+1,rfl,hq⟩)))
   ·obtain ⟨k,rfl,hk⟩:=hy
    have e1:((o.take ((o.length:Nat):Int).toNat).drop (k:Int).toNat)=o.drop k:=by simp
    have e2:((o.take (k:Int).toNat).drop (0:Int).toNat)=o.take k:=by simp
    refine Tot.bindC (HJ (by omega) (show (k:Int)<=((o.length:Nat):Int) by omega) (Int.le_refl _)) ?_
    rw [e1]
    refine Tot.bindC (Bf (by simp;omega)) (Tot.bindC (HJ (Int.le_refl 0) (by omega) (show (k:Int)<=((o.length:Nat):Int) by omega)) ?_)
    rw [e2,List.nil_append]
    have hperm:(o.take k++[l[i]]++o.drop k).Perm (l[i]::o):=by
     have:(o.take k++[l[i]]++o.drop k).Perm ([l[i]]++o.take k++o.drop k):=(List.perm_append_comm).append_right _
     rw [List.append_assoc ([l[i]]),List.take_append_drop] at this
     exact this
    refine Tot.bindC (AF hi) (Tot.bindC (Bf (by simp;omega)) (Tot.bindC (Bf (by simp;omega)) (Tot.pure ⟨Aq (by omega),⟨hperm.nodup_iff.2 (List.nodup_cons.2 ⟨hb,h2⟩),?_⟩,λ p=>?_⟩)))
    ·have:=hperm.length_eq
     show (o.take k++[l[i]]++o.drop k).length<=i+1
     rw [this,List.length_cons];omega
    ·show p∈o.take k++[l[i]]++o.drop k↔_
     rw [hperm.mem_iff,List.mem_cons,h4,List.take_succ_eq_append_getElem hi,List.mem_append,List.mem_singleton]
     exact or_comm
 ·rintro ⟨o,x⟩ ⟨h1,⟨h2,h3⟩,h4⟩
  simp only at h1 h2 h3 h4
  subst h1
  unfold Et
  rw [List.take_length] at h4
  exact Tot.iteF (C3 _) (Tot.pure ⟨⟨h2,h3⟩,h4⟩)
theorem V3 {l:List Aa} (hl:PtL 100000 l) (gap:Int):Tot (λ n=>HT n l gap) (λ _=>True):=by
 have hlen:=hl.len
 refine Tot.bind (Pr hlen) λ z hz=>Tot.bind (R:=λ _=>True) ?_ λ _ _=>Tot.pure trivial
 obtain ⟨⟨z1,z2⟩,z3⟩:=hz
 refine Tot.whl (λ q (x:List Aa×List (List Aa))=>x.1.length=q/\(x.1.Nodup/\PtL 100000 x.1)/\x.2.length+q<=100000) ?_ z.length _ ⟨rfl,⟨z1,show z.length<=100000 by omega,λ p hp=>hl.nr p ((z3 p).1 hp)⟩,by simp;omega⟩
 rintro q ⟨rest,out⟩ ⟨h1,⟨h2,h3⟩,h4⟩
 simp only at h1 h2 h3 h4
 subst h1
 unfold E8
 have hrl:=h3.len
 cases hr:rest with
 | nil=>exact Tot.iteF rfl (Tot.pure trivial)
 | cons r0 rs=>
  rw [← hr]
  have hp:0<rest.length:=by rw [hr];simp
  have hr0:r0∈rest:=by rw [hr];exact List.mem_cons_self ..
  refine Tot.iteT (decide_eq_true (show (0:Int)<((rest.length:Nat):Int) by omega)) (Tot.bindC (Da (i:=0) hp) ?_)
  have e0:rest.getD 0 default=r0:=by rw [hr];rfl
  rw [e0]
  have hsub:∀ {o:List Aa},o.Nodup->(∀ p∈o,p∈rest)->o.length<=rest.length:=λ h1 h2=>S7 h1 h2
  refine Tot.bind (R:=λ one=>(r0∈one/\one.Nodup)/\∀ p∈one,p∈rest) ?_ λ one h1=>?_
  ·refine Tot.whl (λ m (x:List Aa×Bool)=>m=2*(rest.length-x.1.length)+(if x.2=true then 1 else 0)/\(r0∈x.1/\x.1.Nodup)/\∀ p∈x.1,p∈rest) ?_ _ _ ⟨rfl,⟨by simp,by simp⟩,by simpa using hr0⟩
   rintro m ⟨one,gr⟩ ⟨hm,⟨g1,g2⟩,g3⟩
   simp only at hm g1 g2 g3
   subst hm
   unfold E6
   cases gr with
   | false=>exact Tot.iteF rfl (Tot.pure ⟨⟨g1,g2⟩,g3⟩)
   | true=>
    refine Tot.iteT rfl (Tot.bind (R:=λ y:List Aa×Bool=>(one.length<=y.1.length/\(y.2=true->one.length<y.1.length))/\(r0∈y.1/\y.1.Nodup)/\∀ p∈y.1,p∈rest) ?_ λ y hy=>Tot.pure ⟨_,?_,rfl,hy.2⟩)
    ·refine Tot.upto rest.length (λ i (x:List Aa×Bool×Int)=>x.2.2=(i:Int)/\(one.length<=x.1.length/\(x.2.1=true->one.length<x.1.length))/\(r0∈x.1/\x.1.Nodup)/\∀ p∈x.1,p∈rest) ?_ ?_ _ ⟨rfl,⟨JlP _,λ h=>by cases h⟩,⟨g1,g2⟩,g3⟩
     ·rintro i ⟨o,g,x⟩ hi ⟨k1,⟨k2,k2'⟩,⟨k3,k4⟩,k5⟩
      simp only at k1 k2 k2' k3 k4 k5
      subst k1
      unfold Dj
      have hol:=hsub k4 k5
      have hsb:sub rest (i:Int) (Aj .i64 (i:Int) 1)=some [rest[i]]:=by
       rw [Aq (by omega),HJ (by omega) (by omega) (by omega),Jl8,Jl8,List.take_succ_eq_append_getElem hi,List.drop_left' (by simp;omega)]
      have ho:PtL 1000000 o:=⟨by omega,λ p hp=>h3.nr p (k5 p hp)⟩
      have h1p:PtL 1000000 [rest[i]]:=⟨by simp,λ p hp=>by rw [List.mem_singleton] at hp;subst hp;exact h3.nr _ (JlN hi)⟩
      refine Tot.iteT (EJ hi) (Tot.bindC (AF hi) (Tot.bindE (RW _ ho.len) ?_))
      by_cases hin:rest[i]∈o
      ·rw [decide_eq_true hin]
       exact Tot.gF rfl (Tot.gF rfl (Tot.iteF rfl (Tot.pure ⟨Aq (by omega),⟨k2,k2'⟩,⟨k3,k4⟩,k5⟩)))
      ·rw [decide_eq_false hin]
       refine Tot.gE rfl (Ev.all λ n=>hsb) (Tot.guard (R:=λ _=>True) (λ _=>NI ho h1p) λ d _=>Tot.ite (λ _=>?_) λ _=>Tot.pure ⟨Aq (by omega),⟨k2,k2'⟩,⟨k3,k4⟩,k5⟩)
       refine Tot.bindC (AF hi) (Tot.bindC (Bf (by simp;omega)) (Tot.pure ⟨Aq (by omega),⟨?_,λ _=>?_⟩,⟨?_,?_⟩,λ p hp=>?_⟩))
       ·show one.length<=(o++[rest[i]]).length
        rw [List.length_append];omega
       ·show one.length<(o++[rest[i]]).length
        rw [List.length_append];simp only [List.length_singleton];omega
       ·exact List.mem_append_left _ k3
       ·show (o++[rest[i]]).Nodup
        rw [List.nodup_append]
        exact ⟨k4,by simp,λ a ha b hb e=>by rw [List.mem_singleton] at hb;subst hb;subst e;exact hin ha⟩
       ·rw [List.mem_append,List.mem_singleton] at hp
        rcases hp with hp|rfl
        ·exact k5 p hp
        ·exact JlN hi
     ·rintro ⟨o,g,x⟩ ⟨k1,k2,k3,k5⟩
      simp only at k1 k2 k3 k5
      subst k1
      unfold Dj
      exact Tot.iteF (C3 _) (Tot.pure ⟨k2,k3,k5⟩)
    ·obtain ⟨⟨y1,y2⟩,⟨_,y4⟩,y5⟩:=hy
     have:=hsub y4 y5
     have h0:=hsub g2 g3
     show 2*(rest.length-y.1.length)+(if y.2=true then 1 else 0)<2*(rest.length-one.length)+(if true=true then 1 else 0)
     rw [if_pos rfl]
     split
     ·rename_i hb
      have:=y2 hb
      omega
     ·omega
  ·obtain ⟨⟨o1,o2⟩,o3⟩:=h1
   have hol:=hsub o2 o3
   have hone:one.length<=100000:=by omega
   refine Tot.bind (R:=λ y:List Aa=>y.length<rest.length/\y.Nodup/\∀ p∈y,p∈rest) ?_ λ y hy=>?_
   ·refine Tot.upto rest.length (λ i (x:List Aa×Int)=>x.2=(i:Int)/\x.1=(rest.take i).filter λ p=>!(decide (p∈one))) ?_ ?_ _ ⟨rfl,by simp⟩
    ·rintro i ⟨o,x⟩ hi ⟨k1,k2⟩
     simp only at k1 k2
     subst k1
     unfold Dk
     have hol:o.length<=i:=by
      rw [k2]
      have:=List.length_filter_le (λ p=>!(decide (p∈one))) (rest.take i)
      rw [List.length_take] at this
      omega
     refine Tot.iteT (EJ hi) (Tot.bindC (AF hi) (Tot.bindE (RW _ (by omega)) ?_))
     rw [List.take_succ_eq_append_getElem hi,List.filter_append,← k2]
     by_cases hin:rest[i]∈one
     ·rw [decide_eq_true hin]
      refine Tot.iteF rfl (Tot.pure ⟨Aq (by omega),?_⟩)
      simp [hin]
     ·rw [decide_eq_false hin]
      refine Tot.iteT rfl (Tot.bindC (AF hi) (Tot.bindC (Bf (by simp;omega)) (Tot.pure ⟨Aq (by omega),?_⟩)))
      simp [hin]
    ·rintro ⟨o,x⟩ ⟨k1,k2⟩
     simp only at k1 k2
     subst k1
     unfold Dk
     rw [List.take_length] at k2
     subst k2
     refine Tot.iteF (C3 _) (Tot.pure ⟨?_,h2.sublist (List.filter_sublist ..),λ p hp=>(List.mem_filter.1 hp).1⟩)
     show (rest.filter _).length<rest.length
     rw [hr,List.filter_cons_of_neg (by simp [o1])]
     have:=List.length_filter_le (λ p=>!(decide (p∈one))) rs
     rw [List.length_cons];omega
   ·obtain ⟨y1,y2,y3⟩:=hy
    refine Tot.bind (Pr hone) λ s hs=>Tot.bindC (Bf (by simp;omega)) (Tot.pure ⟨y.length,y1,rfl,⟨y2,show y.length<=100000 by omega,λ p hp=>h3.nr p (y3 p hp)⟩,by simp;omega⟩)
end Go.AI
end
section
namespace Go.AI
def bxG:List Aa:=(List.range 60).flatMap λ (y:Nat)=>(List.range 60).map λ (x:Nat)=>(⟨(x:Int),(y:Int)⟩:Aa)
theorem JeP:bxG.length=3600:=by kernel_rfl
theorem JeQ {p:Aa} (h:Bx p):p∈bxG:=by
 obtain ⟨X,Y⟩:=p
 unfold Bx at h
 simp only at h
 unfold bxG
 rw [List.mem_flatMap]
 refine ⟨Y.toNat,List.mem_range.2 (by omega),JlS.2 ⟨X.toNat,List.mem_range.2 (by omega),?_⟩⟩
 rw [Int.toNat_of_nonneg (by omega),Int.toNat_of_nonneg (by omega)]
theorem JeR {r:List Aa} (h:Inc r) (hb:∀ p∈r,Bx p):PtL 3600 r:=by
 refine ⟨?_,λ p hp=>(hb p hp).nr⟩
 have:=S7 h.nodup λ p hp=>JeQ (hb p hp)
 rwa [JeP] at this
theorem Yc {f:Ax} (hv:LF f=true):Tot (λ n=>C7 n f) (PtL 3600):=(Jb5 hv).mono λ r hr=>JeR hr.1 λ p hp=>Jjd hv ((hr.2 p).1 hp)
theorem V4 {l:List Aa} (hl:l.length<=1000000) (w h:Int):Tot (λ n=>Kg n l w h) (λ _=>True):=by
 refine Tot.bind (R:=λ _=>True) ?_ λ y _=>by
  cases y with
  | inl _=>exact Tot.pure trivial
  | inr _=>exact Tot.pure trivial
 refine Tot.upto l.length (λ i (x:Int)=>x=(i:Int)) (λ i x hi hx=>?_) (λ x hx=>?_) _ rfl
 ·subst hx
  unfold Er
  have g:∀ (c:Bool) (P:Nat->Aa->Option (Int⊕(Unit⊕Bool))) (Q:Int⊕(Unit⊕Bool)->Prop),(∀ x,Tot (λ n=>P n x) Q)->Tot (λ n=>(if c=true then idx l (i:Int) else some default).bind (P n)) Q:=λ c P Q hP=>Tot.guard (R:=λ _=>True) (λ _=>Tot.all (λ n=>AF hi) trivial) λ x _=>hP x
  refine Tot.iteT (EJ hi) (Tot.bindC (AF hi) (g _ _ _ λ x1=>g _ _ _ λ x2=>g _ _ _ λ x3=>Tot.ite (λ _=>Tot.pure trivial) λ _=>Tot.pure (Aq (by omega))))
 ·subst hx
  unfold Er
  exact Tot.iteF (C3 _) (Tot.pure trivial)
structure Xi (p:Af):Prop where
 w:4<=p.W/\p.W<=60
 h:3<=p.H/\p.H<=60
 g:2<=p.Gap/\p.Gap<=6
 f:p.F.length<=8
 v:∀ x∈p.F,LF x=true
theorem Xj {p:Af} (hs:V2 p):Tot (λ n=>E4 n p) (λ b=>b=true->Xi p):=by
 have hf:=hs.f
 unfold E4
 refine Tot.ite (λ _=>Tot.pure λ h=>by cases h) λ hc=>?_
 simp only [JlX,decide_eq_false_iff_not] at hc
 refine Tot.bind (R:=λ y:Unit⊕Bool=>(y=.inl ()->∀ x∈p.F,LF x=true)/\y≠.inr true) ?_ λ y hy=>by
  cases y with
  | inl _=>exact Tot.pure λ _=>⟨by omega,by omega,by omega,by omega,hy.1 rfl⟩
  | inr b=>exact Tot.pure λ h=>absurd (by rw [h]) hy.2
 refine Tot.upto p.F.length (λ i (x:Int)=>x=(i:Int)/\∀ f∈p.F.take i,LF f=true) ?_ ?_ _ ⟨rfl,by simp⟩
 ·rintro i _ hi ⟨rfl,hv⟩
  unfold Fj
  have hpl:=hs.p _ (JlN hi)
  refine Tot.iteT (EJ hi) (Tot.bindC (AF hi) (Tot.bindE (Xf _ (by omega)) ?_))
  cases hb:LF p.F[i] with
  | false=>exact Tot.gF rfl (Tot.gF rfl (Tot.gF rfl (Tot.iteT rfl (Tot.pure ⟨λ h=>(by cases h),λ h=>(by cases h)⟩))))
  | true=>
   refine Tot.gE rfl (Ev.all λ n=>AF hi) (Tot.gT rfl (Yc hb) λ r hr=>Tot.gT rfl (V4 (by have:=hr.len;omega) _ _) λ b _=>Tot.ite (λ _=>Tot.pure ⟨λ h=>(by cases h),λ h=>(by cases h)⟩) λ _=>Tot.pure ⟨Aq (by omega),λ f hf=>?_⟩)
   rw [List.take_succ_eq_append_getElem hi,List.mem_append,List.mem_singleton] at hf
   rcases hf with hf|rfl
   ·exact hv f hf
   ·exact hb
 ·rintro _ ⟨rfl,hv⟩
  unfold Fj
  rw [List.take_length] at hv
  exact Tot.iteF (C3 _) (Tot.pure ⟨λ _=>hv,λ h=>(by cases h)⟩)
structure Jb6 (k:Nat) (l:List (List Aa)):Prop where
 len:l.length=k
 pt:∀ r∈l,PtL 3600 r
theorem Jb6.at {k:Nat} {l:List (List Aa)} (h:Jb6 k l) {i:Nat} (hi:i<l.length):PtL 1000000 l[i]:=by
 have:=h.pt _ (JlN hi)
 exact ⟨by have:=this.len;omega,this.nr⟩
theorem KR {p:Af} (hv:Xi p):Tot (λ n=>FC n p) (Jb6 p.F.length):=by
 have hf:=hv.f
 refine Tot.bind (R:=Jb6 p.F.length) ?_ λ l hl=>Tot.pure hl
 refine Tot.upto p.F.length (λ i (x:List (List Aa)×Int)=>x.2=(i:Int)/\Jb6 i x.1) ?_ ?_ _ ⟨rfl,rfl,by simp⟩
 ·rintro i ⟨l,x⟩ hi ⟨h1,h2⟩
  simp only at h1 h2
  subst h1
  unfold Es
  have hll:=h2.len
  refine Tot.iteT (EJ hi) (Tot.bindC (AF hi) (Tot.bind (Yc (hv.v _ (JlN hi))) λ r hr=>Tot.bindC (Bf (by simp;omega)) (Tot.pure ⟨Aq (by omega),by simp;exact hll,λ q hq=>?_⟩)))
  rw [List.mem_append,List.mem_singleton] at hq
  rcases hq with hq|rfl
  ·exact h2.pt q hq
  ·exact hr
 ·rintro ⟨l,x⟩ ⟨h1,h2⟩
  simp only at h1 h2
  subst h1
  unfold Es
  exact Tot.iteF (C3 _) (Tot.pure h2)
theorem Jb7 {p:Af} (hb:Ev (λ n=>E4 n p) true) (hv:Xi p):Tot (λ n=>GN n p) (λ d=>d.length=p.F.length/\∀ r∈d,r.length=p.F.length):=by
 have hf:=hv.f
 refine Tot.bindE hb (Tot.iteF rfl (Tot.bind (KR hv) λ l hl=>?_))
 have hll:=hl.len
 refine Tot.bind (R:=λ d=>d.length=p.F.length/\∀ r∈d,r.length=p.F.length) ?_ λ d hd=>Tot.pure hd
 refine Tot.upto l.length (λ i (x:List (List Int)×Int)=>x.2=(i:Int)/\x.1.length=i/\∀ r∈x.1,r.length=p.F.length) ?_ ?_ _ ⟨rfl,rfl,by simp⟩
 ·rintro i ⟨d,x⟩ hi ⟨h1,h2,h3⟩
  simp only at h1 h2 h3
  subst h1
  unfold C0
  refine Tot.iteT (EJ hi) (Tot.bind (R:=λ r=>r.length=p.F.length) ?_ λ r hr=>Tot.bindC (Bf (by simp;omega)) (Tot.pure ⟨Aq (by omega),by simp;exact h2,λ q hq=>?_⟩))
  ·refine Tot.upto l.length (λ k (x:List Int×Int)=>x.2=(k:Int)/\x.1.length=k) ?_ ?_ _ ⟨rfl,rfl⟩
   ·rintro k ⟨r,x⟩ hk ⟨g1,g2⟩
    simp only at g1 g2
    subst g1
    unfold CZ
    exact Tot.iteT (EJ hk) (Tot.bindC (AF hi) (Tot.bindC (AF hk) (Tot.bind (NI (hl.at hi) (hl.at hk)) λ d _=>Tot.bindC (Bf (by simp;omega)) (Tot.pure ⟨Aq (by omega),by simp;exact g2⟩))))
   ·rintro ⟨r,x⟩ ⟨g1,g2⟩
    simp only at g1 g2
    subst g1
    unfold CZ
    exact Tot.iteF (C3 _) (Tot.pure (by show r.length=_;omega))
  ·rw [List.mem_append,List.mem_singleton] at hq
   rcases hq with hq|rfl
   ·exact h3 q hq
   ·exact hr
 ·rintro ⟨d,x⟩ ⟨h1,h2,h3⟩
  simp only at h1 h2 h3
  subst h1
  unfold C0
  exact Tot.iteF (C3 _) (Tot.pure ⟨by show d.length=_;omega,h3⟩)
end Go.AI
end
section
namespace Go.AI
theorem Xk {p:Af} (hs:V2 p):Tot (λ n=>Mj n p) (λ r=>r.E=0->Xi p):=by
 obtain ⟨b,hb,hbe⟩:=Xj hs
 refine Tot.bindE hbe (Tot.ite (λ _=>Tot.pure λ h=>by cases h) λ hc=>?_)
 have hbt:b=true:=by simpa using hc
 subst hbt
 have hv:=hb rfl
 have hf:=hv.f
 refine Tot.bind (KR hv) λ l hl=>Tot.bind (Jb7 hbe hv) λ d hd=>?_
 have hll:=hl.len
 have hfin:Tot (λ n=>(whl (λ (x:Int)=>Dw n p l d x) n 0)) (λ _=>True):=by
  refine Tot.upto l.length (λ i (x:Int)=>x=(i:Int)) (λ i x hi hx=>?_) (λ x hx=>?_) _ rfl
  ·subst hx
   unfold Dw
   refine Tot.iteT (EJ hi) (Tot.bind (R:=λ _=>True) ?_ λ y _=>by
    cases y with
    | inl _=>exact Tot.pure (Aq (by omega))
    | inr _=>exact Tot.pure trivial)
   refine Tot.whl (λ m (x:Int)=>∃ j:Nat,x=(j:Int)/\m=100-j) ?_ (100-(i+1)) _ ⟨i+1,Aq (by omega),rfl⟩
   rintro m _ ⟨j,rfl,rfl⟩
   unfold HU
   refine Tot.ite (λ h=>?_) λ _=>Tot.pure trivial
   rw [decide_eq_true_eq] at h
   have hi2:i<d.length:=by omega
   have hr:=hd.2 _ (JlN hi2)
   exact Tot.bindC (AF hi2) (Tot.bindC (AF (show j<d[i].length by omega)) (Tot.ite (λ _=>Tot.pure trivial) λ _=>Tot.pure ⟨100-(j+1),by omega,j+1,Aq (by omega),rfl⟩))
  ·subst hx
   unfold Dw
   exact Tot.iteF (C3 _) (Tot.pure trivial)
 refine Tot.bind (R:=λ _=>True) ?_ λ y _=>by
  cases y with
  | inr r=>exact Tot.pure λ _=>hv
  | inl _=>
   refine Tot.bind hfin λ y _=>?_
   cases y with
   | inr r=>exact Tot.pure λ _=>hv
   | inl _=>exact Tot.pure λ _=>hv
 refine Tot.upto l.length (λ i (x:Int)=>x=(i:Int)) (λ i x hi hx=>?_) (λ x hx=>?_) _ rfl
 ·subst hx
  unfold Fk
  have hp:=hl.pt _ (JlN hi)
  exact Tot.iteT (EJ hi) (Tot.bindC (AF hi) (Tot.bind (V3 ⟨by have:=hp.len;omega,hp.nr⟩ _) λ c _=>Tot.ite (λ _=>Tot.pure trivial) λ _=>Tot.pure (Aq (by omega))))
 ·subst hx
  unfold Fk
  exact Tot.iteF (C3 _) (Tot.pure trivial)
def LbP (p:Aa):Prop:=(0<=p.X/\p.X<=60)/\0<=p.Y/\p.Y<=60
theorem KT {i:Nat} (hi:i<8) {at_:Aa} (ha:LbP at_):Tot (λ n=>Cn n (i:Int) at_) (PtL 1000000):=by
 unfold LbP at ha
 have hc:Tot (λ n=>E9 n (i:Int)) (λ l=>l.length=2):=by
  unfold E9
  exact Tot.bindC (AF (show i<([1,3,9,25,17,11,27,19]:List Int).length from hi)) (Tot.pure rfl)
 refine Tot.bind hc λ c hc=>Tot.bind (R:=PtL 1000000) ?_ λ l hl=>Tot.pure hl
 refine Tot.upto 3 (λ r (x:List Aa×Int)=>x.2=(r:Int)/\PtL (4*r) x.1) ?_ ?_ _ ⟨rfl,by simp,by simp⟩
 ·rintro r ⟨l,x⟩ hr ⟨h1,h2⟩
  simp only at h1 h2
  subst h1
  unfold CA
  refine Tot.iteT (decide_eq_true (show (r:Int)<3 by omega)) (Tot.bind (R:=PtL (4*(r+1))) ?_ λ l hl=>Tot.pure ⟨Aq (by omega),hl⟩)
  refine Tot.upto 4 (λ k (x:List Aa×Int)=>x.2=(k:Int)/\PtL (4*r+k) x.1) ?_ ?_ _ ⟨rfl,h2⟩
  ·rintro k ⟨l,x⟩ hk ⟨g1,g2⟩
   simp only at g1 g2
   subst g1
   unfold Cz
   have hll:=g2.len
   have e1:∃ j:Nat,Du .i64 (k:Int) 2=(j:Int)/\j<2:=by
    have:k=0\/k=1\/k=2\/k=3:=by omega
    rcases this with rfl|rfl|rfl|rfl
    ·exact ⟨0,rfl,by omega⟩
    ·exact ⟨0,rfl,by omega⟩
    ·exact ⟨1,rfl,by omega⟩
    ·exact ⟨1,rfl,by omega⟩
   obtain ⟨j,hj,hj2⟩:=e1
   have e2:0<=Aj .i64 (BU .i64 3 (Ak (k:Int) 2)) (r:Int):=by
    obtain ⟨_,b2,b3⟩:=BN (a:=(k:Int)) (m:=2) (by omega) (by omega)
    rw [F5 (by omega) (by omega),EG (by omega) (by omega)];omega
   rw [hj]
   refine Tot.iteT (decide_eq_true (show (k:Int)<4 by omega)) (Tot.bindC (AF (show j<c.length by omega)) (Tot.bindC (D2 (decide_eq_true e2)) (Tot.ite (λ _=>?_) λ _=>Tot.pure ⟨Aq (by omega),by show l.length<=4*r+(k+1);omega,g2.nr⟩)))
   refine Tot.bindC (Bf (by simp;omega)) (Tot.pure ⟨Aq (by omega),by simp;omega,λ q hq=>?_⟩)
   rw [List.mem_append,List.mem_singleton] at hq
   rcases hq with hq|rfl
   ·exact g2.nr q hq
   ·unfold Nr
    simp only
    rw [F5 (a:=2) (by omega) (by omega),F5 (a:=3) (by omega) (by omega),EG (by omega) (by omega),EG (by omega) (by omega)]
    omega
  ·rintro ⟨l,x⟩ ⟨g1,g2⟩
   simp only at g1 g2
   subst g1
   unfold Cz
   exact Tot.iteF rfl (Tot.pure g2)
 ·rintro ⟨l,x⟩ ⟨h1,h2⟩
  simp only at h1 h2
  subst h1
  unfold CA
  exact Tot.iteF rfl (Tot.pure ⟨by have:=h2.len;show l.length<=_;omega,h2.nr⟩)
theorem JeS {p:Af} (hv:Xi p) {i:Nat} (hi:i<p.F.length) (a:Aa):Tot (λ n=>N7 n p (i:Int) a) (λ _=>True):=by
 have hf:=hv.f
 refine Tot.ite (λ _=>Tot.pure trivial) λ hc=>?_
 simp only [JlX,decide_eq_false_iff_not] at hc
 have ha:LbP a:=by unfold LbP;omega
 refine Tot.bind (KR hv) λ l hl=>Tot.bind (KT (by omega) ha) λ q hq=>?_
 have hll:=hl.len
 refine Tot.bind (R:=λ _=>True) ?_ λ y _=>by
  cases y with
  | inr b=>exact Tot.pure trivial
  | inl _=>exact Tot.bindC (AF (show i<l.length by omega)) (Tot.bind (NI hq (hl.at _)) λ d _=>Tot.pure trivial)
 refine Tot.upto l.length (λ k (x:Int)=>x=(k:Int)) (λ k x hk hx=>?_) (λ x hx=>?_) _ rfl
 ·subst hx
  unfold Gn
  exact Tot.iteT (EJ hk) (Tot.bindC (AF hk) (Tot.bind (NI hq (hl.at hk)) λ d _=>Tot.ite (λ _=>Tot.pure trivial) λ _=>Tot.pure (Aq (by omega))))
 ·subst hx
  unfold Gn
  exact Tot.iteF (C3 _) (Tot.pure trivial)
structure LbL (l:List Aa):Prop where
 len:l.length<=100000
 p:∀ q∈l,LbP q
theorem Jb8 {p:Af} (hv:Xi p) {i:Nat} (hi:i<p.F.length):Tot (λ n=>FR n p (i:Int)) LbL:=by
 have hw:=hv.w
 have hh:=hv.h
 refine Tot.bind (R:=LbL) ?_ λ l hl=>Tot.pure hl
 refine Tot.whl (λ m (x:List Aa×Int)=>∃ y:Nat,x.2=(y:Int)/\(m=100-y/\y<=60)/\x.1.length<=100*y/\∀ q∈x.1,LbP q) ?_ 100 _ ⟨0,rfl,⟨rfl,by omega⟩,by simp,by simp⟩
 rintro m ⟨l,x⟩ ⟨y,h1,⟨rfl,hy⟩,h2,h3⟩
 simp only at h1 h2 h3
 subst h1
 unfold DR
 have e:BU .i64 3 (Aj .i64 (y:Int) 1)=3*((y:Int)+1):=by rw [EG (by omega) (by omega),F5 (by omega) (by omega)]
 rw [e]
 refine Tot.ite (λ hc=>?_) λ _=>Tot.pure ⟨by show l.length<=_;omega,h3⟩
 rw [decide_eq_true_eq] at hc
 refine Tot.bind (R:=λ l:List Aa=>l.length<=100*(y+1)/\∀ q∈l,LbP q) ?_ λ l hl=>Tot.pure ⟨100-(y+1),by omega,y+1,Aq (by omega),⟨rfl,by omega⟩,hl⟩
 refine Tot.whl (λ m (z:List Aa×Int)=>∃ x:Nat,z.2=(x:Int)/\(m=100-x/\x<=60)/\z.1.length<=100*y+x/\∀ q∈z.1,LbP q) ?_ 100 _ ⟨0,rfl,⟨rfl,by omega⟩,h2,h3⟩
 rintro m ⟨l,z⟩ ⟨x,g1,⟨rfl,hx⟩,g2,g3⟩
 simp only at g1 g2 g3
 subst g1
 unfold DQ
 have e:BU .i64 2 (Aj .i64 (x:Int) 2)=2*((x:Int)+2):=by rw [EG (by omega) (by omega),F5 (by omega) (by omega)]
 rw [e]
 refine Tot.ite (λ hc'=>?_) λ _=>Tot.pure ⟨by show l.length<=_;omega,g3⟩
 rw [decide_eq_true_eq] at hc'
 refine Tot.bind (JeS hv hi _) λ b _=>Tot.ite (λ _=>?_) λ _=>Tot.pure ⟨100-(x+1),by omega,x+1,Aq (by omega),⟨rfl,by omega⟩,by show l.length<=_;omega,g3⟩
 refine Tot.bindC (Bf (by simp;omega)) (Tot.pure ⟨100-(x+1),by omega,x+1,Aq (by omega),⟨rfl,by omega⟩,by simp;omega,λ q hq=>?_⟩)
 rw [List.mem_append,List.mem_singleton] at hq
 rcases hq with hq|rfl
 ·exact g3 q hq
 ·unfold LbP;simp only;omega
structure LbA (a:List (List Aa)):Prop where
 len:a.length<=8
 l:∀ r∈a,LbL r
theorem LbP.d {l:List Aa} (h:∀ q∈l,LbP q) {i:Nat} (hi:i<l.length):LbP l[i]:=h _ (JlN hi)
theorem ZA {p:Af} {a:List (List Aa)} (ha:LbA a):∀ (d:Nat) (l:List Aa),l.length<=a.length->a.length-l.length<d->(∀ q∈l,LbP q)->Tot (λ n=>JP (λ _ _ _=>none) (A5 n) d p l a) (λ _=>True):=by
 have hal:=ha.len
 intro d
 induction d with
 | zero=>intro l _ h;omega
 | succ d ih=>
  intro l hl hd hp
  show Tot (λ n=>A5 n (JP (λ _ _ _=>none) (A5 n) d) p l a) _
  unfold A5
  refine Tot.ite (λ _=>Tot.pure trivial) λ hne=>?_
  rw [beq_eq_false_iff_ne] at hne
  have hlt:l.length<a.length:=by omega
  have hr:=ha.l _ (JlN hlt)
  have hrl:=hr.len
  refine Tot.bind (R:=λ _=>True) ?_ λ y _=>by
   cases y with
   | inl _=>exact Tot.pure trivial
   | inr _=>exact Tot.pure trivial
  refine Tot.upto (body:=λ n x=>BL n (JP (λ _ _ _=>none) (A5 n) d) p l a x) a[l.length].length (λ k (x:Int)=>x=(k:Int)) (λ k x hk hx=>?_) (λ x hx=>?_) _ rfl
  ·subst hx
   unfold BL
   have hq:=LbP.d hr.p hk
   refine Tot.bindC (AF hlt) (Tot.iteT (EJ hk) (Tot.bind (R:=λ _=>True) ?_ λ b _=>Tot.ite (λ _=>Tot.pure (Aq (by omega))) λ _=>?_))
   ·refine Tot.upto l.length (λ j (x:Bool×Int)=>x.2=(j:Int)) ?_ ?_ _ rfl
    ·rintro j ⟨f,x⟩ hj h1
     simp only at h1
     subst h1
     unfold B7
     have hj':=LbP.d hp hj
     refine Tot.iteT (EJ hj) ?_
     cases f with
     | false=>exact Tot.gF rfl (Tot.gF rfl (Tot.gF rfl (Tot.gF rfl (Tot.gF rfl (Tot.gF rfl (Tot.pure (Aq (by omega))))))))
     | true=>exact Tot.gE rfl (Ev.all λ n=>AF hlt) (Tot.gE rfl (Ev.all λ n=>AF hk) (Tot.gT rfl (KT (show l.length<8 by omega) hq) λ r1 hr1=>Tot.gE rfl (Ev.all λ n=>AF hj) (Tot.gT rfl (KT (show j<8 by omega) hj') λ r2 hr2=>Tot.gT rfl (NI hr1 hr2) λ d _=>Tot.pure (Aq (by omega)))))
    ·rintro ⟨f,x⟩ h1
     simp only at h1
     subst h1
     unfold B7
     exact Tot.iteF (C3 _) (Tot.pure trivial)
   ·refine Tot.bindC (Bf (by simp;omega)) (Tot.bindC (AF hlt) (Tot.bindC (AF hk) (Tot.bindC (Bf (by simp;omega)) (Tot.bind (ih _ (by simp;omega) (by simp;omega) λ q hq'=>?_) λ r _=>Tot.ite (λ _=>Tot.pure trivial) λ _=>Tot.pure (Aq (by omega))))))
    rw [List.nil_append,List.mem_append,List.mem_singleton] at hq'
    rcases hq' with hq'|rfl
    ·exact hp q hq'
    ·exact hq
  ·subst hx
   unfold BL
   exact Tot.bindC (AF hlt) (Tot.iteF (C3 _) (Tot.pure trivial))
theorem ZB (n:Nat):∀ (x y:Nat),x<=y->∀ a b c,Le (JP (λ _ _ _=>none) (A5 n) x a b c) (JP (λ _ _ _=>none) (A5 n) y a b c):=by
 intro x
 induction x with
 | zero=>intro y _ _ _ _ z hz;cases hz
 | succ x ih=>
  intro y hy _ _ _
  cases y with
  | zero=>omega
  | succ y=>exact MG (JlP n) (ih y (by omega)) _ _ _
theorem Xl {p:Af} {a:List (List Aa)} (ha:LbA a) {l:List Aa} (hl:l.length<=a.length) (hp:∀ q∈l,LbP q):Tot (λ n=>HV n p l a) (λ _=>True):=by
 obtain ⟨z,hz,N,hN⟩:=ZA (p:=p) ha (a.length+1) l hl (by omega) hp
 exact ⟨z,hz,max N (a.length+1),λ m hm=>ZB m (a.length+1) m (by omega) _ _ _ _ (hN m (by omega))⟩
theorem Xm {p:Af} {a:List (List Aa)} (ha:LbA a):Tot (λ n=>GQ n p a) (λ _=>True):=by
 have hal:=ha.len
 have hB:Tot (λ n=>B8 n (JP (λ _ _=>none) (B8 n) (n-1)) p a) (λ _=>True):=by
  unfold B8
  refine Tot.ite (λ _=>Tot.pure trivial) λ hne=>?_
  rw [beq_eq_false_iff_ne] at hne
  have hlt:0<a.length:=by omega
  have hr:=ha.l _ (JlN hlt)
  have hrl:=hr.len
  have h0:idx a 0=some a[0]:=AF hlt
  refine Tot.bind (R:=λ _=>True) ?_ λ y _=>by
   cases y with
   | inl _=>exact Tot.pure trivial
   | inr _=>exact Tot.pure trivial
  refine Tot.upto a[0].length (λ k (x:Int)=>x=(k:Int)) (λ k x hk hx=>?_) (λ x hx=>?_) _ rfl
  ·subst hx
   unfold C1
   have hq:=LbP.d hr.p hk
   refine Tot.bindC h0 (Tot.iteT (EJ hk) (Tot.bind (R:=λ _=>True) ?_ λ b _=>Tot.ite (λ _=>Tot.pure (Aq (by omega))) λ _=>?_))
   ·refine Tot.upto 0 (λ j (x:Bool×Int)=>x.2=0) (λ _ _ h _=>by omega) ?_ _ rfl
    rintro ⟨f,x⟩ h1
    simp only at h1
    subst h1
    unfold Ew
    exact Tot.iteF rfl (Tot.pure trivial)
   ·refine Tot.bindC (Bf (by simp)) (Tot.bindC h0 (Tot.bindC (AF hk) (Tot.bindC (Bf (by simp)) (Tot.bind (Xl ha (by simp;omega) λ q hq'=>?_) λ r _=>Tot.ite (λ _=>Tot.pure trivial) λ _=>Tot.pure (Aq (by omega))))))
    simp only [List.nil_append,List.mem_singleton] at hq'
    subst hq'
    exact hq
  ·subst hx
   unfold C1
   exact Tot.bindC h0 (Tot.iteF (C3 _) (Tot.pure trivial))
 obtain ⟨z,hz,N,hN⟩:=hB
 refine ⟨z,hz,max N 1,λ m hm=>?_⟩
 obtain ⟨k,rfl⟩:∃ k,m=k+1:=⟨m-1,by omega⟩
 exact hN (k+1) (by omega)
theorem Jb9 {p:Af} (hv:Xi p):Tot (λ n=>Mk n p) (λ _=>True):=by
 have hf:=hv.f
 refine Tot.bind (R:=λ _=>True) ?_ λ y _=>by
  cases y with
  | inl _=>exact Tot.pure trivial
  | inr _=>exact Tot.pure trivial
 refine Tot.upto p.F.length (λ i (x:List (List Aa)×List Aa×Int)=>x.2.2=(i:Int)/\x.1.length=i/\∀ r∈x.1,LbL r) ?_ ?_ _ ⟨rfl,rfl,by simp⟩
 ·rintro i ⟨a,b,x⟩ hi ⟨h1,h2,h3⟩
  simp only at h1 h2 h3
  subst h1
  unfold Fl
  refine Tot.iteT (EJ hi) (Tot.bind (Jb8 hv hi) λ r hr=>Tot.bindC (Bf (by simp;omega)) ?_)
  have hm:∀ q∈a++[r],LbL q:=λ q hq=>by
   rw [List.mem_append,List.mem_singleton] at hq
   rcases hq with hq|rfl
   ·exact h3 q hq
   ·exact hr
  exact Tot.bind (Xm ⟨by simp;omega,hm⟩) λ s _=>Tot.ite (λ _=>Tot.pure trivial) λ _=>Tot.pure ⟨Aq (by omega),by simp;exact h2,hm⟩
 ·rintro ⟨a,b,x⟩ ⟨h1,h2,h3⟩
  simp only at h1 h2 h3
  subst h1
  unfold Fl
  exact Tot.iteF (C3 _) (Tot.pure trivial)
theorem S8 {p:Af} (hs:V2 p):Tot (λ n=>D0 n p) (λ _=>True):=by
 refine Tot.bind (Xk hs) λ r hr=>Tot.ite (λ _=>Tot.pure trivial) λ hc=>?_
 exact Tot.bind (Jb9 (hr (by simpa using hc))) λ _ _=>Tot.pure trivial
end Go.AI
end
section
namespace Go.AI
def FJ (s:List UInt8) (c:Ab):List UInt8:=(s.take c.At.toNat++c.Put)++s.drop (c.At+c.Cut).toNat
def Jm (s:List UInt8) (c:Ab):Bool:=decide ((0<=c.At/\0<=c.Cut)/\c.At+c.Cut<=(s.length:Int))
def KU (x:Ad) (s:List UInt8):Ad:={ Kind:=x.Kind,Level:=x.Level,Text:=s,Rows:=x.Rows,F:=x.F,Pic:=x.Pic,Page:=x.Page }
def Ha (b:List Ad) (i:Int) (s:List UInt8):List Ad:=b.set i.toNat (KU (B1 b i) s)
def apB (b:List Ad) (c:Ab):Bool:=wdB b c.Block&&(Jm (B1 b c.Block).Text c&&clS (FJ (B1 b c.Block).Text c))
def apS (b:List Ad) (c:Ab):List Ad×Int:=if apB b c=true then (Ha b c.Block (FJ (B1 b c.Block).Text c),0) else ([],320)
theorem Jca (n:Nat) (b:List Ad) (hb:b.length<=1000000):GD n b=some b:=by
 refine JaV (Jf6 b) λ q hq=>?_
 cases q with
 | true=>
  have:b=[]:=Classical.byContradiction λ h=>by have:=hq h;cases this
  subst this;rfl
 | false=>
  rw [if_neg (by simp),Bf (by simp;omega)]
  rfl
theorem Yd {s:List UInt8} {c:Ab} (hA:Okc 1000000000000 c) (hs:s.length<=1000000):((((decide (c.At<0))||(decide (c.Cut<0)))||(decide (c.At>((s.length:Nat):Int))))||(decide (c.Cut>AT .i64 ((s.length:Nat):Int) c.At)))=!Jm s c:=by
 unfold Okc at hA
 rw [CC (by omega) (by omega)]
 unfold Jm
 rw [Bool.eq_iff_iff]
 simp only [Jmg,decide_eq_true_eq,Bool.not_eq_true',decide_eq_false_iff_not]
 omega
theorem Uh {s:List UInt8} {c:Ab} (h:Jm s c=true):((FJ s c).length:Int)=s.length+c.Put.length-c.Cut:=by
 unfold Jm at h
 rw [decide_eq_true_eq] at h
 unfold FJ
 simp only [List.length_append,List.length_take,List.length_drop]
 omega
theorem Jcb {s:List UInt8} {c:Ab} {ζ:Type} {k:List UInt8->Option ζ} (hA:Okc 1000000000000 c) (hs:s.length<=1000000) (h:Jm s c=true) :
  ((sub s 0 c.At).bind λ s1=>(cat s1 c.Put).bind λ s2=>(sub s (Aj .i64 c.At c.Cut) ((s.length:Nat):Int)).bind λ s3=>(cat s2 s3).bind k)=k (FJ s c):=by
 unfold Jm at h
 rw [decide_eq_true_eq] at h
 unfold Okc at hA
 rw [EG (by omega) (by omega),HJ (by omega) (by omega) (by omega),JlH,Ub (by simp only [List.length_drop,List.length_take];omega),JlH,HJ (by omega) (by omega) (by omega),JlH,Ub (by simp only [List.length_append,List.length_drop,List.length_take];omega),JlH]
 congr 1
 unfold FJ
 simp
theorem Jcc (n:Nat) {s:List UInt8} {c:Ab} (hA:Okc 1000000000000 c) (hs:s.length<=1000000):K9 n s c=some (if Jm s c=true then (FJ s c,true) else ([],false)):=by
 unfold K9
 rw [Yd hA hs]
 cases h:Jm s c with
 | false=>rfl
 | true=>
  rw [if_neg (by simp),Jcb (k:=λ s13=>some (s13,true)) hA hs h]
  rfl
theorem Ye {b:List Ad} {i:Int} (h:wdB b i=true) (x:Ad):put b i x=some (b.set i.toNat x):=by
 have:=(DG.1 h).1
 exact Jkz this.1 this.2
theorem Ui {b:List Ad} {c:Ab} (hb:BkT b) (hA:Okc 1000000000000 c) (hi:(0<=c.Block/\c.Block<(b.length:Int))) {w:Bool} (hw:w=wdK (B1 b c.Block)):Ev (λ n=>De n b c (B1 b c.Block) w) (apS b c):=by
 have hT:=hb.blk c.Block
 have hlen:=hb.len
 unfold De apS apB
 have e:wdB b c.Block=w:=by
  unfold wdB
  rw [decide_eq_true hi.1,decide_eq_true hi.2,hw];rfl
 rw [e]
 refine Tot.ev (Tot.ite (λ h=>?_) λ h=>Tot.pure (by rw [h];rfl))
 rw [Yd hA (by omega),h,Bool.true_and]
 cases hf:Jm (B1 b c.Block).Text c with
 | false=>exact Tot.iteT rfl (Tot.pure rfl)
 | true=>
  refine Tot.iteF rfl ?_
  have hl:=Uh hf
  unfold Okc at hA
  refine Tot.congr (f:=λ n=>(Id n (FJ (B1 b c.Block).Text c)).bind λ r4=>if (!r4)=true then some ([],320) else (GD n b).bind λ r5=>(idx r5 c.Block).bind λ _=>(put r5 c.Block (KU (B1 b c.Block) (FJ (B1 b c.Block).Text c))).bind λ l2=>some (l2,0)) ?_ (λ n=>Jcb (k:=λ s4=>(Id n s4).bind λ r4=>if (!r4)=true then some ([],320) else (GD n b).bind λ r5=>(idx r5 c.Block).bind λ _=>(put r5 c.Block (KU (B1 b c.Block) s4)).bind λ l2=>some (l2,0)) hA (by omega) hf)
  refine Tot.bindE (JbL _ (by omega)) ?_
  cases hc:clS (FJ (B1 b c.Block).Text c) with
  | false=>exact Tot.iteT rfl (Tot.pure rfl)
  | true=>
   exact Tot.iteF rfl (Tot.bindA (λ n=>Jca n b (by omega)) (Tot.bindC (Jk hi.1 hi.2) (Tot.bindC (Ye (by rw [e,h]) _) (Tot.pure rfl))))
theorem KW {b:List Ad} {c:Ab} (hb:BkT b) (hA:Okc 1000000000000 c):Ev (λ n=>DY n b c) (apS b c):=by
 unfold DY
 refine Tot.ev (Tot.ite (λ h=>Tot.pure ?_) λ h=>?_)
 ·simp only [Jmg,decide_eq_true_eq] at h
  have e:wdB b c.Block=false:=by
   rw [← Bool.not_eq_true,DG]
   omega
  unfold apS apB
  rw [e];rfl
 ·simp only [JlX,decide_eq_false_iff_not] at h
  have hi:0<=c.Block/\c.Block<(b.length:Int):=by omega
  have hK:wdK (B1 b c.Block)=(((B1 b c.Block).Kind==1||(B1 b c.Block).Kind==2)||(B1 b c.Block).Kind==4):=rfl
  refine Tot.bindC (Jk hi.1 hi.2) (Tot.ite (λ h1=>?_) λ h1=>Tot.ite (λ h2=>?_) λ h2=>?_)
  ·exact (Ui hb hA hi (by rw [hK,h1];rfl)).tot rfl
  ·exact (Ui hb hA hi (by rw [hK,h1,h2];rfl)).tot rfl
  ·exact (Ui hb hA hi (by rw [hK,h1,h2];rfl)).tot rfl
theorem ZC {b:List Ad} {c:Ab} (hb:BkT b) (hA:Okc 1000000000000 c):Ev (λ n=>Jd n b c) (apS b c):=by
 have hT:=hb.blk c.Block
 have hlen:=hb.len
 unfold Jd apS apB
 refine Tot.ev (Tot.bindA (λ n=>S5 n b _) (Tot.ite (λ h=>Tot.pure ?_) λ h=>?_))
 ·rw [Bool.not_eq_true'] at h
  rw [h];rfl
 ·have h:wdB b c.Block=true:=by simpa using h
  have hi:=(DG.1 h).1
  rw [h,Bool.true_and]
  refine Tot.bindC (Jk hi.1 hi.2) (Tot.bindA (λ n=>Jcc n hA (by omega)) ?_)
  cases hf:Jm (B1 b c.Block).Text c with
  | false=>exact Tot.gF rfl (Tot.iteT rfl (Tot.pure rfl))
  | true=>
   have hl:=Uh hf
   unfold Okc at hA
   refine Tot.gE rfl (II _ ?_) ?_
   ·show (FJ _ c).length<_
    omega
   rw [if_pos rfl]
   cases hc:clS (FJ (B1 b c.Block).Text c) with
   | false=>exact Tot.iteT (by simp [hc]) (Tot.pure rfl)
   | true=>
    refine Tot.iteF (by simp [hc]) (Tot.bindC (Bf (by simp;omega)) ?_)
    rw [List.nil_append]
    exact Tot.bindC (Jk hi.1 hi.2) (Tot.bindC (Ye h _) (Tot.pure rfl))
theorem IK (b:List Ad) (i:Int) (s:List UInt8):(Ha b i s).length=b.length:=by unfold Ha;simp
theorem RX {b:List Ad} {i:Int} {s:List UInt8} {j:Nat}:(Ha b i s)[j]? = if i.toNat=j/\j<b.length then some (KU (B1 b i) s) else b[j]? := by
 unfold Ha
 rw [List.getElem?_set]
 by_cases h:i.toNat=j
 ·subst h
  by_cases h':i.toNat<b.length
  ·rw [if_pos rfl,if_pos h',if_pos ⟨rfl,h'⟩]
  ·rw [if_pos rfl,if_neg h',if_neg (λ hh=>h' hh.2),List.getElem?_eq_none (by omega)]
 ·rw [if_neg h,if_neg (λ hh=>h hh.1)]
theorem BkT.put {b:List Ad} (h:BkT b) (i:Int) {s:List UInt8} (hs:s.length<=400):BkT (Ha b i s):=by
 refine ⟨by rw [IK];exact h.len,λ x hx=>?_⟩
 rcases List.mem_or_eq_of_mem_set hx with hx|rfl
 ·exact h.txt x hx
 ·exact hs
theorem Hb {b:List Ad} {c:Ab} (h:apB b c=true):apS b c=(Ha b c.Block (FJ (B1 b c.Block).Text c),0):=by unfold apS;rw [if_pos h]
theorem Uj {b:List Ad} {c:Ab} (h:apB b c=false):apS b c=([],320):=by unfold apS;rw [if_neg (by rw [h];simp)]
theorem P3 {b:List Ad} {c:Ab}:apB b c=true↔wdB b c.Block=true/\Jm (B1 b c.Block).Text c=true/\clS (FJ (B1 b c.Block).Text c)=true:=by unfold apB;simp
theorem BkT.ap {b:List Ad} (h:BkT b) {c:Ab}:BkT (apS b c).1:=by
 cases hc:apB b c with
 | false=>rw [Uj hc];exact ⟨by simp,by simp⟩
 | true=>
  rw [Hb hc]
  exact h.put _ (X3 (P3.1 hc).2.2).2
theorem ZD (x:Ad) (s:List UInt8):wdK (KU x s)=wdK x:=rfl
theorem KX {b:List Ad} {i j:Int} {s:List UInt8} (hi:0<=i/\i<(b.length:Int)) (hj:0<=j):B1 (Ha b i s) j=if i=j then KU (B1 b i) s else B1 b j:=by
 have e:B1 (Ha b i s) j=((Ha b i s)[j.toNat]?).getD default:=by unfold B1;rw [Jl7]
 rw [e,RX]
 by_cases h:i=j
 ·subst h
  rw [if_pos ⟨rfl,by omega⟩,if_pos rfl];rfl
 ·rw [if_neg (by omega),if_neg h]
  unfold B1
  rw [Jl7]
theorem Jcd {b:List Ad} {i j:Int} {s:List UInt8} (hi:0<=i/\i<(b.length:Int)):wdB (Ha b i s) j=wdB b j:=by
 rw [Bool.eq_iff_iff,DG,DG,IK]
 by_cases h0:0<=j
 ·rw [KX hi h0]
  by_cases h:i=j
  ·subst h
   rw [if_pos rfl,ZD]
  ·rw [if_neg h]
 ·constructor
  ·intro h;omega
  ·intro h;omega
end Go.AI
end
section
namespace Go.AI
def alS:List Ad->List Ab->Nat->List Ad×Int×Int
 | b,[],i=>(b,(i:Int),0)
 | b,c::l,i=>if apB b c=true then alS (apS b c).1 l (i+1) else ([],(i:Int),320)
theorem RY (b:List Ad) (c:Ab) (l:List Ab) (i:Nat):alS b (c::l) i=if apB b c=true then alS (apS b c).1 l (i+1) else ([],(i:Int),320):=rfl
theorem Jje {b:List Ad} {l:List Ab} (hb:BkT b) (hl:l.length<=1000) (hc:∀ c∈l,Okc 1000000 c):Ev (λ n=>Q6 n b l) (alS b l 0):=by
 refine Tot.ev ?_
 refine Tot.bind (R:=λ y=>(match y with | .inl b'=>(b',((l.length:Nat):Int),(0:Int)) | .inr r=>r)=alS b l 0) ?_ λ y hy=>by
  cases y with
  | inl c'=>exact Tot.pure hy
  | inr r=>exact Tot.pure hy
 refine Tot.upto l.length (λ i (x:List Ad×Int)=>x.2=(i:Int)/\alS x.1 (l.drop i) i=alS b l 0/\BkT x.1) ?_ ?_ _ ⟨rfl,by simp,hb⟩
 ·rintro i ⟨b',x⟩ hi ⟨h1,h2,h3⟩
  simp only at h1 h2 h3
  subst h1
  unfold Hx
  have hci:=hc _ (JlN hi)
  rw [List.drop_eq_getElem_cons hi,RY] at h2
  refine Tot.iteT (decide_eq_true (by omega)) (Tot.bindC (AF hi) (Tot.bindE (KW h3 (hci.mono (by omega))) ?_))
  cases hf:apB b' l[i] with
  | true=>
   rw [if_pos hf] at h2
   rw [Hb hf]
   refine Tot.iteF rfl (Tot.pure ⟨Aq (by omega),?_,?_⟩)
   ·rw [Hb hf] at h2;exact h2
   ·have:=h3.ap (c:=l[i]);rw [Hb hf] at this;exact this
  | false=>
   rw [if_neg (by rw [hf];simp)] at h2
   rw [Uj hf]
   exact Tot.iteT rfl (Tot.pure h2)
 ·rintro ⟨b',x⟩ ⟨h1,h2,h3⟩
  simp only at h1 h2 h3
  subst h1
  unfold Hx
  refine Tot.iteF (decide_eq_false (by omega)) (Tot.pure ?_)
  rw [List.drop_of_length_le (by omega)] at h2
  exact h2
theorem JeT {b:List Ad} {l:List Ab} (hb:BkT b) (hl:l.length<=1000) (hc:∀ c∈l,Okc 1000000 c):Ev (λ n=>Oc n b l) (alS b l 0):=by
 refine Tot.ev ?_
 refine Tot.bind (R:=λ y=>(match y with | .inl b'=>(b',((l.length:Nat):Int),(0:Int)) | .inr r=>r)=alS b l 0) ?_ λ y hy=>by
  cases y with
  | inl c'=>exact Tot.pure hy
  | inr r=>exact Tot.pure hy
 refine Tot.upto l.length (λ i (x:List Ad×Int)=>x.2=(i:Int)/\alS x.1 (l.drop i) i=alS b l 0/\BkT x.1) ?_ ?_ _ ⟨rfl,by simp,hb⟩
 ·rintro i ⟨b',x⟩ hi ⟨h1,h2,h3⟩
  simp only at h1 h2 h3
  subst h1
  unfold Gr
  have hci:=hc _ (JlN hi)
  rw [List.drop_eq_getElem_cons hi,RY] at h2
  refine Tot.iteT (decide_eq_true (by omega)) (Tot.bindC (AF hi) (Tot.bindE (ZC h3 (hci.mono (by omega))) ?_))
  cases hf:apB b' l[i] with
  | true=>
   rw [if_pos hf] at h2
   rw [Hb hf]
   refine Tot.iteF rfl (Tot.pure ⟨Aq (by omega),?_,?_⟩)
   ·rw [Hb hf] at h2;exact h2
   ·have:=h3.ap (c:=l[i]);rw [Hb hf] at this;exact this
  | false=>
   rw [if_neg (by rw [hf];simp)] at h2
   rw [Uj hf]
   exact Tot.iteT rfl (Tot.pure h2)
 ·rintro ⟨b',x⟩ ⟨h1,h2,h3⟩
  simp only at h1 h2 h3
  subst h1
  unfold Gr
  refine Tot.iteF (decide_eq_false (by omega)) (Tot.pure ?_)
  rw [List.drop_of_length_le (by omega)] at h2
  exact h2
def ZE (s:List UInt8) (c:Ab):List UInt8:=(s.take (c.At+c.Cut).toNat).drop c.At.toNat
def KY (s:List UInt8) (c:Ab):Ab:={ Block:=c.Block,At:=c.At,Cut:=((c.Put.length:Nat):Int),Put:=ZE s c }
theorem P4 {s:List UInt8} {c:Ab}:Jm s c=true↔(0<=c.At/\0<=c.Cut)/\c.At+c.Cut<=(s.length:Int):=by unfold Jm;rw [decide_eq_true_eq]
theorem Jjf {s:List UInt8} {c:Ab} (h:Jm s c=true):s=(s.take c.At.toNat++ZE s c)++s.drop (c.At+c.Cut).toNat:=by
 rw [P4] at h
 unfold ZE
 have e:s.take c.At.toNat=(s.take (c.At+c.Cut).toNat).take c.At.toNat:=by rw [List.take_take];congr 1;omega
 rw [e,List.take_append_drop,List.take_append_drop]
theorem JlC (p q r x:List UInt8) {c:Ab} (h:c.At=(p.length:Int)) (h':c.Cut=(q.length:Int)):FJ ((p++q)++r) { Block:=x.length,At:=c.At,Cut:=c.Cut,Put:=x }=(p++x)++r:=by
 unfold FJ
 simp only [h,h']
 congr 1
 ·congr 1
  rw [Jl8,List.append_assoc,List.take_left']
  rfl
 ·rw [show ((p.length:Int)+(q.length:Int)).toNat=(p++q).length by rw [List.length_append];omega,List.drop_left']
  rfl
theorem Jce (s:List UInt8) (c:Ab) (k:Int):FJ s c=FJ s { Block:=k,At:=c.At,Cut:=c.Cut,Put:=c.Put }:=rfl
theorem Jcf {s:List UInt8} {c:Ab} (h:Jm s c=true):Jm (FJ s c) (KY s c)=true:=by
 have hl:=Uh h
 rw [P4] at *
 unfold KY
 simp only
 omega
theorem V5 {s:List UInt8} {c:Ab} (h:Jm s c=true):FJ (FJ s c) (KY s c)=s:=by
 have h':=P4.1 h
 have e:FJ s c=(s.take c.At.toNat++c.Put)++s.drop (c.At+c.Cut).toNat:=rfl
 have:=JlC (s.take c.At.toNat) c.Put (s.drop (c.At+c.Cut).toNat) (ZE s c) (c:=KY s c) (by unfold KY;simp only [List.length_take];omega) rfl
 rw [e,Jce _ (KY s c) (ZE s c).length]
 refine Eq.trans this ?_
 exact (Jjf h).symm
theorem Jcg {b:List Ad} {i:Int} {s:List UInt8} (hi:0<=i/\i<(b.length:Int)):Ha (Ha b i s) i (B1 b i).Text=b:=by
 refine List.ext_getElem? λ j=>?_
 rw [RX,IK]
 by_cases h:i.toNat=j/\j<b.length
 ·rw [if_pos h,KX hi hi.1,if_pos rfl]
  obtain ⟨rfl,h2⟩:=h
  unfold B1 KU
  rw [Jl7,JlY h2]
  rfl
 ·rw [if_neg h,RX,if_neg h]
end Go.AI
end
section
namespace Go.AI
noncomputable def plB (p:Af):Bool:=lim λ n=>D0 n p
noncomputable def fvB (f:List Al):Bool:=lim λ n=>E3 n f
noncomputable def enB (r:List (List (List UInt8))):Bool:=lim λ n=>Ey n r
theorem JkI {p:Af} (h:V2 p):Ev (λ n=>D0 n p) (plB p):=(S8 h).lim.2
theorem JkJ (f:List Al):Ev (λ n=>E3 n f) (fvB f):=(S6 f).lim.2
structure GdB (x:Ad):Prop where
 txt:x.Text.length<=400
 rows:x.Rows.length<=1000
 row:∀ r∈x.Rows,r.length<=1000/\∀ t∈r,t.length<=1000
 f:x.F.length<=1000
 pic:V2 x.Pic
theorem GdB.sz {x:Ad} (h:GdB x):SzB x:=⟨by have:=h.rows;omega,λ r hr=>by have:=(h.row r hr).1;omega,by have:=h.f;omega,by have:=h.pic.f;omega,λ g hg=>by have:=h.pic.p g hg;omega⟩
theorem Xn {l:List (List (List UInt8))} (h:∀ r∈l,r.length<=1000/\∀ t∈r,t.length<=1000):Tot (λ n=>Ey n l) (λ _=>True):=by
 refine Tot.ite (λ _=>Tot.pure trivial) λ hc=>?_
 simp only [JlX,decide_eq_false_iff_not] at hc
 refine Tot.bind (R:=λ _=>True) ?_ λ y _=>by
  cases y with
  | inl _=>exact Tot.pure trivial
  | inr _=>exact Tot.pure trivial
 refine Tot.upto l.length (λ i (x:Int)=>x=(i:Int)) (λ i x hi hx=>?_) (λ x hx=>?_) _ rfl
 ·subst hx
  unfold DE
  obtain ⟨h1,h2⟩:=h _ (JlN hi)
  have g:∀ (c:Bool) (P:Nat->List (List UInt8)->Option (Int⊕(Unit⊕Bool))) (Q:Int⊕(Unit⊕Bool)->Prop),(∀ x,Tot (λ n=>P n x) Q)->Tot (λ n=>(if c=true then idx l (i:Int) else some default).bind (P n)) Q:=λ c P Q hP=>Tot.guard (R:=λ _=>True) (λ _=>Tot.all (λ n=>AF hi) trivial) λ x _=>hP x
  refine Tot.iteT (EJ hi) (Tot.bindC (AF hi) (Tot.bindC (AF (i:=0) (by omega)) (g _ _ _ λ x1=>g _ _ _ λ x2=>Tot.ite (λ _=>Tot.pure trivial) λ _=>Tot.bind (R:=λ _=>True) ?_ λ y _=>by
   cases y with
   | inl _=>exact Tot.pure (Aq (by omega))
   | inr _=>exact Tot.pure trivial)))
  refine Tot.upto l[i].length (λ k (x:Int)=>x=(k:Int)) (λ k x hk hx=>?_) (λ x hx=>?_) _ rfl
  ·subst hx
   unfold DD
   have ht:=h2 _ (JlN hk)
   refine Tot.bindC (AF hi) (Tot.iteT (EJ hk) (Tot.bindC (AF hi) (Tot.bindC (AF hk) (Tot.bindE (II _ (by omega)) ?_))))
   cases hb:clS l[i][k] with
   | false=>exact Tot.gF rfl (Tot.gF rfl (Tot.iteT rfl (Tot.pure trivial)))
   | true=>exact Tot.gE rfl (Ev.all λ n=>AF hi) (Tot.gE rfl (Ev.all λ n=>AF hk) (Tot.ite (λ _=>Tot.pure trivial) λ _=>Tot.pure (Aq (by omega))))
  ·subst hx
   unfold DD
   exact Tot.bindC (AF hi) (Tot.iteF (C3 _) (Tot.pure trivial))
 ·subst hx
  unfold DE
  exact Tot.iteF (C3 _) (Tot.pure trivial)
theorem JkK {x:Ad} (h:GdB x):Ev (λ n=>Ey n x.Rows) (enB x.Rows):=(Xn h.row).lim.2
def bkN (b:List Ad) (i:Nat):Ad:=b.getD i default
def jB (t l r f p g:Bool):Bool:=((((t&&l)&&r)&&f)&&p)&&g
def rw0 (x:Ad):Bool:=((x.Rows.length:Nat):Int)==0
def f0 (x:Ad):Bool:=((x.F.length:Nat):Int)==0
def np0 (p:Af):Bool:=(((p.W==0)&&(p.H==0))&&(p.Gap==0))&&(((p.F.length:Nat):Int)==0)
noncomputable def rgC (x:Ad) (pv pg:Bool):Bool:=
 if (x.Kind==1)=true then jB (clS x.Text) (x.Level==0) (rw0 x) (f0 x) (np0 x.Pic) (x.Page==0)
 else if (x.Kind==2)=true then jB (clS x.Text) (decide (x.Level>=1)&&decide (x.Level<=3)) (rw0 x) (f0 x) (np0 x.Pic) (x.Page==0)
 else if (x.Kind==3)=true then jB (x.Text==[]) (x.Level==0) (enB x.Rows) (f0 x) (np0 x.Pic) (x.Page==0)
 else if (x.Kind==4)=true then jB (clS x.Text&&pv) (x.Level==0) (rw0 x) (f0 x) (np0 x.Pic) (x.Page==0)
 else if (x.Kind==5)=true then jB (x.Text==[]) (x.Level==0) (rw0 x) (fvB x.F) (np0 x.Pic) (x.Page==0)
 else if (x.Kind==6)=true then jB (x.Text==[]) (x.Level==0) (rw0 x) (f0 x) (plB x.Pic) (x.Page==0)
 else if (x.Kind==7)=true then jB (x.Text==[]) (x.Level==0) (rw0 x) (f0 x) (np0 x.Pic) pg
 else false
def pvB (b:List Ad) (i:Nat):Bool:=decide (0<i)&&(((bkN b (i-1)).Kind==1)||((bkN b (i-1)).Kind==4))
def pgB (b:List Ad) (i:Nat):Bool:=(decide ((bkN b i).Page>=1)&&decide ((bkN b i).Page<=9999))&&(List.range i).all λ k=>((bkN b k).Kind != 7)||decide ((bkN b k).Page<(bkN b i).Page)
noncomputable def V6 (b:List Ad) (i:Nat):Bool:=rgC (bkN b i) (pvB b i) (pgB b i)
theorem Xo {b:List Ad} {i:Nat} (h:i<b.length):idx b (i:Int)=some (bkN b i):=Da h
theorem V7 {b:List Ad} {i:Nat} (hi:i<b.length) (hl:b.length<=1000) (hg:GdB (bkN b i)):Ev (λ n=>I9 n b (i:Int)) (V6 b i):=by
 unfold V6
 have ht:=hg.txt
 refine Tot.ev (Tot.bindC (Xo hi) (Tot.bindA (λ n=>rfl) ?_))
 unfold rgC
 generalize hx:bkN b i=x at *
 by_cases k1:(x.Kind==1)=true
 ·rw [if_pos k1]
  exact Tot.iteT k1 (Tot.bindE (II _ (by omega)) (Tot.pure rfl))
 have k1':(x.Kind==1)=false:=by simpa using k1
 rw [if_neg k1]
 refine Tot.iteF k1' ?_
 by_cases k2:(x.Kind==2)=true
 ·rw [if_pos k2]
  exact Tot.iteT k2 (Tot.bindE (II _ (by omega)) (Tot.pure rfl))
 rw [if_neg k2]
 refine Tot.iteF (by simpa using k2) ?_
 by_cases k3:(x.Kind==3)=true
 ·rw [if_pos k3]
  exact Tot.iteT k3 (Tot.bindE (JkK hg) (Tot.pure rfl))
 rw [if_neg k3]
 refine Tot.iteF (by simpa using k3) ?_
 by_cases k4:(x.Kind==4)=true
 ·rw [if_pos k4]
  refine Tot.iteT k4 (Tot.bindE (II _ (by omega)) ?_)
  unfold pvB
  have e0:decide ((i:Int)>0)=decide (0<i):=by rw [decide_eq_decide];omega
  rw [e0]
  cases hc:clS x.Text with
  | false=>exact Tot.gF rfl (Tot.gF rfl (Tot.pure rfl))
  | true=>
   cases hd:decide (0<i) with
   | false=>exact Tot.gF rfl (Tot.gF rfl (Tot.pure rfl))
   | true=>
    rw [decide_eq_true_eq] at hd
    have ei:AT .i64 (i:Int) 1=((i-1:Nat):Int):=(CC (by omega) (by omega)).trans (by omega)
    rw [ei]
    have hg:∀ n:Nat,idx b ((i-1:Nat):Int)=some (bkN b (i-1)):=λ n=>Xo (by omega)
    refine Tot.gE rfl (Ev.all hg) ?_
    cases hk:((bkN b (i-1)).Kind==1) with
    | true=>exact Tot.gF rfl (Tot.pure rfl)
    | false=>exact Tot.gE rfl (Ev.all hg) (Tot.pure rfl)
 rw [if_neg k4]
 refine Tot.iteF (by simpa using k4) ?_
 by_cases k5:(x.Kind==5)=true
 ·rw [if_pos k5]
  exact Tot.iteT k5 (Tot.bindE (JkJ _) (Tot.pure rfl))
 rw [if_neg k5]
 refine Tot.iteF (by simpa using k5) ?_
 by_cases k6:(x.Kind==6)=true
 ·rw [if_pos k6]
  exact Tot.iteT k6 (Tot.bindE (JkI hg.pic) (Tot.pure rfl))
 rw [if_neg k6]
 refine Tot.iteF (by simpa using k6) ?_
 by_cases k7:(x.Kind==7)=true
 ·rw [if_pos k7]
  refine Tot.iteT k7 (Tot.bind (R:=λ y=>y=pgB b i) ?_ λ y hy=>Tot.pure (by rw [hy];rfl))
  unfold pgB
  rw [hx]
  refine Tot.upto i (λ k (z:Bool×Int)=>z.2=(k:Int)/\z.1=((decide (x.Page>=1)&&decide (x.Page<=9999))&&(List.range k).all λ k=>((bkN b k).Kind != 7)||decide ((bkN b k).Page<x.Page))) ?_ ?_ _ ⟨rfl,by simp⟩
  ·rintro k ⟨p,z⟩ hk ⟨h1,h2⟩
   simp only at h1 h2
   subst h1
   unfold Fq
   rw [List.range_succ,List.all_append,← Bool.and_assoc,← h2]
   have hg:∀ n:Nat,idx b ((k:Nat):Int)=some (bkN b k):=λ n=>Xo (by omega)
   refine Tot.iteT (EJ hk) ?_
   cases p with
   | false=>exact Tot.gF rfl (Tot.gF rfl (Tot.pure ⟨Aq (by omega),rfl⟩))
   | true=>
    refine Tot.gE rfl (Ev.all hg) ?_
    simp only [List.all_cons,List.all_nil,Bool.and_true]
    cases hk7:((bkN b k).Kind != 7) with
    | true=>exact Tot.gF rfl (Tot.pure ⟨Aq (by omega),rfl⟩)
    | false=>exact Tot.gE rfl (Ev.all hg) (Tot.pure ⟨Aq (by omega),rfl⟩)
  ·rintro ⟨p,z⟩ ⟨h1,h2⟩
   simp only at h1 h2
   subst h1
   unfold Fq
   exact Tot.iteF (C3 _) (Tot.pure h2)
 rw [if_neg k7]
 exact Tot.iteF (by simpa using k7) (Tot.pure rfl)
structure VB (b:List Ad):Prop where
 len:b.length<=5
 gd:∀ i,i<b.length->GdB (bkN b i)
 rg:∀ i,i<b.length->V6 b i=true
theorem Xp {b:List Ad} (h:VB b):Ev (λ n=>Je n b) true:=by
 have hl:=h.len
 unfold Je Mm
 refine Tot.ev (Tot.bindE (x:=(0,0)) (Tot.ev (Tot.iteF (decide_eq_false (by omega)) (Ev.tot (Dn b.length (λ i hi=>?_) (λ n=>?_) λ n=>rfl) rfl))) (Tot.pure rfl))
 ·unfold Fr
  have e:=V7 hi (by omega) (h.gd i hi)
  rw [h.rg i hi] at e
  exact Tot.ev (Tot.iteT (EJ hi) (Tot.bindE e (Tot.iteF rfl (Tot.pure (by rw [Aq (by omega)])))))
 ·unfold Fr
  rw [if_neg (by simp)]
theorem VB.mem {b:List Ad} (h:VB b) {x:Ad} (hx:x∈b):GdB x:=by
 obtain ⟨i,hi,rfl⟩:=List.getElem_of_mem hx
 have:=h.gd i hi
 unfold bkN at this
 rwa [BT hi] at this
theorem VB.bkt {b:List Ad} (h:VB b):BkT b:=⟨by have:=h.len;omega,λ _ hx=>(h.mem hx).txt⟩
theorem VB.same {b:List Ad} (h:VB b):Ev (λ n=>DZ n b b) true:=RJ (by have:=h.len;omega) λ _ hx=>(h.mem hx).sz
theorem S9 {x:Ad} {pv pg:Bool} (h:rgC x pv pg=true) (hw:wdK x=true):clS x.Text=true:=by
 unfold wdK at hw
 unfold rgC at h
 split at h
 ·unfold jB at h;simp only [JlZ] at h;exact h.1.1.1.1.1
 ·split at h
  ·unfold jB at h;simp only [JlZ] at h;exact h.1.1.1.1.1
  ·rename_i k1 k2
   have k4:x.Kind=4:=by
    simp only [Jmg,beq_iff_eq] at hw k1 k2
    omega
   rw [k4] at h
   rw [if_neg (by decide),if_pos (by decide)] at h
   unfold jB at h;simp only [JlZ] at h;exact h.1.1.1.1.1.1
theorem ZF {x:Ad} {pv pg:Bool} {s:List UInt8} (h:rgC x pv pg=true) (hw:wdK x=true) (hs:clS s=true):rgC (KU x s) pv pg=true:=by
 have hc:=S9 h hw
 unfold wdK at hw
 simp only [Jmg,beq_iff_eq] at hw
 have e1:(KU x s).Kind=x.Kind:=rfl
 have e2:(KU x s).Text=s:=rfl
 unfold rgC at h ⊢
 rw [e1,e2,hs]
 rw [hc] at h
 rcases hw with (hw|hw)|hw
 ·rw [hw] at h ⊢;exact h
 ·rw [hw] at h ⊢;exact h
 ·rw [hw] at h ⊢;exact h
theorem Uk {b:List Ad} {i:Int} {s:List UInt8} {j:Nat} (hi:0<=i/\i<(b.length:Int)):bkN (Ha b i s) j=if i.toNat=j then KU (bkN b j) s else bkN b j:=by
 have h:=KX (j:=(j:Int)) (s:=s) hi (by omega)
 unfold B1 at h
 rw [Jl8] at h
 unfold bkN
 rw [h]
 by_cases e:i.toNat=j
 ·rw [if_pos e,if_pos (by omega),e]
 ·rw [if_neg e,if_neg (by omega)]
theorem VB.put {b:List Ad} (h:VB b) {i:Int} {s:List UInt8} (hw:wdB b i=true) (hs:clS s=true):VB (Ha b i s):=by
 obtain ⟨hi,hk⟩:=DG.1 hw
 have hb:B1 b i=bkN b i.toNat:=rfl
 rw [hb] at hk
 have hK:∀ j,(bkN (Ha b i s) j).Kind=(bkN b j).Kind/\(bkN (Ha b i s) j).Page=(bkN b j).Page:=λ j=>by
  rw [Uk hi];split<;>exact ⟨rfl,rfl⟩
 refine ⟨by rw [IK];exact h.len,λ j hj=>?_,λ j hj=>?_⟩
 ·rw [IK] at hj
  have g:=h.gd j hj
  rw [Uk hi]
  split
  ·exact ⟨(X3 hs).2,g.rows,g.row,g.f,g.pic⟩
  ·exact g
 ·rw [IK] at hj
  have g:=h.rg j hj
  unfold V6 at g ⊢
  have e1:pvB (Ha b i s) j=pvB b j:=by unfold pvB;rw [(hK _).1]
  have e2:pgB (Ha b i s) j=pgB b j:=by
   unfold pgB
   rw [(hK _).2]
   congr 2
   funext k
   rw [(hK _).1,(hK _).2]
  rw [e1,e2,Uk hi]
  split
  ·rename_i e
   subst e
   exact ZF g hk hs
  ·exact g
theorem VB.ap {b:List Ad} (h:VB b) {c:Ab} (hc:apB b c=true):VB (apS b c).1:=by
 rw [Hb hc]
 obtain ⟨h1,_,h3⟩:=P3.1 hc
 exact h.put h1 h3
theorem VB.clean {b:List Ad} (h:VB b) {i:Int} (hw:wdB b i=true):clS (B1 b i).Text=true:=by
 obtain ⟨hi,hk⟩:=DG.1 hw
 exact S9 (h.rg i.toNat (by omega)) hk
end Go.AI
end
section
namespace Go.AI
structure RwB (x:A7):Prop where
 k:U8 x.Kind
 n:U8 x.N
 tl:x.T.length<=9223372036854775807
 t:∀ y∈x.T,U8 y
 fn:U8 x.F.N
 pw:U8 x.P.W
 ph:U8 x.P.H
theorem Jjg:V2 ({ W:=0,H:=0,Gap:=0,F:=[] }:Af):=⟨by simp,by simp⟩
theorem P5 {k l pg:Int} {s:List UInt8} (h:s.length<=12):GdB { Kind:=k,Level:=l,Text:=s,Rows:=[],F:=[],Pic:={ W:=0,H:=0,Gap:=0,F:=[] },Page:=pg }:=⟨by show s.length<=400;omega,by simp,by simp,by simp,Jjg⟩
theorem Jch {x:A7} (hx:RwB x):Tot (λ n=>Ml n x [97,98,99]) GdB:=by
 have hn:=hx.n
 unfold U8 at hn
 obtain ⟨a1,a2,a3⟩:=BN (a:=x.N) (m:=3) (by omega) (by omega)
 have q0:Du .u8 x.N 4=x.N / 4:=by
  unfold Du
  rw [Int.tdiv_eq_ediv_of_nonneg (by omega),w8 (by omega) (by omega)]
 obtain ⟨b1,b2,b3⟩:=BN (a:=Du .u8 x.N 4) (m:=3) (by rw [q0];omega) (by omega)
 refine Tot.bind (RN (k:=12) hx.tl hx.t (by omega) (by omega) (by decide) (by decide)) λ s hs=>?_
 have hp:Tot (λ n=>Fm n s) GdB:=Tot.pure (P5 hs)
 have hj:∀ b,Tot (λ n=>Dx n x s b) GdB:=λ b=>by
  unfold Dx
  refine Tot.ite (λ _=>Tot.pure (P5 hs)) λ _=>Tot.ite (λ _=>?_) λ _=>Tot.ite (λ _=>?_) λ _=>Tot.ite (λ _=>Tot.pure (P5 (by simp))) λ _=>hp
  ·exact Tot.bind (Zy hx.fn) λ f hf=>Tot.pure ⟨by simp,by simp,by simp,hf,Jjg⟩
  ·have hsub:∀ l:List (Vy Int),∃ y,sub l 0 (if 2<((l.length:Nat):Int) then 2 else ((l.length:Nat):Int))=some y:=λ l=>by
    split
    ·exact ⟨_,HJ (by omega) (by omega) (by omega)⟩
    ·exact ⟨_,HJ (by omega) (by omega) (by omega)⟩
   obtain ⟨y,hy⟩:=hsub x.P.F
   refine Tot.bindC hy (Tot.bind (Zz (r:={ W:=x.P.W,H:=x.P.H,Gap:=x.P.Gap,F:=y }) hx.pw hx.ph) λ p hp'=>Tot.bind (S8 hp') λ b _=>Tot.ite (λ _=>Tot.pure ⟨by simp,by simp,by simp,by simp,hp'⟩) λ _=>hp)
 refine Tot.ite (λ _=>Tot.pure (P5 hs)) λ _=>Tot.ite (λ _=>?_) λ _=>Tot.ite (λ _=>hj _) λ _=>hj _
 refine Tot.bind (R:=GdB) ?_ λ y hy=>Tot.pure hy
 have e1:∀ r:Int,0<=r->r<3->∃ k:Nat,Aj .i64 1 (IntKind.i64.wrap r)=(k:Int)/\k<=3:=λ r h1 h2=>by
  rw [w64 (by omega) (by omega),EG (by omega) (by omega)]
  exact ⟨(1+r).toNat,by omega,by omega⟩
 obtain ⟨rc,hrc,hrc3⟩:=e1 _ a2 a3
 obtain ⟨rr,hrr,hrr3⟩:=e1 _ b2 b3
 refine Tot.upto rr (λ i (y:Ad×Int)=>y.2=(i:Int)/\(y.1.Text=[]/\y.1.F=[]/\y.1.Pic={ W:=0,H:=0,Gap:=0,F:=[] })/\y.1.Rows.length=i/\∀ r∈y.1.Rows,r.length<=1000/\∀ t∈r,t.length<=1000) ?_ ?_ _ ⟨rfl,⟨rfl,rfl,rfl⟩,rfl,by simp⟩
 ·rintro i ⟨o,y⟩ hi ⟨h1,h2,h3,h4⟩
  simp only at h1 h2 h3 h4
  subst h1
  unfold Fp
  rw [hrr]
  refine Tot.iteT (decide_eq_true (show (i:Int)<(rr:Int) by omega)) (Tot.bind (R:=λ r=>r.length<=1000/\∀ t∈r,t.length<=1000) ?_ λ r hr=>Tot.bindC (Bf (by simp;omega)) (Tot.pure ⟨Aq (by omega),h2,by simp;exact h3,λ q hq=>?_⟩))
  ·refine Tot.upto rc (λ k (y:List (List UInt8)×Int)=>y.2=(k:Int)/\y.1.length=k/\∀ t∈y.1,t.length<=1000) ?_ ?_ _ ⟨rfl,rfl,by simp⟩
   ·rintro k ⟨r,y⟩ hk ⟨g1,g2,g3⟩
    simp only at g1 g2 g3
    subst g1
    unfold Fn
    rw [hrc]
    have e2:BU .i64 2 (Aj .i64 (i:Int) (k:Int))=2*((i:Int)+k):=by rw [EG (by omega) (by omega),F5 (by omega) (by omega)]
    rw [e2]
    have hsub:∃ z:List Int,sub x.T (if ((x.T.length:Nat):Int)<2*((i:Int)+k) then ((x.T.length:Nat):Int) else 2*((i:Int)+k)) ((x.T.length:Nat):Int)=some z/\z.length<=9223372036854775807/\∀ y∈z,U8 y:=by
     have htl:=hx.tl
     have fin:∀ a:Int,0<=a->a<=(x.T.length:Int)->∃ z:List Int,sub x.T a ((x.T.length:Nat):Int)=some z/\z.length<=9223372036854775807/\∀ y∈z,U8 y:=λ a h0 h1=>by
      refine ⟨_,HJ h0 h1 (Int.le_refl _),?_,λ y hy=>hx.t y (List.mem_of_mem_take (List.mem_of_mem_drop hy))⟩
      simp only [List.length_drop,List.length_take];omega
     split
     ·exact fin _ (by omega) (by omega)
     ·exact fin _ (by omega) (by omega)
    obtain ⟨z,hz,hzl,hzu⟩:=hsub
    refine Tot.iteT (decide_eq_true (show (k:Int)<(rc:Int) by omega)) (Tot.bindC hz (Tot.bind (RN (k:=4) hzl hzu (by omega) (by omega) (by decide) (by decide)) λ t ht=>Tot.bindC (Bf (by simp;omega)) (Tot.pure ⟨Aq (by omega),by simp;exact g2,λ q hq=>?_⟩)))
    rw [List.mem_append,List.mem_singleton] at hq
    rcases hq with hq|rfl
    ·exact g3 q hq
    ·omega
   ·rintro ⟨r,y⟩ ⟨g1,g2,g3⟩
    simp only at g1 g2 g3
    subst g1
    unfold Fn
    rw [hrc]
    exact Tot.iteF (decide_eq_false (show ¬(rc:Int)<(rc:Int) by omega)) (Tot.pure ⟨by show r.length<=1000;omega,g3⟩)
  ·rw [List.mem_append,List.mem_singleton] at hq
   rcases hq with hq|rfl
   ·exact h4 q hq
   ·exact hr
 ·rintro ⟨o,y⟩ ⟨h1,⟨h2,h2',h2''⟩,h3,h4⟩
  simp only at h1 h2 h2' h2'' h3 h4
  subst h1
  unfold Fp
  rw [hrr]
  exact Tot.iteF (decide_eq_false (show ¬(rr:Int)<(rr:Int) by omega)) (Tot.pure ⟨by rw [h2];simp,by show o.Rows.length<=1000;omega,h4,by rw [h2'];simp,by rw [h2''];exact Jjg⟩)
theorem OO {b:List Ad} {x:Ad} {j:Nat} (h:j<b.length):bkN (b++[x]) j=bkN b j:=by
 unfold bkN
 rw [Jl7,Jl6 h,Jl7]
theorem JeU {b:List Ad} {x:Ad} {j:Nat} (h:j<b.length):V6 (b++[x]) j=V6 b j:=by
 unfold V6
 rw [OO h]
 have e1:pvB (b++[x]) j=pvB b j:=by unfold pvB;rw [OO (by omega)]
 have e2:pgB (b++[x]) j=pgB b j:=by
  unfold pgB
  rw [OO h]
  congr 1
  rw [Bool.eq_iff_iff,JlL,JlL]
  constructor
  ·intro hh k hk
   have:=hh k hk
   rwa [OO (by rw [List.mem_range] at hk;omega)] at this
  ·intro hh k hk
   have:=hh k hk
   rwa [OO (by rw [List.mem_range] at hk;omega)]
 rw [e1,e2]
theorem Jci {l:List A7} (hl:∀ x∈l,RwB x):Tot (λ n=>N8 n l 5 [97,98,99]) VB:=by
 refine Tot.bind (R:=VB) ?_ λ b hb=>Tot.pure hb
 refine Tot.upto (min l.length 5) (λ i (y:List Ad×Int)=>y.2=(i:Int)/\y.1.length<=i/\VB y.1) ?_ ?_ _ ⟨rfl,by simp,by simp,λ i hi=>by simp at hi,λ i hi=>by simp at hi⟩
 ·rintro i ⟨b,y⟩ hi ⟨h1,h2,h3⟩
  simp only at h1 h2 h3
  subst h1
  unfold Gp
  have hlt:i<l.length:=by omega
  refine Tot.iteT (by rw [JlZ,decide_eq_true_eq,decide_eq_true_eq];show (i:Int)<_/\(i:Int)<5;omega) (Tot.bindC (AF hlt) (Tot.bind (Jch (hl _ (JlN hlt))) λ x hx=>Tot.bindC (Bf (by simp;omega)) ?_))
  have el:((List.length (b++[x]):Nat):Int)=((b.length+1:Nat):Int):=by simp
  rw [el]
  have es:AT .i64 ((b.length+1:Nat):Int) 1=((b.length:Nat):Int):=(CC (by omega) (by omega)).trans (by omega)
  rw [es]
  have hbk:bkN (b++[x]) b.length=x:=by
   unfold bkN
   rw [Jl7,Jmf (JlP _)]
   simp
  refine Tot.bindE (V7 (by simp) (by simp;omega) (by rw [hbk];exact hx)) ?_
  cases hr:V6 (b++[x]) b.length with
  | false=>
   refine Tot.iteT rfl (Tot.bindC (y:=b) ?_ (Tot.pure ⟨Aq (by omega),by show b.length<=i+1;omega,h3⟩))
   rw [Uc (by simp)]
   simp
  | true=>
   refine Tot.iteF rfl (Tot.pure ⟨Aq (by omega),by simp;omega,by simp;omega,λ j hj=>?_,λ j hj=>?_⟩)
   ·rw [List.length_append,List.length_singleton] at hj
    rcases Nat.lt_succ_iff_lt_or_eq.1 hj with h|rfl
    ·rw [OO h];exact h3.gd j h
    ·rw [hbk];exact hx
   ·rw [List.length_append,List.length_singleton] at hj
    rcases Nat.lt_succ_iff_lt_or_eq.1 hj with h|rfl
    ·rw [JeU h];exact h3.rg j h
    ·exact hr
 ·rintro ⟨b,y⟩ ⟨h1,h2,h3⟩
  simp only at h1 h2 h3
  subst h1
  unfold Gp
  exact Tot.iteF (by rw [Bool.and_eq_false_iff,decide_eq_false_iff_not,decide_eq_false_iff_not];show ¬(((min l.length 5:Nat):Int)<_)\/¬(((min l.length 5:Nat):Int)<5);omega) (Tot.pure h3)
theorem JeV {l:List A7} (hl:∀ x∈l,RwB x):Tot (λ n=>N9 n l) VB:=Tot.bind (Jci hl) λ _ hb=>Tot.pure hb
end Go.AI
end
section
namespace Go.AI
def OP (a b:List UInt8):Prop:=Op.bytesLess a b=true
theorem RZ (a:List UInt8):¬OP a []:=by cases a<;>simp [OP,Op.bytesLess]
theorem Lf {a b:UInt8} {x y:List UInt8}:OP (a::x) (b::y)↔a<b\/(a=b/\OP x y):=by
 simp [OP,Op.bytesLess]
theorem Ps:∀ a:List UInt8,¬OP a a
 | []=>RZ _
 | a::x=>by
  rw [Lf]
  rintro (h|⟨_,h⟩)
  ·exact UInt8.lt_irrefl a h
  ·exact Ps x h
theorem R0:∀ {a b c:List UInt8},OP a b->OP b c->OP a c
 | a,[],c,h,_=>absurd h (RZ a)
 | _,_::_,[],_,h=>absurd h (RZ _)
 | [],_::_,_::_,_,_=>rfl
 | a::x,b::y,c::z,h,h'=>by
  rw [Lf] at *
  rcases h with h|⟨rfl,h⟩
  ·rcases h' with h'|⟨rfl,_⟩
   ·exact .inl (UInt8.lt_trans h h')
   ·exact .inl h
  ·rcases h' with h'|⟨rfl,h'⟩
   ·exact .inl h'
   ·exact .inr ⟨rfl,R0 h h'⟩
theorem R1:∀ (a b:List UInt8),a=b\/OP a b\/OP b a
 | [],[]=>.inl rfl
 | [],_::_=>.inr (.inl rfl)
 | _::_,[]=>.inr (.inr rfl)
 | a::x,b::y=>by
  rw [Lf,Lf]
  by_cases h:a=b
  ·subst h
   rcases R1 x y with rfl|h|h
   ·exact .inl rfl
   ·exact .inr (.inl (.inr ⟨rfl,h⟩))
   ·exact .inr (.inr (.inr ⟨rfl,h⟩))
  ·rcases Nat.lt_or_gt_of_ne (λ e=>h (UInt8.toNat_inj.1 e)) with h1|h1
   ·exact .inr (.inl (.inl (UInt8.lt_iff_toNat_lt.2 h1)))
   ·exact .inr (.inr (.inl (UInt8.lt_iff_toNat_lt.2 h1)))
def ltA (c d:Ab):Prop:=Gu c d\/((c.Block=d.Block/\c.At=d.At)/\c.Cut=d.Cut)/\OP c.Put d.Put
theorem HM {c d:Ab}:Xc c d<0↔ltA c d:=by
 unfold Xc ltA Gu OP
 cases hq:Op.bytesLess c.Put d.Put with
 | true=>
  simp only [if_true,and_true]
  (repeat' split)<;>omega
 | false=>
  simp only [Jma,if_false,and_false,or_false]
  (repeat' split)<;>omega
theorem Ul {c:Ab}:¬ltA c c:=by
 rintro (h|h)
 ·exact JbG h
 ·exact Ps _ h.2
theorem Um {c d e:Ab} (h:ltA c d) (h':ltA d e):ltA c e:=by
 rcases h with h|⟨h,hb⟩<;>rcases h' with h'|⟨h',hb'⟩
 ·exact .inl (JeE h h')
 ·left;unfold Gu at *;omega
 ·left;unfold Gu at *;omega
 ·exact .inr ⟨by omega,R0 hb hb'⟩
theorem NJ (c d:Ab):c=d\/ltA c d\/ltA d c:=by
 by_cases h:(c.Block=d.Block/\c.At=d.At)/\c.Cut=d.Cut
 ·rcases R1 c.Put d.Put with hp|hp|hp
  ·left;cases c;cases d;simp only at h hp;simp [h,hp]
  ·exact .inr (.inl (.inr ⟨h,hp⟩))
  ·exact .inr (.inr (.inr ⟨by omega,hp⟩))
 ·right
  unfold ltA Gu;omega
theorem V8 {c d:Ab} (h:ltA c d):¬ltA d c:=λ h'=>Ul (Um h h')
theorem NK {n:Nat} (hn:5<=n) (c d:Ab):ltC (λ x y=>Gv n x y) c d=decide (Xc c d<0):=by unfold ltC;simp only [VO c d n hn,JlM]
theorem Jjh {n:Nat} (hn:5<=n):XV (λ x y=>Gv n x y):=by
 refine ⟨λ x y=>by rw [VO x y n hn];rfl,λ x=>?_,λ x y z h h'=>?_,λ x y z h h'=>?_,λ x y h h'=>?_⟩
 ·rw [NK hn,decide_eq_false_iff_not,HM];exact Ul
 ·rw [NK hn,decide_eq_true_eq,HM] at *;exact Um h h'
 ·rw [NK hn,decide_eq_false_iff_not,HM] at *
  intro hh
  rcases NJ y x with rfl|h1|h1
  ·exact h' hh
  ·exact h' (Um h1 hh)
  ·exact h h1
 ·rw [NK hn,decide_eq_false_iff_not,HM] at *
  rcases NJ x y with h1|h1|h1
  ·exact h1
  ·exact absurd h1 h
  ·exact absurd h1 h'
def Xq (l:List Ab):List Ab:=Mh (λ x y=>decide (Xc x y<0)) l
theorem JeW {l:List Ab} (hl:l.length<=1000000):Ev (λ n=>Q5 n l) (Xq l):=by
 refine ⟨5,λ n hn=>?_⟩
 show sortC _ l=_
 rw [JaZ (Jjh hn) l (by omega)]
 unfold Xq
 congr 2
 funext x y
 exact NK hn x y
theorem R2 (l:List Ab):(Xq l).Perm l:=J7 l
theorem Xr (l:List Ab):(Xq l).Pairwise λ a b=>¬ltA b a:=by
 refine (HR (lt:=λ x y:Ab=>decide (Xc x y<0)) (λ x y z h h'=>?_) (λ x y h=>?_) l).imp λ {a b} h=>?_
 ·rw [decide_eq_false_iff_not,HM] at *
  intro hh
  rcases NJ y x with rfl|h1|h1
  ·exact h' hh
  ·exact h' (Um h1 hh)
  ·exact h h1
 ·rw [decide_eq_false_iff_not,HM]
  rw [decide_eq_true_eq,HM] at h
  exact V8 h
 ·rw [decide_eq_false_iff_not,HM] at h
  exact h
theorem Un {motive:List Ab->Prop} (nil:motive []) (append_singleton:∀ l x,motive l->motive (l++[x])) (l:List Ab):motive l:=by
 have key:∀ m:List Ab,motive m.reverse:=by
  intro m
  induction m with
  | nil=>exact nil
  | cons x m ih=>rw [List.reverse_cons];exact append_singleton _ _ ih
 have:=key l.reverse
 rwa [List.reverse_reverse] at this
def ddS (l:List Ab):List Ab:=l.foldl (λ acc x=>if acc.getLast? = some x then acc else acc++[x]) []
theorem HN (l:List Ab) (x:Ab):ddS (l++[x])=if (ddS l).getLast? = some x then ddS l else ddS l++[x]:=by unfold ddS;rw [List.foldl_append];rfl
theorem Uo (l:List Ab):(ddS l).getLast? = l.getLast? := by
 rcases List.eq_nil_or_concat l with rfl|⟨l',x,rfl⟩
 ·rfl
 ·rw [List.concat_eq_append,HN]
  split
  ·rename_i h;rw [h];simp
  ·simp
theorem Xs (l:List Ab) (x:Ab):x∈ddS l↔x∈l:=by
 induction l using Un with
 | nil=>rfl
 | append_singleton l y ih=>
  rw [HN]
  split
  ·rename_i h
   rw [ih,List.mem_append,List.mem_singleton]
   constructor
   ·exact .inl
   ·rintro (h'|rfl)
    ·exact h'
    ·exact ih.1 (List.mem_of_getLast? h)
  ·rw [List.mem_append,List.mem_append,ih]
theorem Jji (l:List Ab):(ddS l).length<=l.length:=by
 induction l using Un with
 | nil=>exact JlP _
 | append_singleton l y ih=>
  rw [HN,List.length_append]
  split
  ·omega
  ·rw [List.length_append];simp only [List.length_singleton];omega
theorem ZG {l:List Ab} (h:l.Pairwise λ a b=>¬ltA b a):(ddS l).Pairwise ltA:=by
 induction l using Un with
 | nil=>exact .nil
 | append_singleton l y ih=>
  rw [List.pairwise_append] at h
  have ih:=ih h.1
  rw [HN]
  split
  ·exact ih
  ·rename_i hne
   refine List.pairwise_append.2 ⟨ih,List.pairwise_singleton _ _,λ a ha b hb=>?_⟩
   rw [List.mem_singleton] at hb
   subst hb
   have hab:=h.2.2 a ((Xs l a).1 ha) b (List.mem_singleton_self _)
   rcases NJ a b with rfl|h1|h1
   ·exfalso
    rw [Uo] at hne
    rcases List.eq_nil_or_concat l with rfl|⟨l',z,rfl⟩
    ·cases ha
    ·rw [List.concat_eq_append] at h hne ha
     have hz:=h.2.2 z (by simp) a (List.mem_singleton_self _)
     rw [Xs] at ha
     rcases List.mem_append.1 ha with hm|hm
     ·have hza:=(List.pairwise_append.1 h.1).2.2 a hm z (List.mem_singleton_self _)
      rcases NJ z a with rfl|h2|h2
      ·exact hne (by simp)
      ·exact hza h2
      ·exact hz h2
     ·rw [List.mem_singleton] at hm
      subst hm
      exact hne (by simp)
   ·exact h1
   ·exact absurd h1 hab
theorem chE (c d:Ab):((c.Block==d.Block)&&((c.At==d.At)&&((c.Cut==d.Cut)&&((c.Put==d.Put)&&true))))=decide (c=d):=by
 cases c;cases d
 rw [Bool.eq_iff_iff]
 simp
theorem Jcj {l:List Ab} {lo n:Nat} {i:Int} (h:0<=i) (h':i<(n:Int)) (hl:lo+n<=l.length):ixP l (lo,n) i=some (l.getD (lo+i.toNat) default):=by
 unfold ixP inB
 rw [decide_eq_true h,decide_eq_true h']
 exact Da (by omega)
theorem Yf {l:List Ab} {k:Nat} (hk:k<=l.length) (h:∀ j,1<=j->j<k->l.getD j default≠l.getD (j-1) default):ddS (l.take k)=l.take k:=by
 induction k with
 | zero=>simp [ddS]
 | succ k ih=>
  have hlt:k<l.length:=by omega
  rw [List.take_succ_eq_append_getElem hlt,HN,ih (by omega) λ j h1 h2=>h j h1 (by omega),if_neg]
  intro he
  rcases Nat.eq_zero_or_pos k with rfl|hp
  ·simp at he
  ·have:=h k hp (by omega)
   rw [List.getLast?_eq_getElem?,List.length_take,Nat.min_eq_left (by omega),List.getElem?_take,if_pos (by omega),JlY (by omega)] at he
   rw [BT hlt,BT (show k-1<l.length by omega)] at this
   exact this (Option.some.inj he).symm
theorem NL {l:List Ab} {k:Nat} (hk:1<=k) (h:k<=l.length):(l.take k).getLast? = some (l.getD (k-1) default):=by
 rw [List.getLast?_eq_getElem?,List.length_take,Nat.min_eq_left h,List.getElem?_take,if_pos (by omega),JlY (by omega),BT (show k-1<l.length by omega)]
theorem Xt {l:List Ab} (hl:l.length<=1000000):Tot (λ n=>Ka n l) (λ r=>(r.2.1=0/\r.2.2=(ddS l).length/\r.2.2<=r.1.length)/\r.1.take r.2.2=ddS l):=by
 have hid:ddS l=l->((0:Nat)=0/\l.length=(ddS l).length/\l.length<=l.length)/\l.take l.length=ddS l:=λ e=>by
  rw [e];exact ⟨⟨rfl,rfl,JlP _⟩,List.take_length⟩
 have hall:(∀ j,1<=j->j<l.length->l.getD j default≠l.getD (j-1) default)->ddS l=l:=λ h=>by
  have:=Yf (JlP _) h
  rwa [List.take_length] at this
 refine Tot.ite (λ h=>Tot.pure ?_) λ h=>?_
 ·rw [decide_eq_true_eq] at h
  exact hid (hall λ j h1 h2=>by omega)
 ·rw [decide_eq_false_iff_not] at h
  refine Tot.bind (R:=λ y=>match y with | .inl _=>ddS l=l | .inr r=>(r.2.1=0/\r.2.2=(ddS l).length/\r.2.2<=r.1.length)/\r.1.take r.2.2=ddS l) ?_ λ y hy=>by
   cases y with
   | inl _=>exact Tot.pure (hid hy)
   | inr r=>exact Tot.pure hy
  refine Tot.whl (λ q (x:Int)=>∃ k:Nat,x=(k:Int)/\1<=k/\k+q=l.length/\∀ j,1<=j->j<k->l.getD j default≠l.getD (j-1) default) ?_ (l.length-1) _ ⟨1,rfl,by omega,by omega,λ j h1 h2=>by omega⟩
  rintro q _ ⟨k,rfl,hk1,hkq,hne⟩
  unfold GI
  rcases JlQ k l.length with hk|hk
  ·refine Tot.iteT (decide_eq_true (by omega)) (Tot.bindC (Da hk) ?_)
   rw [CC (by omega) (by omega),show (k:Int)-1=((k-1:Nat):Int) by omega]
   refine Tot.bindC (Da (by omega)) ?_
   rw [chE]
   refine Tot.ite (λ he=>?_) λ he=>Tot.pure ⟨q-1,by omega,k+1,Aq (by omega),by omega,by omega,λ j h1 h2=>?_⟩
   ·rw [decide_eq_true_eq] at he
    refine Tot.bindC (HJ (by omega) (by omega) (by omega)) ?_
    have hd0:=Yf (by omega) hne
    refine Tot.bind (R:=λ y=>(y.1.length=l.length/\∃ m:Nat,y.2=(m:Int)/\m<=l.length/\y.1.take m=ddS l)) ?_ λ y hy=>?_
    ·refine Tot.whl (λ q (x:List Ab×Int×Int)=>∃ m k2:Nat,(x.2.1=(m:Int)/\x.2.2=(k2:Int))/\(1<=k2/\k+k2+q=l.length/\m+1<=k+k2)/\(x.1.length=l.length/\∀ j,k+k2<=j+1->x.1.getD j default=l.getD j default)/\x.1.take m=ddS (l.take (k+k2))) ?_ (l.length-(k+1)) _ ⟨k,1,⟨rfl,rfl⟩,⟨by omega,by omega,by omega⟩,⟨rfl,λ _ _=>rfl⟩,?_⟩
     ·rintro q ⟨s,a,b⟩ ⟨m,k2,⟨h1,h2⟩,⟨g1,g2,g3⟩,⟨s1,s2⟩,s3⟩
      simp only at h1 h2 s1 s2 s3
      subst h1 h2
      unfold GH
      have eb:(((0+Int.toNat (k:Int),Int.toNat ((l.length:Nat):Int)-Int.toNat (k:Int)):Nat×Nat))=(k,l.length-k):=by simp
      rw [eb]
      rcases JlQ (k+k2) l.length with hlt|hge
      ·refine Tot.iteT (decide_eq_true ?_) ?_
       ·show (k2:Int)<((l.length-k:Nat):Int);omega
       have i1:ixP s (k,l.length-k) (k2:Int)=some (l.getD (k+k2) default):=by
        rw [Jcj (by omega) (by omega) (by omega),Jl8,s2 _ (by omega)]
       have i2:ixP s (k,l.length-k) (AT .i64 (k2:Int) 1)=some (l.getD (k+k2-1) default):=by
        rw [CC (by omega) (by omega),Jcj (by omega) (by omega) (by omega),show k+((k2:Int)-1).toNat=k+k2-1 by omega,s2 _ (by omega)]
       refine Tot.bindC i1 (Tot.bindC i2 ?_)
       rw [chE]
       have hsn:l.take (k+(k2+1))=l.take (k+k2)++[l.getD (k+k2) default]:=by
        rw [← JlU,List.take_succ_eq_append_getElem hlt,BT hlt]
       have hla:(ddS (l.take (k+k2))).getLast? = some (l.getD (k+k2-1) default):=by
        rw [Uo,NL (by omega) (by omega)]
       refine Tot.ite (λ hd=>?_) λ hd=>?_
       ·rw [Bool.not_eq_true',decide_eq_false_iff_not] at hd
        refine Tot.bindC i1 (Tot.bindC (Da (show m<s.length by omega)) (Tot.bindC (RH (show m<s.length by omega)) (Tot.pure ⟨q-1,by omega,m+1,k2+1,⟨Aq (by omega),Aq (by omega)⟩,⟨by omega,by omega,by omega⟩,⟨by simp [s1],λ j hj=>?_⟩,?_⟩)))
        ·rw [Jl7,Jme (by omega),← Jl7,s2 _ (by omega)]
        ·rw [hsn,HN,hla,if_neg (λ e=>hd (Option.some.inj e).symm),← s3]
         show (s.set m _).take (m+1)=_
         rw [List.take_succ_eq_append_getElem (by simp;omega),List.getElem_set_self,List.take_set_of_le (JlP _)]
       ·rw [Bool.not_eq_false',decide_eq_true_eq] at hd
        refine Tot.pure ⟨q-1,by omega,m,k2+1,⟨rfl,Aq (by omega)⟩,⟨by omega,by omega,by omega⟩,⟨s1,λ j hj=>s2 j (by omega)⟩,?_⟩
        rw [hsn,HN,hla,hd,if_pos rfl]
        exact s3
      ·refine Tot.iteF (decide_eq_false ?_) (Tot.pure ⟨s1,m,rfl,by omega,?_⟩)
       ·show ¬((k2:Int)<((l.length-k:Nat):Int));omega
       ·show s.take m=_
        rw [s3,List.take_of_length_le (by omega)]
     ·show l.take k=_
      rw [List.take_succ_eq_append_getElem hk,HN,Uo,NL (by omega) (by omega),← BT (d:=default) hk,he,if_pos rfl,hd0]
    ·obtain ⟨y1,m,hm,hm2,hm3⟩:=hy
     obtain ⟨ya,yb⟩:=y
     simp only at y1 hm hm3
     subst hm
     have hml:m=(ddS l).length:=by rw [← hm3,List.length_take];omega
     refine Tot.bindC (HJ (by omega) (show (m:Int)<=((ya.length:Nat):Int) by omega) (Int.le_refl _)) (Tot.bindC (y:=ya.take m++List.replicate (ya.length-m) ⟨0,0,0,[]⟩) ?_ (Tot.bindC (HJ (by omega) (by omega) (by simp;omega)) (Tot.pure ?_)))
     ·simp only [Jmc,Jl8]
      unfold Y2
      rw [if_pos (by omega)]
      unfold spl
      rw [List.length_replicate,List.drop_of_length_le (by omega),List.append_nil]
     ·simp only [Int.toNat_zero,Jmc,Jl8,Nat.sub_zero]
      refine ⟨⟨rfl,hml,by simp;omega⟩,?_⟩
      rw [List.take_append_of_le_length (by simp;omega),List.take_take,Nat.min_self,hm3]
   ·rw [decide_eq_false_iff_not] at he
    rcases Nat.lt_succ_iff_lt_or_eq.1 h2 with h3|rfl
    ·exact hne j h1 h3
    ·exact he
  ·refine Tot.iteF (decide_eq_false (by omega)) (Tot.pure ?_)
   exact hall λ j h1 h2=>hne j h1 (by omega)
end Go.AI
end
section
namespace Go.AI
def csW (w:List A0) (i:Nat):Ab:=(w.getD i default).C
def qW (w:List A0) (i j:Nat):Bool:=(!(decide (csW w i=csW w j)))&&(!(frB (csW w i) (csW w j)))
def nlW (w:List A0) (i:Nat):Bool:=(List.range w.length).all λ j=>!(qW w i j)
def agI (w:List A0) (i:Nat):List Ab:=((List.range i).filter (nlW w)).map (csW w)
def agL (w:List A0):List Ab:=ddS (Xq (agI w w.length))
def Sz (w:List A0) (i j:Nat):List (Cv Int):=((List.range j).filter λ k=>decide (i<k)&&qW w i k).map λ (k:Nat)=>(⟨(i:Int),(k:Int)⟩:Cv Int)
def quW (w:List A0) (i:Nat):List (Cv Int):=(List.range i).flatMap λ a=>Sz w a w.length
def jnS (w:List A0):Ao:={ Agreed:=D3 [] (agL w),Quarrels:=quW w w.length }
structure WOK (w:List A0):Prop where
 len:w.length<=100
 ok:∀ y∈w,Okc 1000 y.C
 cut:∀ y∈w,0<=y.C.Cut
theorem Yg (w:List A0) (i j:Nat):qW w i j=qW w j i:=by
 unfold qW
 rw [RI (csW w i),show decide (csW w i=csW w j)=decide (csW w j=csW w i) by rw [decide_eq_decide];exact eq_comm]
theorem JeX (w:List A0) (i:Nat):qW w i i=false:=by unfold qW;simp
theorem Yh {w:List A0} {i:Nat}:nlW w i=true↔∀ j,j<w.length->qW w i j=false:=by unfold nlW;simp
theorem V9 (w:List A0) (i:Nat):agI w (i+1)=agI w i++if nlW w i=true then [csW w i] else []:=by
 unfold agI
 rw [List.range_succ,List.filter_append,List.map_append]
 congr 1
 cases h:nlW w i<;>simp [h]
theorem Up {w:List A0} {i:Nat} {c:Ab}:c∈agI w i↔∃ k,(k<i/\nlW w k=true)/\csW w k=c:=by unfold agI;simp
theorem Uq (w:List A0) (i:Nat):(agI w i).length<=i:=by
 unfold agI
 rw [JlV]
 have:=List.length_filter_le (nlW w) (List.range i)
 rwa [List.length_range] at this
theorem Yi {w:List A0} {i:Nat} (h:i<w.length):w.getD i default∈w:=by rw [BT h];exact JlN h
theorem WOK.c {w:List A0} (h:WOK w) {i:Nat} (hi:i<w.length):Okc 1000 (csW w i)/\0<=(csW w i).Cut:=⟨h.ok _ (Yi hi),h.cut _ (Yi hi)⟩
theorem Yj {w:List A0} {i j:Nat} (hj:j<w.length) (h:nlW w i=true) (hne:csW w i≠csW w j):frB (csW w i) (csW w j)=true:=by
 have:=Yh.1 h j hj
 unfold qW at this
 rw [decide_eq_false hne] at this
 simpa using this
theorem JkL {w:List A0} {i j:Nat} (hj:j<w.length) (h:nlW w i=true) (hne:csW w i≠csW w j):Gu (csW w i) (csW w j)\/Gu (csW w j) (csW w i):=JeF (Yj hj h hne)
theorem Ur {w:List A0} {c:Ab}:c∈agL w↔c∈agI w w.length:=by
 unfold agL
 rw [Xs,(R2 _).mem_iff]
theorem Yk (w:List A0):(agL w).length<=w.length:=by
 unfold agL
 have h1:=Jji (Xq (agI w w.length))
 rw [(R2 _).length_eq] at h1
 have:=Uq w w.length
 omega
theorem JeY (w:List A0):Frs (agL w):=by
 have h:=ZG (Xr (agI w w.length))
 unfold Frs
 refine List.Pairwise.imp_of_mem ?_ h
 intro c d hc hd hlt
 have hc':=Ur.1 hc
 have hd':=Ur.1 hd
 obtain ⟨i,⟨hi,hni⟩,rfl⟩:=Up.1 hc'
 obtain ⟨j,⟨hj,hnj⟩,rfl⟩:=Up.1 hd'
 have hne:csW w i≠csW w j:=λ e=>by rw [e] at hlt;exact Ul hlt
 refine ⟨Yj hj hni hne,?_⟩
 rcases JkL hj hni hne with h|h
 ·exact h
 ·exact absurd (Or.inl h) (V8 hlt)
theorem Jck {w:List A0} {i:Nat} (h:i<w.length):idx w (i:Int)=some (w.getD i default):=Da h
theorem ZH (w:List A0) (i j:Nat):Sz w i (j+1)=Sz w i j++if (decide (i<j)&&qW w i j)=true then [(⟨(i:Int),(j:Int)⟩:Cv Int)] else []:=by
 unfold Sz
 rw [List.range_succ,List.filter_append,List.map_append]
 congr 1
 cases h:decide (i<j)&&qW w i j<;>simp [h]
theorem Jjj (w:List A0) (i:Nat):Sz w i (i+1)=[]:=by
 unfold Sz
 rw [List.map_eq_nil_iff,List.filter_eq_nil_iff]
 intro k hk
 rw [List.mem_range] at hk
 rw [decide_eq_false (by omega)]
 simp
theorem Wa (w:List A0) (i:Nat):quW w (i+1)=quW w i++Sz w i w.length:=by unfold quW;rw [List.range_succ,List.flatMap_append];simp
theorem Wb (w:List A0) (i j:Nat):(Sz w i j).length<=j:=by
 unfold Sz
 rw [JlV]
 have:=List.length_filter_le (λ k=>decide (i<k)&&qW w i k) (List.range j)
 rwa [List.length_range] at this
theorem JeZ (w:List A0) (i:Nat):(quW w i).length<=i*w.length:=by
 induction i with
 | zero=>simp [quW]
 | succ i ih=>
  rw [Wa,List.length_append,Jmb]
  have:=Wb w i w.length
  omega
theorem Jjk {w:List A0} (hw:WOK w) {i:Nat} (hi:i<=w.length):(quW w i).length<=10000:=by
 have h1:=JeZ w i
 have h2:=hw.len
 have:i*w.length<=100*100:=Nat.mul_le_mul (by omega) h2
 omega
theorem Je0 {b:Int} {l:List Ab} (h:∀ c∈l,Okc 1000 c):-(2000*(l.length:Int))<=G7 b l/\G7 b l<=2000*(l.length:Int):=by
 induction l with
 | nil=>simp [G7]
 | cons d l ih=>
  have h1:=ih λ c hc=>h c (List.mem_cons_of_mem _ hc)
  have h2:=h d (List.mem_cons_self ..)
  unfold Okc at h2
  simp only [G7,List.length_cons]
  split<;>omega
theorem Jcl {l pre:List Ab} (h:∀ c∈l,Okc 1000 c) (h':∀ c∈pre,Okc 1000 c) (hl:pre.length+l.length<=100):∀ c∈D3 pre l,Okc 1000000 c:=by
 induction l generalizing pre with
 | nil=>simp [D3]
 | cons d l ih=>
  have hd:=h d (List.mem_cons_self ..)
  simp only [List.length_cons] at hl
  simp only [D3]
  intro c hc
  rcases List.mem_cons.1 hc with rfl|hc
  ·have:=Je0 (b:=d.Block) h'
   unfold mvC Okc at *
   simp only
   omega
  ·refine ih (λ c hc=>h c (List.mem_cons_of_mem _ hc)) (λ c hc=>?_) (by simp;omega) c hc
   rw [List.mem_append,List.mem_singleton] at hc
   rcases hc with hc|rfl
   ·exact h' c hc
   ·exact hd
theorem Yl {w:List A0} (hw:WOK w):∀ c∈agL w,Okc 1000 c/\0<=c.Cut:=λ c hc=>by
 obtain ⟨i,⟨hi,_⟩,rfl⟩:=Up.1 (Ur.1 hc)
 exact hw.c hi
theorem Xu {w:List A0} (hw:WOK w) {i:Nat} (hi:i<(agL w).length):PR (agL w)[i] (D3 [] ((agL w).take i)) 0=(mvC (G7 (agL w)[i].Block ((agL w).take i)) (agL w)[i],(((agL w).take i).length:Int),true):=by
 have hm:=JlN hi
 have hc:=Yl hw _ hm
 have hf:=JeY w
 unfold Frs at hf
 have e:=Xb (agL w)[i] hc.2 [] ((agL w).take i) 0 (λ d hd=>(Yl hw d (List.mem_of_mem_take hd)).2) (λ d hd=>by
  have h2:((agL w).take (i+1)).Pairwise λ c d=>frB c d=true/\Gu c d:=hf.sublist (List.take_sublist _ _)
  rw [List.take_succ_eq_append_getElem hi,List.pairwise_append] at h2
  have:=h2.2.2 d hd _ (List.mem_singleton_self _)
  exact ⟨by rw [RI];exact this.1,this.2⟩)
 rw [show G7 (agL w)[i].Block []=0 from rfl,JkB,List.nil_append,Jmc] at e
 exact e
theorem ZI (w:List A0) {i:Nat} (hi:i<(agL w).length):D3 [] ((agL w).take (i+1))=D3 [] ((agL w).take i)++[mvC (G7 (agL w)[i].Block ((agL w).take i)) (agL w)[i]]:=by
 rw [List.take_succ_eq_append_getElem hi,Zj,List.nil_append]
 rfl
theorem Je1 {w:List A0} (hw:WOK w) (i:Nat):∀ d∈D3 [] ((agL w).take i),Okc 1000000000 d:=λ d hd=>by
 have h1:=Yk w
 have h2:=hw.len
 exact (Jcl (λ c hc=>(Yl hw c (List.mem_of_mem_take hc)).1) (by simp) (by simp;omega) d hd).mono (by omega)
end Go.AI
end
section
namespace Go.AI
def ldP (w:List A0) (i j k:Nat):Prop:=∃ a b,(a<b/\b<w.length)/\(a<i\/a=i/\b<j)/\qW w a b=true/\(k=a\/k=b)
theorem Jcm {w:List A0} {i k:Nat}:ldP w i 0 k↔ldP w i (i+1) k:=by
 unfold ldP
 constructor
 ·rintro ⟨a,b,h,h1,h2⟩;exact ⟨a,b,h,by omega,h2⟩
 ·rintro ⟨a,b,h,h1,h2⟩;exact ⟨a,b,h,by omega,h2⟩
theorem Jjl {w:List A0} {i k:Nat}:ldP w i w.length k↔ldP w (i+1) 0 k:=by
 unfold ldP
 constructor
 ·rintro ⟨a,b,h,h1,h2⟩;exact ⟨a,b,h,by omega,h2⟩
 ·rintro ⟨a,b,h,h1,h2⟩;exact ⟨a,b,h,by omega,h2⟩
theorem Je2 {w:List A0} {i j k:Nat} (hij:i<j) (hj:j<w.length):ldP w i (j+1) k↔ldP w i j k\/(qW w i j=true/\(k=i\/k=j)):=by
 unfold ldP
 constructor
 ·rintro ⟨a,b,h,h1,h2,h3⟩
  by_cases e:a=i/\b=j
  ·obtain ⟨rfl,rfl⟩:=e
   exact .inr ⟨h2,h3⟩
  ·exact .inl ⟨a,b,h,by omega,h2,h3⟩
 ·rintro (⟨a,b,h,h1,h2⟩|⟨h2,h3⟩)
  ·exact ⟨a,b,h,by omega,h2⟩
  ·exact ⟨i,j,⟨hij,hj⟩,.inr ⟨rfl,by omega⟩,h2,h3⟩
theorem Jjm {w:List A0} {k:Nat} (hk:k<w.length):ldP w w.length 0 k↔nlW w k=false:=by
 rw [← Bool.not_eq_true,Yh]
 unfold ldP
 constructor
 ·rintro ⟨a,b,h,h1,h2,rfl|rfl⟩ hn
  ·rw [hn b h.2] at h2;cases h2
  ·rw [Yg,hn a (by omega)] at h2;cases h2
 ·intro hn
  refine Classical.byContradiction λ hh=>hn λ j hj=>?_
  cases hq:qW w k j with
  | false=>rfl
  | true=>
   exfalso
   refine hh ?_
   rcases Nat.lt_trichotomy k j with h|rfl|h
   ·exact ⟨k,j,⟨h,hj⟩,.inl hk,hq,.inl rfl⟩
   ·rw [JeX] at hq;cases hq
   ·exact ⟨j,k,⟨h,hk⟩,.inl hj,by rw [Yg];exact hq,.inr rfl⟩
theorem Wc {l:List Bool} {i k:Nat} {b:Bool} (hi:i<l.length):(l.set i b).getD k false=if i=k then b else l.getD k false:=by
 rw [Jl7,List.getElem?_set]
 by_cases h:i=k
 ·subst h
  rw [if_pos rfl,if_pos hi,if_pos rfl];rfl
 ·rw [if_neg h,if_neg h,Jl7]
theorem Je3 {w:List A0} (hw:WOK w):Ev (λ n=>Nb n w) (jnS w):=by
 have hlen:=hw.len
 have hal:=Yk w
 unfold Nb
 refine Tot.ev (Tot.bindC (JkA (by omega) (by omega)) ?_)
 rw [Jl8]
 refine Tot.bind (R:=λ y:Ao×List Bool=>y.1={ Agreed:=[],Quarrels:=quW w w.length }/\y.2.length=w.length/\∀ k,k<w.length->(y.2.getD k false=true↔nlW w k=false)) ?_ λ y hy=>?_
 ·refine Tot.upto w.length (λ i (x:Ao×List Bool×Int)=>x.2.2=(i:Int)/\x.1={ Agreed:=[],Quarrels:=quW w i }/\x.2.1.length=w.length/\∀ k,k<w.length->(x.2.1.getD k false=true↔ldP w i 0 k)) ?_ ?_ _ ⟨rfl,rfl,by simp,λ k hk=>?_⟩
  ·rintro i ⟨v,ld,x⟩ hi ⟨h1,h2,h3,h4⟩
   simp only at h1 h2 h3 h4
   subst h1 h2
   unfold Ho
   refine Tot.iteT (EJ hi) (Tot.bind (R:=λ y:Ao×List Bool=>y.1={ Agreed:=[],Quarrels:=quW w (i+1) }/\y.2.length=w.length/\∀ k,k<w.length->(y.2.getD k false=true↔ldP w (i+1) 0 k)) ?_ λ y hy=>Tot.pure ⟨Aq (by omega),hy⟩)
   have hq:=Jjk hw (i:=i) (by omega)
   refine Tot.whl (λ m (x:Ao×List Bool×Int)=>∃ j:Nat,x.2.2=(j:Int)/\(i<j/\j+m=w.length)/\x.1={ Agreed:=[],Quarrels:=quW w i++Sz w i j }/\x.2.1.length=w.length/\∀ k,k<w.length->(x.2.1.getD k false=true↔ldP w i j k)) ?_ (w.length-(i+1)) _ ⟨i+1,Aq (by omega),by omega,by rw [Jjj,List.append_nil],h3,λ k hk=>(h4 k hk).trans Jcm⟩
   rintro m ⟨v,l0,x⟩ ⟨j,h1,⟨g1,g2⟩,h2,h3,h4⟩
   simp only at h1 h2 h3 h4
   subst h1 h2
   unfold Kc
   rcases JlQ j w.length with hj|hj
   ·refine Tot.iteT (EJ hj) (Tot.bindC (Jck hi) (Tot.bindC (Jck hj) ?_))
    rw [chE]
    have hr:=Wb w i j
    have hs:=ZH w i j
    rw [decide_eq_true g1,Bool.true_and] at hs
    have hc1:=(hw.c hi).1
    have hc2:=(hw.c hj).1
    have hld:=λ k=>Je2 (w:=w) (k:=k) g1 hj
    unfold qW at hs hld
    cases hd:decide (csW w i=csW w j) with
    | true=>
     rw [hd] at hs hld
     rw [show decide ((w.getD i default).C=(w.getD j default).C)=true from hd]
     refine Tot.gF rfl (Tot.gF rfl (Tot.gF rfl (Tot.iteF rfl (Tot.pure ⟨m-1,by omega,j+1,Aq (by omega),by omega,?_,h3,λ k hk=>?_⟩))))
     ·rw [hs];simp
     ·rw [h4 k hk,hld];simp
    | false=>
     rw [hd] at hs hld
     rw [show decide ((w.getD i default).C=(w.getD j default).C)=false from hd]
     refine Tot.gE rfl (Ev.all λ n=>Jck hi) (Tot.gE rfl (Ev.all λ n=>Jck hj) (Tot.gE rfl (Ev.all λ n=>X0 n (by omega) hc1 hc2) ?_))
     cases hf:frB (csW w i) (csW w j) with
     | true=>
      rw [hf] at hs hld
      refine Tot.iteF (by rw [show frB (w.getD i default).C (w.getD j default).C=true from hf];rfl) (Tot.pure ⟨m-1,by omega,j+1,Aq (by omega),by omega,?_,h3,λ k hk=>?_⟩)
      ·rw [hs];simp
      ·rw [h4 k hk,hld];simp
     | false=>
      rw [hf] at hs hld
      refine Tot.iteT (by rw [show frB (w.getD i default).C (w.getD j default).C=false from hf];rfl) (Tot.bindC (Bf (by simp;omega)) (Tot.bindC (Da (show i<l0.length by omega)) (Tot.bindC (RH (show i<l0.length by omega)) (Tot.bindC (Da (show j<(l0.set i true).length by simp;omega)) (Tot.bindC (RH (show j<(l0.set i true).length by simp;omega)) (Tot.pure ⟨m-1,by omega,j+1,Aq (by omega),by omega,?_,by simp [h3],λ k hk=>?_⟩))))))
      ·rw [hs];simp
      ·rw [hld]
       show ((l0.set i true).set j true).getD k false=true↔_
       rw [Wc (by simp;omega),Wc (by omega)]
       by_cases e1:j=k
       ·subst e1;simp
       ·rw [if_neg e1]
        by_cases e2:i=k
        ·subst e2;simp
        ·rw [if_neg e2,h4 k hk]
         constructor
         ·exact .inl
         ·rintro (h|⟨_,h⟩)
          ·exact h
          ·omega
   ·refine Tot.iteF (decide_eq_false (by show ¬((j:Int)<((w.length:Nat):Int));omega)) (Tot.pure ?_)
    have:j=w.length:=by omega
    subst this
    exact ⟨by rw [Wa],h3,λ k hk=>(h4 k hk).trans Jjl⟩
  ·rintro ⟨v,ld,x⟩ ⟨h1,h2,h3,h4⟩
   simp only at h1 h2 h3 h4
   subst h1 h2
   unfold Ho
   exact Tot.iteF (C3 _) (Tot.pure ⟨rfl,h3,λ k hk=>(h4 k hk).trans (Jjm hk)⟩)
  ·show (List.replicate w.length false).getD k false=true↔_
   rw [Jl7,List.getElem?_replicate,if_pos hk]
   unfold ldP
   constructor
   ·intro h;cases h
   ·rintro ⟨a,b,_,h,_⟩;omega
 ·obtain ⟨v,ld⟩:=y
  obtain ⟨h1,h2,h3⟩:=hy
  simp only at h1 h2 h3
  subst h1
  refine Tot.bindE (f:=λ n=>whl (λ (x:List Ab×Int)=>FB n w ({ Agreed:=[],Quarrels:=quW w w.length },ld) x.1 x.2) n ([],0)) (x:=agI w w.length) ?_ ?_
  ·refine Tot.ev (Tot.upto w.length (λ i (x:List Ab×Int)=>x.2=(i:Int)/\x.1=agI w i) ?_ ?_ _ ⟨rfl,rfl⟩)
   ·rintro i ⟨l,x⟩ hi ⟨g1,g2⟩
    simp only at g1 g2
    subst g1 g2
    unfold FB
    have hil:=Uq w i
    refine Tot.iteT (EJ hi) (Tot.bindC (Jck hi) (Tot.bindC (Da (show i<ld.length by omega)) ?_))
    have h4:=h3 i hi
    rw [show ld.getD i default=ld.getD i false from rfl]
    refine Tot.ite (λ hb=>?_) λ hb=>?_
    ·have hn:nlW w i=true:=by
      have hb:ld.getD i false=false:=by simpa using hb
      cases hn:nlW w i with
      | true=>rfl
      | false=>rw [h4.2 hn] at hb;cases hb
     refine Tot.bindC (Bf (by simp;omega)) (Tot.pure ⟨Aq (by omega),?_⟩)
     rw [V9,if_pos hn];rfl
    ·have hb:ld.getD i false=true:=by simpa using hb
     have hn:=h4.1 hb
     refine Tot.pure ⟨Aq (by omega),?_⟩
     rw [V9,if_neg (by rw [hn];simp),List.append_nil]
   ·rintro ⟨l,x⟩ ⟨g1,g2⟩
    simp only at g1 g2
    subst g1 g2
    unfold FB
    exact Tot.iteF (C3 _) (Tot.pure rfl)
  have hil:=Uq w w.length
  have hsl:(Xq (agI w w.length)).length=(agI w w.length).length:=(R2 _).length_eq
  refine Tot.bindE (JeW (by omega)) (Tot.bindC (D2 (decide_eq_true hsl.symm)) (Tot.bind (Xt (by omega)) λ r hr=>?_))
  obtain ⟨arr,lo,m⟩:=r
  obtain ⟨⟨r1,r2,r3⟩,r4⟩:=hr
  simp only at r1 r2 r3 r4
  subst r1
  have r4:arr.take m=agL w:=r4
  have r2:m=(agL w).length:=r2
  refine Tot.bind (R:=λ v=>v=jnS w) ?_ λ v hv=>Tot.pure hv
  refine Tot.upto m (λ i (x:Ao×Int)=>x.2=(i:Int)/\x.1={ Agreed:=D3 [] ((agL w).take i),Quarrels:=quW w w.length }) ?_ ?_ _ ⟨rfl,rfl⟩
  ·rintro i ⟨v,x⟩ hi ⟨g1,g2⟩
   simp only at g1 g2
   subst g1 g2
   unfold Hp
   have hi':i<(agL w).length:=by omega
   have hok:=(Yl hw _ (JlN hi')).1
   have hx:ixP arr (0,m) (i:Int)=some (agL w)[i]:=by
    rw [Jcj (by omega) (by omega) (by omega),Jmc,Jl8]
    congr 1
    have:(arr.take m)[i]? = some (agL w)[i]:=by rw [r4,JlY hi']
    rw [List.getElem?_take,if_pos hi] at this
    rw [Jl7,this];rfl
   refine Tot.iteT (EJ hi) (Tot.bindC hx (Tot.bindE (VN (by rw [S1];simp;omega) (Je1 hw i) (hok.mono (by omega))) ?_))
   rw [Xu hw hi']
   refine Tot.iteT rfl (Tot.bindC (Bf (by simp [S1];omega)) (Tot.pure ⟨Aq (by omega),?_⟩))
   rw [ZI w hi']
  ·rintro ⟨v,x⟩ ⟨g1,g2⟩
   simp only at g1 g2
   subst g1 g2
   unfold Hp
   refine Tot.iteF (C3 _) (Tot.pure ?_)
   show _=_
   rw [r2,List.take_length];rfl
end Go.AI
end
section
namespace Go.AI
def b0:List Ad:=[{ Kind:=1,Level:=0,Text:=[97,98,99],Rows:=[],F:=[],Pic:={ W:=0,H:=0,Gap:=0,F:=[] },Page:=0 }]
theorem Jfy:BkT b0:=⟨by decide,λ x hx=>by simp only [b0,List.mem_singleton] at hx;subst hx;decide⟩
def chg (a c:Int) (s:List UInt8):Ab:={ Block:=0,At:=a,Cut:=c,Put:=s }
def w0:List A0:=[⟨0,chg 2 1 [122]⟩,⟨0,chg 2 1 [122]⟩,⟨0,chg 0 1 [120,121]⟩,⟨0,chg 1 0 [112]⟩,⟨0,chg 1 0 [113]⟩]
theorem JkM:WOK w0:=by
 refine ⟨by decide,λ y hy=>?_,λ y hy=>?_⟩
 ·simp only [w0,List.mem_cons,List.not_mem_nil,or_false] at hy
  rcases hy with rfl|rfl|rfl|rfl|rfl<;>unfold Okc chg<;>decide
 ·simp only [w0,List.mem_cons,List.not_mem_nil,or_false] at hy
  rcases hy with rfl|rfl|rfl|rfl|rfl<;>unfold chg<;>decide
theorem Jn {a c:Int} {s:List UInt8} (ha:-1000<=a/\a<=1000) (hc:-1000<=c/\c<=1000) (hs:s.length<=1000) {A:Int} (hA:1000<=A):Okc A (chg a c s):=by unfold Okc chg;simp only;omega
theorem Wd:∀ i:Nat,i<5->∃ c:Ab,idx ([chg 0 3 [],chg 4 0 [97],{ Block:=1,At:=0,Cut:=0,Put:=[97] },chg (-1) 0 [97],chg 0 0 [32]]:List Ab) (i:Int)=some c/\Okc 1000000000000 c/\apS b0 c=([],320)
 | 0,_=>⟨_,rfl,Jn (by decide) (by decide) (by decide) (by decide),by kernel_rfl⟩
 | 1,_=>⟨_,rfl,Jn (by decide) (by decide) (by decide) (by decide),by kernel_rfl⟩
 | 2,_=>⟨_,rfl,by unfold Okc;decide,by kernel_rfl⟩
 | 3,_=>⟨_,rfl,Jn (by decide) (by decide) (by decide) (by decide),by kernel_rfl⟩
 | 4,_=>⟨_,rfl,Jn (by decide) (by decide) (by decide) (by decide),by kernel_rfl⟩
 | n+5,h=>by omega
theorem KZ {a c:Int} {s:List UInt8} {a' c':Int} {s':List UInt8} (h:(-1000<=a/\a<=1000)/\(-1000<=c/\c<=1000)/\s.length<=1000) (h':(-1000<=a'/\a'<=1000)/\(-1000<=c'/\c'<=1000)/\s'.length<=1000) (n:Nat):Dv n (chg a c s) (chg a' c' s')=some (ovS (chg a c s) (chg a' c' s')):=
 X1 n (A:=1000) (by decide) (Jn h.1 h.2.1 h.2.2 (by decide)) (Jn h'.1 h'.2.1 h'.2.2 (by decide))
theorem ZJ:Ev (λ n=>Hq n) true:=by
 have hA:apS b0 (chg 1 1 [120,121])=([{ Kind:=1,Level:=0,Text:=[97,120,121,99],Rows:=[],F:=[],Pic:={ W:=0,H:=0,Gap:=0,F:=[] },Page:=0 }],0):=by kernel_rfl
 have hJ:jnS w0={ Agreed:=[chg 0 1 [120,121],chg 3 1 [122]],Quarrels:=[⟨3,4⟩] }:=by kernel_rfl
 have h1:=KW Jfy (Jn (a:=1) (c:=1) (s:=[120,121]) (A:=1000000000000) (by decide) (by decide) (by decide) (by decide))
 rw [hA] at h1
 have hj:=Je3 JkM
 rw [hJ] at hj
 have hc:Ev (λ n=>Ie n (chg 1 0 [97]) [chg 0 0 [98],chg 2 0 [99]]) (noC,1,false):=by
  have:=VN (l:=[chg 0 0 [98],chg 2 0 [99]]) (c:=chg 1 0 [97]) (by decide) (λ d hd=>by
   simp only [List.mem_cons,List.not_mem_nil,or_false] at hd
   rcases hd with rfl|rfl<;>exact Jn (by decide) (by decide) (by decide) (by decide)) (Jn (by decide) (by decide) (by decide) (by decide))
  have e:PR (chg 1 0 [97]) [chg 0 0 [98],chg 2 0 [99]] 0=(noC,1,false):=by kernel_rfl
  rwa [e] at this
 have o1:ovS (chg 2 1 []) (chg 0 1 [120,121,122])=(chg 4 1 [],true):=by kernel_rfl
 have o2:ovS (chg 1 0 [97]) (chg 1 0 [98])=(noC,false):=by kernel_rfl
 have o3:ovS (chg 0 2 []) (chg 1 2 [])=(noC,false):=by kernel_rfl
 have o4:ovS (chg 1 0 [97]) (chg 1 1 [])=(chg 1 0 [97],true):=by kernel_rfl
 have o5:ovS (chg 1 1 []) (chg 1 0 [97])=(chg 2 1 [],true):=by kernel_rfl
 have v1:=λ n=>(KZ (a:=2) (c:=1) (s:=[]) (a':=0) (c':=1) (s':=[120,121,122]) (by decide) (by decide) n).trans (congrArg some o1)
 have v2:=λ n=>(KZ (a:=1) (c:=0) (s:=[97]) (a':=1) (c':=0) (s':=[98]) (by decide) (by decide) n).trans (congrArg some o2)
 have v3:=λ n=>(KZ (a:=0) (c:=2) (s:=[]) (a':=1) (c':=2) (s':=[]) (by decide) (by decide) n).trans (congrArg some o3)
 have v4:=λ n=>(KZ (a:=1) (c:=0) (s:=[97]) (a':=1) (c':=1) (s':=[]) (by decide) (by decide) n).trans (congrArg some o4)
 have v5:=λ n=>(KZ (a:=1) (c:=1) (s:=[]) (a':=1) (c':=0) (s':=[97]) (by decide) (by decide) n).trans (congrArg some o5)
 unfold Hq
 refine Tot.ev (Tot.bindA (y:=chg 1 1 [120,121]) (λ n=>rfl) (Tot.bindE h1 (Tot.bindA (y:=chg 0 3 []) (λ n=>rfl) (Tot.bindA (y:=chg 4 0 [97]) (λ n=>rfl) (Tot.bindA (y:=chg (-1) 0 [97]) (λ n=>rfl) (Tot.bindA (y:=chg 0 0 [32]) (λ n=>rfl) (Tot.bind (R:=λ y=>y=.inl ()) ?_ λ y hy=>?_)))))))
 ·refine Tot.upto 5 (λ i (x:Int)=>x=(i:Int)) (λ i x hi hx=>?_) (λ x hx=>?_) _ rfl
  ·subst hx
   obtain ⟨c,g1,g2,g3⟩:=Wd i hi
   have g4:=KW Jfy g2
   rw [g3] at g4
   unfold Ed
   exact Tot.iteT (decide_eq_true (show (i:Int)<((5:Nat):Int) by omega)) (Tot.bindC g1 (Tot.bindE g4 (Tot.iteF rfl (Tot.pure (Aq (by omega))))))
  ·subst hx
   unfold Ed
   exact Tot.iteF rfl (Tot.pure rfl)
 ·subst hy
  refine Tot.bindA (y:=chg 2 1 []) (λ n=>rfl) (Tot.bindA (y:=chg 0 1 [120,121,122]) (λ n=>rfl) (Tot.bindA v1 (Tot.bindA (y:=chg 1 0 [97]) (λ n=>rfl) (Tot.bindA (y:=chg 1 0 [98]) (λ n=>rfl) (Tot.bindA v2 (Tot.bindA (y:=chg 0 2 []) (λ n=>rfl) (Tot.bindA (y:=chg 1 2 []) (λ n=>rfl) (Tot.bindA v3 (Tot.bindA (y:=chg 1 0 [97]) (λ n=>rfl) (Tot.bindA (y:=chg 1 1 []) (λ n=>rfl) (Tot.bindA v4 (Tot.bindA (y:=chg 1 1 []) (λ n=>rfl) (Tot.bindA (y:=chg 1 0 [97]) (λ n=>rfl) (Tot.bindA v5 ?_))))))))))))))
  refine Tot.bindA (y:=chg 2 1 [122]) (λ n=>rfl) (Tot.bindA (y:=chg 0 1 [120,121]) (λ n=>rfl) (Tot.bindA (y:=chg 1 0 [112]) (λ n=>rfl) (Tot.bindA (y:=chg 1 0 [113]) (λ n=>rfl) (Tot.bindE hj (Tot.bindA (y:=chg 1 0 [97]) (λ n=>rfl) (Tot.bindA (y:=chg 0 0 [98]) (λ n=>rfl) (Tot.bindA (y:=chg 2 0 [99]) (λ n=>rfl) (Tot.bindE hc ?_))))))))
  have hs:Ev (λ n=>DZ n [{ Kind:=1,Level:=0,Text:=[97,120,121,99],Rows:=[],F:=[],Pic:={ W:=0,H:=0,Gap:=0,F:=[] },Page:=0 }] [{ Kind:=1,Level:=0,Text:=[97,120,121,99],Rows:=[],F:=[],Pic:={ W:=0,H:=0,Gap:=0,F:=[] },Page:=0 }]) true:=RJ (by decide) λ x hx=>by
   rw [List.mem_singleton] at hx
   subst hx
   exact ⟨by decide,by simp,by decide,by decide,by simp⟩
  refine Tot.gE rfl hs (Tot.gE rfl (x:=chg 4 1 []) (Ev.all λ n=>rfl) (Tot.gE rfl (x:=chg 1 0 [97]) (Ev.all λ n=>rfl) (Tot.gE rfl (x:=chg 2 1 []) (Ev.all λ n=>rfl) (Tot.gE rfl (x:=chg 0 1 [120,121]) (Ev.all λ n=>rfl) (Tot.gE rfl (x:=chg 3 1 [122]) (Ev.all λ n=>rfl) ?_)))))
  exact Tot.gE rfl (VR (v:={ Agreed:=[chg 0 1 [120,121],chg 3 1 [122]],Quarrels:=[⟨3,4⟩] }) (by decide) (by decide)) (Tot.pure rfl)
theorem Je4 {b:List Ad} {i:Int} {s:List UInt8} (hi:0<=i/\i<(b.length:Int)) {c:Ab} (hw:wdB b c.Block=true):apB (Ha b i s) c=(Jm (if i=c.Block then s else (B1 b c.Block).Text) c&&clS (FJ (if i=c.Block then s else (B1 b c.Block).Text) c)):=by
 unfold apB
 rw [Jcd hi,hw,Bool.true_and,KX hi (DG.1 hw).1.1]
 by_cases h:i=c.Block
 ·rw [if_pos h,if_pos h];rfl
 ·rw [if_neg h,if_neg h]
theorem Je5 {b:List Ad} (hb:VB b) {c:Ab} (hc:apB b c=true):apS (apS b c).1 (KY (B1 b c.Block).Text c)=(b,0):=by
 obtain ⟨c1,c2,c3⟩:=P3.1 hc
 have hi:=(DG.1 c1).1
 rw [Hb hc]
 simp only
 have eb:(KY (B1 b c.Block).Text c).Block=c.Block:=rfl
 have a1:apB (Ha b c.Block (FJ (B1 b c.Block).Text c)) (KY (B1 b c.Block).Text c)=true:=by
  rw [Je4 hi (by rw [eb];exact c1),eb,if_pos rfl,Jcf c2,V5 c2,hb.clean c1];rfl
 rw [Hb a1,eb,KX hi hi.1,if_pos rfl]
 show (Ha (Ha b c.Block _) c.Block (FJ (FJ (B1 b c.Block).Text c) _),(0:Int))=_
 rw [V5 c2,Jcg hi]
theorem Jjn {b:List Ad} (hb:VB b) (l:List Ab) (i:Nat):(alS b l i).1=[]\/VB (alS b l i).1:=by
 induction l generalizing b i with
 | nil=>exact .inr hb
 | cons c l ih=>
  rw [RY]
  cases hc:apB b c with
  | true=>rw [if_pos rfl];exact ih (hb.ap hc) _
  | false=>rw [if_neg (by simp)];exact .inl rfl
theorem JlD {l:List A7} {x:List AY} (hl:∀ z∈l,RwB z) (hx:∀ z∈x,RwC z):Tot (λ n=>HX n l x) (λ z=>z=true):=by
 refine Tot.bindE ZJ (Tot.bind (JeV hl) λ b hb=>Tot.bind (R:=λ cs=>cs.length<=5/\∀ c∈cs,MdC b c) ?_ λ cs hcs=>?_)
 ·refine Tot.upto (min x.length 5) (λ i (y:List Ab×Int)=>y.2=(i:Int)/\y.1.length=i/\∀ c∈y.1,MdC b c) ?_ ?_ _ ⟨rfl,rfl,by simp⟩
  ·rintro i ⟨cs,y⟩ hi ⟨h1,h2,h3⟩
   simp only at h1 h2 h3
   subst h1
   unfold Dl
   have hlt:i<x.length:=by omega
   refine Tot.iteT (by rw [JlZ,decide_eq_true_eq,decide_eq_true_eq];show (i:Int)<_/\(i:Int)<5;omega) (Tot.bindC (AF hlt) (Tot.bind (JbM hb.bkt (hx _ (JlN hlt)) (by decide) (by decide)) λ c hc=>Tot.bindC (Bf (by simp;omega)) (Tot.pure ⟨Aq (by omega),by simp;exact h2,λ q hq=>?_⟩)))
   rw [List.mem_append,List.mem_singleton] at hq
   rcases hq with hq|rfl
   ·exact h3 q hq
   ·exact hc
  ·rintro ⟨cs,y⟩ ⟨h1,h2,h3⟩
   simp only at h1 h2 h3
   subst h1
   unfold Dl
   exact Tot.iteF (by rw [Bool.and_eq_false_iff,decide_eq_false_iff_not,decide_eq_false_iff_not];show ¬(((min x.length 5:Nat):Int)<_)\/¬(((min x.length 5:Nat):Int)<5);omega) (Tot.pure ⟨by show cs.length<=5;omega,h3⟩)
 ·obtain ⟨hcl,hcm⟩:=hcs
  have hok:∀ c∈cs,Okc 1000000 c:=λ c hc=>(hcm c hc).ok (by decide)
  refine Tot.bindE (Jje hb.bkt (by omega) hok) (Tot.bindE (JeT hb.bkt (by omega) hok) ?_)
  have hsame:Ev (λ n=>DZ n (alS b cs 0).1 (alS b cs 0).1) true:=by
   rcases Jjn hb cs 0 with h|h
   ·rw [h];exact RJ (by simp) (by simp)
   ·exact h.same
  refine Tot.bindE hsame (Tot.iteF (by simp) (Tot.bind (R:=λ y=>y=.inl ()) ?_ λ y hy=>by subst hy;exact Tot.pure rfl))
  refine Tot.upto cs.length (λ i (x:Int)=>x=(i:Int)) (λ i x hi hx=>?_) (λ x hx=>?_) _ rfl
  ·subst hx
   unfold Dm
   have hc:=hcm _ (JlN hi)
   have gi:=AF hi
   generalize cs[i]=c at hc gi
   have hcO:=hc.ok (A:=1000000000000) (by decide)
   refine Tot.iteT (EJ hi) (Tot.bindC gi (Tot.bindE (KW hb.bkt hcO) ?_))
   cases hap:apB b c with
   | false=>
    rw [Uj hap]
    exact Tot.iteT rfl (Tot.pure (Aq (by omega)))
   | true=>
    have he:(apS b c).2=0:=by rw [Hb hap]
    have hv:=hb.ap hap
    obtain ⟨c1,c2,c3⟩:=P3.1 hap
    have hi':=(DG.1 c1).1
    have ht:=hb.bkt.blk c.Block
    refine Tot.iteF (by rw [he];rfl) (Tot.bindE (Xp hv) (Tot.iteF rfl (Tot.bindC gi (Tot.bindC (Jk hi'.1 hi'.2) (Tot.bindC gi (Tot.bindC gi (Tot.bindC gi (Tot.bindC gi (Tot.bindC gi (Tot.bindC gi ?_))))))))))
    have f:=P4.1 c2
    rw [EG (by omega) (by omega)]
    refine Tot.bindC (HJ (by omega) (by omega) (by omega)) (Tot.bindE (KW hv.bkt (c:=KY (B1 b c.Block).Text c) ?_) ?_)
    ·have:=hc.put
     unfold Okc KY ZE
     simp only [List.length_drop,List.length_take]
     omega
    ·rw [Je5 hb hap]
     exact Tot.gE rfl hb.same (Tot.iteF rfl (Tot.pure (Aq (by omega))))
  ·subst hx
   unfold Dm
   exact Tot.iteF (C3 _) (Tot.pure rfl)
end Go.AI
end
section
namespace Go.AI
theorem H1 {n:Int} (h:okI .u8 n):U8 n:=by
 unfold okI Lit.wf at h
 have:IntKind.u8.min=0/\IntKind.u8.max=255:=by decide
 unfold U8
 simp only [JlZ,decide_eq_true_eq] at h
 omega
theorem Jjo {x:AY} (h:C2 x):RwC x:=⟨H1 h.1,H1 h.2.1,H1 h.2.2.1,h.2.2.2.1,λ y hy=>H1 (h.2.2.2.2 y hy)⟩
theorem Jjp {x:A7} (h:HI x):RwB x:=⟨H1 h.1,H1 h.2.1,h.2.2.1.1,λ y hy=>H1 (h.2.2.1.2 y hy),H1 h.2.2.2.1.2.1,H1 h.2.2.2.2.1,H1 h.2.2.2.2.2.1⟩
theorem Tot.out {f:Nat->Option Bool} (h:Tot f (λ y=>y=true)):∃ n,f n=some true:=by
 obtain ⟨z,rfl,N,h⟩:=h
 exact ⟨N,h N (JlP _)⟩
theorem JkN:∀ (l:List A7) (x:List AY),(l.length<=9223372036854775807/\∀ a∈l,HI a)->(x.length<=9223372036854775807/\∀ a∈x,C2 a)->∃ n,HX n l x=some true:=λ _ _ hl hx=>(JlD (λ y hy=>Jjp (hl.2 y hy)) λ y hy=>Jjo (hx.2 y hy)).out
end Go.AI
end
section
namespace Go.Proofs.YtbegmnhifelfoaaGreat
open Go.AI Go.ChangeShapes Go.WideShapes Go.ChangeAt Go.RowKit
theorem own:ownKnob Tryz.prog.godebug=none:=by kernel_rfl
set_option maxRecDepth 100000 in
theorem Jjq (os:Os) (started:os.Started) (H:Type) (enc:TypeId×Value->H) :
  ReturnsInHanded {} Tryz.checked os 7 .any (Rows.carryAllSpec.pre6 enc Tryz.prog Tryz.f7 Rows.carryAllRow.domain false) (Rows.carryAllSpec.post enc Tryz.prog Tryz.f7 false true false false):=by
 refine returnsInHanded_of_change (C:=Tryz.checked) own started (by kernel_rfl) Tryz.func7
  (ChangeSpec.witness6 (enc:=enc) (C:=Tryz.checked) false ⟨#[],#[.slice none 0 0,.slice none 0 0],[]⟩ 8 (by kernel_rfl) (by kernel_rfl) (by kernel_rfl) (by kernel_rfl)) ?_
 intro W base args ds gs before hval0 hW hcnd _
 have hval:∀ (j:Nat) t v,Tryz.f7.params[j]? = some t->args[j]? = some v->Value.okWide Tryz.prog W .any base t v:=hval0
 have hW':=hW
 obtain ⟨p,q,hA0,hV,rfl,hfz,hnd⟩:=hW
 have hA:DataW.TrodAll enc Tryz.prog W 0 (λ _=>true) true Tryz.f7.params.toList args.toList ds p:=hA0
 have hlt:=hA.lt
 rw [Tryz.params7] at hA hval
 obtain ⟨v0,vs0,d0,ds0,p0,q0,hargs,rfl,rfl,h0,r0⟩:=trodAll_cons hA
 obtain ⟨v1,vs1,d1,ds1,p1,q1,rfl,rfl,rfl,h1,r1⟩:=trodAll_cons r0
 obtain ⟨rfl,rfl,rfl⟩:=trodAll_nil r1
 obtain rfl:args=#[v0,v1]:=by cases args;simp_all
 obtain ⟨rfl,rfl⟩:=trodVars_none hV
 obtain ⟨x0,y0,z0,hc0⟩:=okWide_slice Tryz.underlying22 (hval 0 22 v0 rfl rfl)
 obtain ⟨a0,k0,rep0⟩:=XX (y:=λ a=>.sl (a.map BM)) (by rw [hc0];rfl) h0 Jlx (λ _=>rfl)
 obtain ⟨x1,y1,z1,hc1⟩:=okWide_slice Tryz.underlying45 (hval 1 45 v1 rfl rfl)
 obtain ⟨a1,k1,rep1⟩:=XX (y:=λ a=>.sl (a.map Bv)) (by rw [hc1];rfl) h1 Jlz (λ _=>rfl)
 clear hA0 hval0
 simp only [List.append_nil] at hW' hlt
 obtain ⟨n,hn⟩:=JkN a0 a1 k0 k1
 refine (JbB (OH hn) (XY rep0 (XY rep1 Ji0))).mono λ e W' ⟨he,hg,hold⟩=>?_
 subst he
 exact ⟨_,rfl,Zf (pv:=[]) hW' (λ _ _ _=>(trodAll_cons_mk (shut_bool Tryz.underlying4 _) trodAll_mk0)) (λ sp hsp=>trodAll_cons_mk (Jfu (by kernel_rfl) (by kernel_rfl) (of_decide_eq_true (by kernel_rfl)) h0 (λ p hp=>hlt p (by simp [hp])) (λ p hp=>hsp p (by simp [hp])) hold) (trodAll_cons_mk (Jfu (by kernel_rfl) (by kernel_rfl) (of_decide_eq_true (by kernel_rfl)) h1 (λ p hp=>hlt p (by simp [hp])) (λ p hp=>hsp p (by simp [hp])) hold) trodAll_mk0)) (λ _ _=>rfl) (by simp) (hg _) hold (ok_one (by kernel_rfl) rfl (okWide_bool_mk Tryz.underlying4 _))⟩
theorem JlE:Rows.carryAllRow.holds Tryz.pinned (OpenSpec.ofChange Rows.carryAllSpec):=
 OpenClaim.holds_of_wide 7 Tryz.f7 rfl rfl rfl rfl rfl rfl rfl ⟨rfl,rfl,rfl,rfl,rfl⟩ rfl rfl rfl rfl rfl (by kernel_rfl) Tryz.func7 (by kernel_rfl)
  (of_decide_eq_true (by kernel_rfl)) (by unfold Func.isWrapper;first|(rw [if_pos (by decide +kernel)];kernel_rfl)|(rw [if_neg (by decide +kernel)];exact ⟨rfl,rfl⟩))
  (λ os started H enc _=>Jjq os started H enc)
theorem carryAll_holds:Rows.CarryAllSaid:=JlE
end Go.Proofs.YtbegmnhifelfoaaGreat
end
