/- The theorem: the last one of this text; part 5 of 5 of its proof. It holds with no condition beyond the given statement. -/
import Derived.Test.YtfoknlpndaekdaaLD
import Derived.Test.YtfoknlpndaekdaaRows
section
namespace Go.AI
instance (p:Aa):Decidable (Bx p):=by unfold Bx;infer_instance
def D6 (f:Ah):Bool:=
 if (f.Kind==1)=true then decide (f.P.length=1)&&(f.Texture==0)
 else if (f.Kind==2)=true then decide (f.P.length>=2)&&(f.Texture==0)
 else if (f.Kind==3)=true then (decide (f.P.length>=3)&&decide (f.Texture>=0))&&decide (f.Texture<=3)
 else false
def FG (f:Ah):Bool:=if (∀ p∈f.P,Bx p)/\f.P.length<=12 then D6 f else false
theorem Uq {f:Ah} (h:(∀ p∈f.P,Bx p)/\f.P.length<=12):FG f=D6 f:=if_pos h
theorem XE {f:Ah} (h:¬((∀ p∈f.P,Bx p)/\f.P.length<=12)):FG f=false:=if_neg h
theorem H6 {f:Ah} (h:f.P.length=0):D6 f=false:=by
 unfold D6
 rw [h]
 split
 ·rfl
 ·split
  ·rfl
  ·split<;>rfl
theorem QM {f:Ah}:Tot (λ _=>if (f.Kind==1)=true then
    some ((((f.P.length:Nat):Int)==1)&&(f.Texture==0))
   else
    if (f.Kind==2)=true then
     some ((decide (((f.P.length:Nat):Int)>=2))&&(f.Texture==0))
    else
     if (f.Kind==3)=true then
      some (((decide (((f.P.length:Nat):Int)>=3))&&(decide (f.Texture>=0)))&&(decide (f.Texture<=3)))
     else
      some false) (λ y=>y=D6 f):=by
 have e1:(((f.P.length:Nat):Int)==1)=decide (f.P.length=1):=by rw [Bool.eq_iff_iff];simp;omega
 have e2:decide (((f.P.length:Nat):Int)>=2)=decide (f.P.length>=2):=decide_eq_decide.2 (by omega)
 have e3:decide (((f.P.length:Nat):Int)>=3)=decide (f.P.length>=3):=decide_eq_decide.2 (by omega)
 rw [e1,e2,e3]
 unfold D6
 cases (f.Kind==1) with
 | true=>exact Tot.pure rfl
 | false=>
  cases (f.Kind==2) with
  | true=>exact Tot.pure rfl
  | false=>
   cases (f.Kind==3) with
   | true=>exact Tot.pure rfl
   | false=>exact Tot.pure rfl
theorem Hu (f:Ah):Ev (λ n=>BO n f) (FG f):=by
 refine Tot.ev (Tot.ite (λ h=>Tot.pure ?_) λ h=>?_)
 ·rw [YS,decide_eq_true_eq,decide_eq_true_eq] at h
  unfold FG
  split
  ·rw [H6 (by omega)]
  ·rfl
 ·rw [Bool.or_eq_false_iff,decide_eq_false_iff_not,decide_eq_false_iff_not] at h
  refine Tot.bind (R:=λ y=>y=if (∀ p∈f.P,Bx p) then .inl () else .inr false) ?_ λ y hy=>?_
  ·refine Tot.upto f.P.length (λ i (x:Int)=>x=(i:Int)/\∀ p∈f.P.take i,Bx p) ?_ ?_ _ ⟨rfl,by simp⟩
   ·rintro i _ hi ⟨rfl,hj⟩
    unfold DK
    refine Tot.iteT (decide_eq_true (by omega)) (Tot.bindC (Gb hi) (Tot.ite (λ hb=>Tot.pure ?_) λ hb=>Tot.pure ⟨Bm (by omega),?_⟩))
    ·show _=_
     rw [if_neg]
     intro hh
     have:=hh _ (Yt hi)
     simp only [YS,decide_eq_true_eq] at hb
     unfold Bx at this
     omega
    ·rw [List.take_succ_eq_append_getElem hi]
     intro p hp
     rw [List.mem_append,List.mem_singleton] at hp
     rcases hp with hp|rfl
     ·exact hj p hp
     ·simp only [Bool.or_eq_false_iff,decide_eq_false_iff_not] at hb
      unfold Bx;omega
   ·rintro _ ⟨rfl,hj⟩
    unfold DK
    refine Tot.iteF (decide_eq_false (by omega)) (Tot.pure ?_)
    show _=_
    rw [List.take_length] at hj
    rw [if_pos hj]
  ·subst hy
   by_cases hh:∀ p∈f.P,Bx p
   ·rw [if_pos hh,Uq ⟨hh,by omega⟩]
    exact QM
   ·rw [if_neg hh,XE (λ h=>hh h.1)]
    exact Tot.pure rfl
def DD (k:Int) (p:Aa):Bool:=((k==3)||((k==2)&&(p.Y % 2==0)))||((k==1)&&((p.X+p.Y) % 2==0))
theorem S0 (n:Nat) (k:Int) {p:Aa} (h:Bx p):DQ n k p=some (DD k p):=by
 unfold Bx at h
 unfold DQ DD
 rw [Hr (by omega) (by omega),(BQ (a:=p.Y) (by omega) (by omega)).1,(BQ (a:=p.X+p.Y) (by omega) (by omega)).1]
theorem WB (n:Nat) {k:Int} (h:0<=k) (h':k<=3):Ei n k=some (46+k.toNat):=by
 unfold Ei
 rcases (by omega:k=0\/k=1\/k=2\/k=3) with rfl|rfl|rfl|rfl<;>rfl
theorem Ua (n:Nat) {k:Int} (h:0<=k) (h':k<=3) {p:Aa} (hp:Bx p):Hf n (46+k.toNat) p=some (DD k p):=by
 unfold Bx at hp
 have e1:Cl n p=some ((p.X+p.Y) % 2==0):=by
  unfold Cl
  rw [Hr (by omega) (by omega),(BQ (a:=p.X+p.Y) (by omega) (by omega)).1]
 have e2:Cm n p=some (p.Y % 2==0):=by
  unfold Cm
  rw [(BQ (a:=p.Y) (by omega) (by omega)).1]
 rcases (by omega:k=0\/k=1\/k=2\/k=3) with rfl|rfl|rfl|rfl
 ·rfl
 ·show Cl n p=_
  rw [e1];rfl
 ·show Cm n p=_
  rw [e2];unfold DD;simp
 ·rfl
def arS (P:List Aa) (k:Int) (p:Aa):Prop:=lnS P P.length p\/(DD k p=true/\D5 P p=true)
theorem WC {P:List Aa} {i:Nat} {p m n:Aa} (hi:i<=P.length) (h:∀ p∈P,In m n p) (hp:lnS P i p):In m n p:=by
 obtain ⟨j,hj,hp⟩:=hp
 exact T5 hp (h _ (Nz P (by omega))) (h _ (Nz P (Nat.mod_lt _ (by omega))))
theorem PB {p:Aa}:Bx p↔In ⟨0,0⟩ ⟨59,59⟩ p:=by unfold Bx In;simp only;omega
theorem OU {P:List Aa} {i:Nat} {p:Aa} (hi:i<=P.length) (h:∀ p∈P,Bx p) (hp:lnS P i p):Bx p:=PB.2 (WC hi (λ p hp=>PB.1 (h p hp)) hp)
theorem S4 {P:List Aa} {p:Aa} (h:∀ p∈P,Bx p) (hp:D5 P p=true):Bx p:=PB.2 (OR (λ p hp=>PB.1 (h p hp)) hp)
theorem WD {P:List Aa} {k:Int} {p:Aa} (h:∀ p∈P,Bx p) (hp:arS P k p):Bx p:=by
 rcases hp with hp|hp
 ·exact OU (Yv _) h hp
 ·exact S4 h hp.2
theorem WE {f:Ah} {d:List (Aa×Bool)} (h:∀ p∈f.P,Bx p) (hl:f.P.length<=12) (h0:0<f.P.length) :
  Tot (λ n=>whl (λ (x:(Aa×Aa×Int))=>Cn n f d x.1 x.2.1 x.2.2) n (f.P.getD 0 default,f.P.getD 0 default,0)) (λ y=>(Bx y.1/\Bx y.2)/\∀ p∈f.P,In y.1 y.2 p):=by
 have hb:=h _ (Nz f.P h0)
 refine Tot.upto f.P.length (λ i (x:Aa×Aa×Int)=>x.2.2=(i:Int)/\(Bx x.1/\Bx x.2.1)/\∀ p∈f.P.take i,In x.1 x.2.1 p) ?_ ?_ _ ⟨rfl,⟨hb,hb⟩,by simp⟩
 ·rintro i ⟨lo,hi,x⟩ hi' ⟨h1,h2,h3⟩
  simp only at h1 h2 h3
  subst h1
  unfold Cn
  refine Tot.iteT (decide_eq_true (by show (i:Int)<(f.P.length:Int);omega)) (Tot.bindC (Gb hi') (Tot.pure ⟨Bm (by omega),?_,?_⟩))
  ·have:=h _ (Yt hi')
   unfold Bx at h2 this ⊢
   simp only
   omega
  ·rw [List.take_succ_eq_append_getElem hi']
   intro p hp
   rw [List.mem_append,List.mem_singleton] at hp
   rcases hp with hp|rfl
   ·have:=h3 p hp
    unfold In at this ⊢
    simp only
    omega
   ·unfold In;simp only;omega
 ·rintro ⟨lo,hi,x⟩ ⟨h1,h2,h3⟩
  simp only at h1 h2 h3
  subst h1
  unfold Cn
  refine Tot.iteF (decide_eq_false (by show ¬((f.P.length:Int)<(f.P.length:Int));omega)) (Tot.pure ⟨h2,?_⟩)
  rw [List.take_length] at h3
  exact h3
theorem PC {f:Ah} (hv:FG f=true) (hk:f.Kind=1):Ev (λ n=>A5 n f) [f.P.getD 0 default]:=by
 refine Tot.ev (Tot.bindE (Hu f) (Tot.iteF (by rw [hv];rfl) (Tot.iteT (by rw [hk];rfl) (Tot.bindC (y:=f.P.getD 0 default) ?_ (Tot.pure rfl)))))
 refine Cy (i:=0) ?_
 unfold FG at hv
 split at hv
 ·exact Nat.pos_of_ne_zero λ h=>by rw [H6 h] at hv;cases hv
 ·cases hv
theorem GP {f:Ah} (hv:FG f=true):(∀ p∈f.P,Bx p)/\f.P.length<=12/\D6 f=true:=by
 unfold FG at hv
 split at hv
 ·rename_i h;exact ⟨h.1,h.2,hv⟩
 ·cases hv
theorem PD {f:Ah} (hv:FG f=true) (hk:f.Kind=2) :
  Tot (λ n=>A5 n f) (λ r=>Inc r/\r.length<=lnN f.P (f.P.length-1)/\∀ p,p∈r↔lnS f.P (f.P.length-1) p):=by
 obtain ⟨hb,hl,_⟩:=GP hv
 refine Tot.bindE (Hu f) (Tot.iteF (by rw [hv];rfl) (Tot.iteF (by rw [hk];rfl) (Tot.iteT (by rw [hk];rfl) (Tot.bind (NF (by omega) (λ p hp=>(hb p hp).nr)) λ m hm=>?_))))
 have h1:=EA (λ p hp=>(hb p hp).nr) (i:=f.P.length-1) (by omega)
 have h2:=hm.len
 refine Tot.bindE (H5 (by omega)) (Tot.pure ⟨Ma hm.nd,by rw [I2];exact h2,λ p=>by rw [Mb,hm.mem]⟩)
theorem Kk {P:List Aa} (hl:P.length<=12) (hb:∀ p∈P,Nr p):Tot (λ n=>Dr n P) (λ r=>Inc r/\r.length<=lnN P P.length/\∀ p,p∈r↔lnS P P.length p):=by
 refine Tot.bind (Lh (by omega) hb) λ m hm=>?_
 have h1:=EA hb (i:=P.length) (by omega)
 have h2:=hm.len
 exact Tot.bindE (H5 (by omega)) (Tot.pure ⟨Ma hm.nd,by rw [I2];exact h2,λ p=>by rw [Mb,hm.mem]⟩)
theorem Mc {f:Ah} (hv:FG f=true) (hk:f.Kind=3) :
  Tot (λ n=>A5 n f) (λ r=>Inc r/\r.length<=100000/\∀ p,p∈r↔arS f.P f.Texture p):=by
 obtain ⟨hb,hl,hK⟩:=GP hv
 have hK:3<=f.P.length/\0<=f.Texture/\f.Texture<=3:=by
  unfold D6 at hK
  rw [hk] at hK
  simp only [show ((3:Int)==1)=false from rfl,show ((3:Int)==2)=false from rfl,show ((3:Int)==3)=true from rfl,YN,if_false,if_true,YE,decide_eq_true_eq] at hK
  omega
 obtain ⟨hK,t1,t2⟩:=hK
 refine Tot.bindE (Hu f) (Tot.iteF (by rw [hv];rfl) (Tot.iteF (by rw [hk];rfl) (Tot.iteF (by rw [hk];rfl) (Tot.bind (Lh (by omega) (λ p hp=>(hb p hp).nr)) λ m hm=>?_))))
 refine Tot.bindC (Cy (i:=0) (by omega)) (Tot.bindC (Cy (i:=0) (by omega)) (Tot.bind (WE hb hl (by omega)) ?_))
 rintro ⟨lo,hi⟩ ⟨⟨b1,b2⟩,hin⟩
 simp only at b1 b2 hin
 refine Tot.bindA (λ n=>WB n t1 t2) ?_
 have h1:=EA (λ p hp=>(hb p hp).nr) (i:=f.P.length) (by omega)
 generalize lnN f.P f.P.length=N at hm h1
 have hD:∀ p,In lo hi p->∀ (n:Nat),Hf n (46+f.Texture.toNat) p=some (DD f.Texture p):=λ p hp n=>Ua n t1 t2 (by unfold In at hp;unfold Bx at *;omega)
 refine Tot.bind (R:=λ z=>KS z (N+60*60) (λ p=>arS f.P f.Texture p)) ?_ λ z hz=>?_
 ·refine (Tot.upto (hi.Y-lo.Y+1).toNat (λ i (x:List (Aa×Bool)×Int)=>x.2=lo.Y+(i:Int)/\KS x.1 (N+60*i) (λ p=>lnS f.P f.P.length p\/((In lo hi p/\p.Y<lo.Y+(i:Int))/\DD f.Texture p=true/\D5 f.P p=true))) (P:=λ z=>KS z (N+60*60) (λ p=>arS f.P f.Texture p)) ?_ ?_ _ ⟨by show lo.Y=_;omega,hm.to (by omega) λ p=>⟨λ h=>?_,.inl⟩⟩)
  ·rintro i ⟨d,x⟩ hi' ⟨h1,h2⟩
   simp only at h1 h2
   subst h1
   unfold Df
   refine Tot.iteT (decide_eq_true (by show lo.Y+(i:Int)<=hi.Y;omega)) (Tot.bind (R:=λ z=>KS z (N+60*(i+1)) (λ p=>lnS f.P f.P.length p\/((In lo hi p/\p.Y<lo.Y+((i+1:Nat):Int))/\DD f.Texture p=true/\D5 f.P p=true))) ?_ λ z hz=>Tot.pure ⟨?_,hz⟩)
   ·refine Tot.upto (hi.X-lo.X+1).toNat (λ j (x:List (Aa×Bool)×Int)=>x.2=lo.X+(j:Int)/\KS x.1 (N+60*i+j) (λ p=>lnS f.P f.P.length p\/((In lo hi p/\ltG p ⟨lo.X+(j:Int),lo.Y+(i:Int)⟩)/\DD f.Texture p=true/\D5 f.P p=true))) ?_ ?_ _ ⟨by show lo.X=_;omega,h2.to (by omega) λ p=>?_⟩
    ·rintro j ⟨d,x⟩ hj ⟨h1,h2⟩
     simp only at h1 h2
     subst h1
     unfold De Dd
     have hq:In lo hi ⟨lo.X+(j:Int),lo.Y+(i:Int)⟩:=by unfold In;simp only;omega
     have hqb:Bx ⟨lo.X+(j:Int),lo.Y+(i:Int)⟩:=by unfold Bx at b1 b2;unfold In at hq;unfold Bx;simp only at *;omega
     have hst:∀ p:Aa,ltG p ⟨lo.X+((j+1:Nat):Int),lo.Y+(i:Int)⟩↔ltG p ⟨lo.X+(j:Int),lo.Y+(i:Int)⟩\/p=⟨lo.X+(j:Int),lo.Y+(i:Int)⟩:=λ p=>by
      cases p;unfold ltG;simp only [Aa.mk.injEq];omega
     have e64:A6 .i64 (lo.X+(j:Int)) 1=lo.X+((j+1:Nat):Int):=by unfold Bx at b1 b2;rw [Hr (by omega) (by omega)];omega
     refine Tot.iteT (decide_eq_true (by show lo.X+(j:Int)<=hi.X;omega)) (Tot.bindA (hD _ hq) ?_)
     refine Tot.bind (R:=λ b=>b=(DD f.Texture ⟨lo.X+(j:Int),lo.Y+(i:Int)⟩&&D5 f.P ⟨lo.X+(j:Int),lo.Y+(i:Int)⟩)) ?_ λ b hbb=>?_
     ·cases DD f.Texture ⟨lo.X+(j:Int),lo.Y+(i:Int)⟩ with
      | true=>exact Tot.iteT rfl ((H3 (by omega) (λ p hp=>(hb p hp).nr) hqb.nr).tot rfl)
      | false=>exact Tot.iteF rfl (Tot.pure rfl)
     ·subst hbb
      rw [show (DD f.Texture ⟨lo.X+(j:Int),lo.Y+(i:Int)⟩&&(DD f.Texture ⟨lo.X+(j:Int),lo.Y+(i:Int)⟩&&D5 f.P ⟨lo.X+(j:Int),lo.Y+(i:Int)⟩))=(DD f.Texture ⟨lo.X+(j:Int),lo.Y+(i:Int)⟩&&D5 f.P ⟨lo.X+(j:Int),lo.Y+(i:Int)⟩) from by cases DD f.Texture ⟨lo.X+(j:Int),lo.Y+(i:Int)⟩<;>rfl]
      refine Tot.ite (λ hc=>Tot.pure ⟨e64,h2.put _ λ p=>?_⟩) λ hc=>Tot.pure ⟨e64,h2.to (by omega) λ p=>?_⟩
      ·rw [YE] at hc
       rw [hst]
       constructor
       ·rintro (h|⟨⟨h,h'|h'⟩,h''⟩)
        ·exact .inl (.inl h)
        ·exact .inl (.inr ⟨⟨h,h'⟩,h''⟩)
        ·exact .inr h'
       ·rintro ((h|⟨⟨h,h'⟩,h''⟩)|rfl)
        ·exact .inl h
        ·exact .inr ⟨⟨h,.inl h'⟩,h''⟩
        ·exact .inr ⟨⟨hq,.inr rfl⟩,hc⟩
      ·rw [hst]
       constructor
       ·rintro (h|⟨⟨h,h'|rfl⟩,h''⟩)
        ·exact .inl h
        ·exact .inr ⟨⟨h,h'⟩,h''⟩
        ·rw [h''.1,h''.2] at hc;cases hc
       ·rintro (h|⟨⟨h,h'⟩,h''⟩)
        ·exact .inl h
        ·exact .inr ⟨⟨h,.inl h'⟩,h''⟩
    ·rintro ⟨d,x⟩ ⟨h1,h2⟩
     simp only at h1 h2
     subst h1
     unfold De
     refine Tot.iteF (decide_eq_false (by show ¬(lo.X+((hi.X-lo.X+1).toNat:Int)<=hi.X);omega)) (Tot.pure (h2.to (by unfold Bx at b1 b2;omega) λ p=>?_))
     have:In lo hi p->(ltG p ⟨lo.X+((hi.X-lo.X+1).toNat:Int),lo.Y+(i:Int)⟩↔p.Y<lo.Y+((i+1:Nat):Int)):=λ h=>by
      unfold In at h;unfold ltG;simp only;omega
     constructor
     ·rintro (h|⟨⟨h,h'⟩,h''⟩)
      ·exact .inl h
      ·exact .inr ⟨⟨h,(this h).2 h'⟩,h''⟩
     ·rintro (h|⟨⟨h,h'⟩,h''⟩)
      ·exact .inl h
      ·exact .inr ⟨⟨h,(this h).1 h'⟩,h''⟩
    ·have:In lo hi p->(ltG p ⟨lo.X+((0:Nat):Int),lo.Y+(i:Int)⟩↔p.Y<lo.Y+(i:Int)):=λ h=>by
      unfold In at h;unfold ltG;simp only;omega
     constructor
     ·rintro (h|⟨⟨h,h'⟩,h''⟩)
      ·exact .inl h
      ·exact .inr ⟨⟨h,(this h).1 h'⟩,h''⟩
     ·rintro (h|⟨⟨h,h'⟩,h''⟩)
      ·exact .inl h
      ·exact .inr ⟨⟨h,(this h).2 h'⟩,h''⟩
   ·show A6 .i64 (lo.Y+(i:Int)) 1=_
    unfold Bx at b1 b2
    rw [Hr (by omega) (by omega)];omega
  ·rintro ⟨d,x⟩ ⟨h1,h2⟩
   simp only at h1 h2
   subst h1
   unfold Df
   refine Tot.iteF (decide_eq_false (by show ¬(lo.Y+((hi.Y-lo.Y+1).toNat:Int)<=hi.Y);omega)) (Tot.pure (h2.to (by unfold Bx at b1 b2;omega) λ p=>?_))
   constructor
   ·rintro (h|⟨h',h''⟩)
    ·exact .inl h
    ·have h:=OR hin h''
     exact .inr ⟨⟨h,by unfold In at h;omega⟩,h',h''⟩
   ·rintro (h|⟨_,h''⟩)
    ·exact .inl h
    ·exact .inr h''
  ·rcases h with h|⟨⟨h,h'⟩,_⟩
   ·exact h
   ·unfold In at h;omega
 ·have:=hz.len
  exact Tot.bindE (H5 (by omega)) (Tot.pure ⟨Ma hz.nd,by rw [I2];omega,λ p=>by rw [Mb,hz.mem]⟩)
theorem QN {f:Ah} (hv:FG f=true) (hk:f.Kind=2) :
  Tot (λ n=>Dt n f) (λ r=>Inc r/\∀ p,p∈r↔lnS f.P (f.P.length-1) p):=by
 obtain ⟨hb,hl,hK⟩:=GP hv
 have h0:f.P.length≠0:=λ h=>by rw [H6 h] at hK;cases hK
 refine Tot.iteF (by rw [hk];rfl) (Tot.iteT (by rw [hk];rfl) ?_)
 rw [show A0 .i64 ((f.P.length:Nat):Int) 1=((f.P.length-1:Nat):Int) from (CY (by omega) (by omega)).trans (by omega)]
 refine Tot.bind (GO (by omega) (λ p hp=>(hb p hp).nr) (k:=f.P.length-1) (by omega)) λ l hl=>?_
 have h1:=EA (λ p hp=>(hb p hp).nr) (i:=f.P.length-1) (by omega)
 refine Tot.bind (Gf (by omega)) λ z hz=>Tot.pure ⟨hz.1,λ p=>?_⟩
 rw [hz.2,hl.2]
 exact ⟨λ h=>h.1,λ h=>⟨h,OU (by omega) hb h⟩⟩
theorem Md {P:List Aa} (hl:P.length<=12) (hb:∀ p∈P,Bx p):Tot (λ n=>Fq n P) (λ r=>Inc r/\∀ p,p∈r↔lnS P P.length p):=by
 refine Tot.bind (GO (by omega) (λ p hp=>(hb p hp).nr) (k:=P.length) (by omega)) λ l hl=>?_
 have h1:=EA (λ p hp=>(hb p hp).nr) (i:=P.length) (by omega)
 refine Tot.bind (Gf (by omega)) λ z hz=>Tot.pure ⟨hz.1,λ p=>?_⟩
 rw [hz.2,hl.2]
 exact ⟨λ h=>h.1,λ h=>⟨h,OU (by omega) hb h⟩⟩
theorem QO {f:Ah} (hv:FG f=true) (hk:f.Kind=3) :
  Tot (λ n=>Dt n f) (λ r=>Inc r/\∀ p,p∈r↔arS f.P f.Texture p):=by
 obtain ⟨hb,hl,hK⟩:=GP hv
 refine Tot.iteF (by rw [hk];rfl) (Tot.iteF (by rw [hk];rfl) (Tot.bind (GO (by omega) (λ p hp=>(hb p hp).nr) (k:=f.P.length) (by omega)) λ l hl=>?_))
 have h1:=EA (λ p hp=>(hb p hp).nr) (i:=f.P.length) (by omega)
 refine Tot.bind (R:=λ z=>z.length<=100000/\∀ p,p∈z↔lnS f.P f.P.length p\/(Bx p/\DD f.Texture p=true/\D5 f.P p=true)) ?_ λ z hz=>?_
 ·refine Tot.upto 60 (λ i (x:List Aa×Int)=>x.2=(i:Int)/\x.1.length<=30000+60*i/\∀ p,p∈x.1↔lnS f.P f.P.length p\/((Bx p/\p.Y<(i:Int))/\DD f.Texture p=true/\D5 f.P p=true)) ?_ ?_ _ ⟨rfl,by show l.length<=_;omega,λ p=>?_⟩
  ·rintro i ⟨d,x⟩ hi' ⟨h1,h2,h3⟩
   simp only at h1 h2 h3
   subst h1
   unfold CU
   refine Tot.iteT (decide_eq_true (by omega)) (Tot.bind (R:=λ z=>z.length<=30000+60*(i+1)/\∀ p,p∈z↔lnS f.P f.P.length p\/((Bx p/\p.Y<((i+1:Nat):Int))/\DD f.Texture p=true/\D5 f.P p=true)) ?_ λ z hz=>Tot.pure ⟨Bm (by omega),hz⟩)
   refine Tot.upto 60 (λ j (x:List Aa×Int)=>x.2=(j:Int)/\x.1.length<=30000+60*i+j/\∀ p,p∈x.1↔lnS f.P f.P.length p\/((Bx p/\ltG p ⟨(j:Int),(i:Int)⟩)/\DD f.Texture p=true/\D5 f.P p=true)) ?_ ?_ _ ⟨rfl,by show d.length<=_;omega,λ p=>?_⟩
   ·rintro j ⟨d,x⟩ hj ⟨h1,h2,h3⟩
    simp only at h1 h2 h3
    subst h1
    unfold CT CS
    have hqb:Bx ⟨(j:Int),(i:Int)⟩:=by unfold Bx;simp only;omega
    have hst:∀ p:Aa,ltG p ⟨((j+1:Nat):Int),(i:Int)⟩↔ltG p ⟨(j:Int),(i:Int)⟩\/p=⟨(j:Int),(i:Int)⟩:=λ p=>by
     cases p;unfold ltG;simp only [Aa.mk.injEq];omega
    refine Tot.iteT (decide_eq_true (by omega)) (Tot.bindA (λ n=>S0 n _ hqb) ?_)
    refine Tot.bind (R:=λ b=>b=(DD f.Texture ⟨(j:Int),(i:Int)⟩&&D5 f.P ⟨(j:Int),(i:Int)⟩)) ?_ λ b hbb=>?_
    ·cases DD f.Texture ⟨(j:Int),(i:Int)⟩ with
     | true=>exact Tot.iteT rfl ((IB (by omega) (λ p hp=>(hb p hp).nr) hqb.nr).tot rfl)
     | false=>exact Tot.iteF rfl (Tot.pure rfl)
    ·subst hbb
     rw [show (DD f.Texture ⟨(j:Int),(i:Int)⟩&&(DD f.Texture ⟨(j:Int),(i:Int)⟩&&D5 f.P ⟨(j:Int),(i:Int)⟩))=(DD f.Texture ⟨(j:Int),(i:Int)⟩&&D5 f.P ⟨(j:Int),(i:Int)⟩) from by cases DD f.Texture ⟨(j:Int),(i:Int)⟩<;>rfl]
     refine Tot.ite (λ hc=>Tot.bindC (Gc (by simp;omega)) (Tot.pure ⟨Bm (by omega),by simp;omega,λ p=>?_⟩)) λ hc=>Tot.pure ⟨Bm (by omega),by show d.length<=_;omega,λ p=>?_⟩
     ·rw [YE] at hc
      rw [List.mem_append,List.mem_singleton,h3,hst]
      constructor
      ·rintro ((h|⟨⟨h,h'⟩,h''⟩)|rfl)
       ·exact .inl h
       ·exact .inr ⟨⟨h,.inl h'⟩,h''⟩
       ·exact .inr ⟨⟨hqb,.inr rfl⟩,hc⟩
      ·rintro (h|⟨⟨h,h'|h'⟩,h''⟩)
       ·exact .inl (.inl h)
       ·exact .inl (.inr ⟨⟨h,h'⟩,h''⟩)
       ·exact .inr h'
     ·show p∈d↔_
      rw [h3,hst]
      constructor
      ·rintro (h|⟨⟨h,h'⟩,h''⟩)
       ·exact .inl h
       ·exact .inr ⟨⟨h,.inl h'⟩,h''⟩
      ·rintro (h|⟨⟨h,h'|rfl⟩,h''⟩)
       ·exact .inl h
       ·exact .inr ⟨⟨h,h'⟩,h''⟩
       ·rw [h''.1,h''.2] at hc;cases hc
   ·rintro ⟨d,x⟩ ⟨h1,h2,h3⟩
    simp only at h1 h2 h3
    subst h1
    unfold CT
    refine Tot.iteF (decide_eq_false (by omega)) (Tot.pure ⟨by omega,λ p=>?_⟩)
    have:Bx p->(ltG p ⟨((60:Nat):Int),(i:Int)⟩↔p.Y<((i+1:Nat):Int)):=λ h=>by
     unfold Bx at h;unfold ltG;simp only;omega
    rw [h3]
    constructor
    ·rintro (h|⟨⟨h,h'⟩,h''⟩)
     ·exact .inl h
     ·exact .inr ⟨⟨h,(this h).1 h'⟩,h''⟩
    ·rintro (h|⟨⟨h,h'⟩,h''⟩)
     ·exact .inl h
     ·exact .inr ⟨⟨h,(this h).2 h'⟩,h''⟩
   ·have:Bx p->(ltG p ⟨((0:Nat):Int),(i:Int)⟩↔p.Y<(i:Int)):=λ h=>by
     unfold Bx at h;unfold ltG;simp only;omega
    show p∈d↔_
    rw [h3]
    constructor
    ·rintro (h|⟨⟨h,h'⟩,h''⟩)
     ·exact .inl h
     ·exact .inr ⟨⟨h,(this h).2 h'⟩,h''⟩
    ·rintro (h|⟨⟨h,h'⟩,h''⟩)
     ·exact .inl h
     ·exact .inr ⟨⟨h,(this h).1 h'⟩,h''⟩
  ·rintro ⟨d,x⟩ ⟨h1,h2,h3⟩
   simp only at h1 h2 h3
   subst h1
   unfold CU
   refine Tot.iteF (decide_eq_false (by omega)) (Tot.pure ⟨by show d.length<=_;omega,λ p=>?_⟩)
   show p∈d↔_
   rw [h3]
   constructor
   ·rintro (h|⟨h,h''⟩)
    ·exact .inl h
    ·exact .inr ⟨h.1,h''⟩
   ·rintro (h|⟨h,h''⟩)
    ·exact .inl h
    ·exact .inr ⟨⟨h,by unfold Bx at h;omega⟩,h''⟩
  ·show p∈l↔_
   rw [hl.2]
   constructor
   ·exact .inl
   ·rintro (h|⟨⟨h,h'⟩,h''⟩)
    ·exact h
    ·unfold Bx at h;omega
 ·refine Tot.bind (Gf (by omega)) λ r hr=>Tot.pure ⟨hr.1,λ p=>?_⟩
  rw [hr.2,hz.2]
  constructor
  ·rintro ⟨h|h,_⟩
   ·exact .inl h
   ·exact .inr h.2
  ·intro h
   refine ⟨?_,WD hb h⟩
   rcases h with h|h
   ·exact .inl h
   ·exact .inr ⟨S4 hb h.2,h⟩
end Go.AI
end
section
namespace Go.AI
def U8 (n:Int):Prop:=0<=n/\n<256
structure S5 (r:HJ):Prop where
 k:U8 r.Kind
 t:U8 r.Texture
 l:∀ a∈r.L,U8 a.a0/\U8 a.a1
def Sm (p:Aa):Prop:=(0<=p.X/\p.X<24)/\0<=p.Y/\p.Y<24
theorem Sm.bx {p:Aa} (h:Sm p):Bx p:=by unfold Sm at h;unfold Bx;omega
structure S6 (f:Ah):Prop where
 kind:f.Kind=1\/f.Kind=2\/f.Kind=3
 sm:∀ p∈f.P,Sm p
 len:f.P.length<=6
 spot:f.Kind=1->f.P.length=1/\f.Texture=0
 path:f.Kind=2->2<=f.P.length/\f.Texture=0
 area:f.Kind=3->3<=f.P.length/\0<=f.Texture/\f.Texture<=3
theorem S6.bx {f:Ah} (h:S6 f):∀ p∈f.P,Bx p:=λ p hp=>(h.sm p hp).bx
theorem S7 {f:Ah} (h:f.Kind=1):D6 f=(decide (f.P.length=1)&&(f.Texture==0)):=by unfold D6;rw [h];rfl
theorem WF {f:Ah} (h:f.Kind=2):D6 f=(decide (f.P.length>=2)&&(f.Texture==0)):=by unfold D6;rw [h];rfl
theorem WG {f:Ah} (h:f.Kind=3):D6 f=((decide (f.P.length>=3)&&decide (f.Texture>=0))&&decide (f.Texture<=3)):=by unfold D6;rw [h];rfl
theorem S6.vld {f:Ah} (h:S6 f):FG f=true:=by
 rw [Uq ⟨h.bx,by have:=h.len;omega⟩]
 rcases h.kind with k|k|k
 ·rw [S7 k]
  obtain ⟨h1,h2⟩:=h.spot k
  rw [h1,h2];rfl
 ·rw [WF k]
  obtain ⟨h1,h2⟩:=h.path k
  rw [decide_eq_true h1,h2];rfl
 ·rw [WG k]
  obtain ⟨h1,h2,h3⟩:=h.area k
  rw [decide_eq_true h1,decide_eq_true h2,decide_eq_true h3];rfl
theorem Ur {a:Int} (h:U8 a):0<=IntKind.i64.wrap (BM a 24)/\IntKind.i64.wrap (BM a 24)<24:=by
 unfold U8 at h
 obtain ⟨h1,h2,h3⟩:=BQ (a:=a) (m:=24) (by omega) (by omega)
 rw [w64 (by omega) (by omega)]
 exact ⟨h2,h3⟩
theorem OW {L:List (KA Int)} (h:∀ a∈L,U8 a.a0/\U8 a.a1):Tot (λ n=>Fp n L 6) (λ z=>z.length<=6/\∀ p∈z,Sm p):=by
 refine Tot.bind (R:=λ z=>z.length<=6/\∀ p∈z,Sm p) ?_ λ y hy=>Tot.pure hy
 refine Tot.upto (min L.length 6) (λ i (x:List Aa×Int)=>x.2=(i:Int)/\x.1.length=i/\∀ p∈x.1,Sm p) ?_ ?_ _ ⟨rfl,rfl,by simp⟩
 ·rintro i ⟨l,x⟩ hi ⟨h1,h2,h3⟩
  simp only at h1 h2 h3
  subst h1
  unfold Cr
  have hlt:i<L.length:=by omega
  have hm:=h _ (Yt hlt)
  refine Tot.iteT (by rw [YE,decide_eq_true_eq,decide_eq_true_eq];omega) (Tot.bindC (Gb hlt) (Tot.bindC (Gb hlt) (Tot.bindC (Gc (by simp;omega)) (Tot.pure ⟨Bm (by omega),by simp;omega,λ p hp=>?_⟩))))
  rw [List.mem_append,List.mem_singleton] at hp
  rcases hp with hp|rfl
  ·exact h3 p hp
  ·exact ⟨Ur hm.1,Ur hm.2⟩
 ·rintro ⟨l,x⟩ ⟨h1,h2,h3⟩
  simp only at h1 h2 h3
  subst h1
  unfold Cr
  exact Tot.iteF (by rw [Bool.and_eq_false_iff,decide_eq_false_iff_not,decide_eq_false_iff_not];omega) (Tot.pure ⟨by show l.length<=6;omega,h3⟩)
theorem Ub {r:HJ} (h:S5 r):Tot (λ n=>HK n r) (λ f=>S6 f/\(r.Kind=1->f.Kind=2)/\(r.Kind=2->f.Kind=3)):=by
 refine Tot.bind (OW h.l) λ c hc=>?_
 refine Tot.bind (R:=λ l=>(3<=l.length/\l.length<=6)/\∀ p∈l,Sm p) ?_ λ l hl=>?_
 ·refine Tot.upto (3-c.length) (λ i (l:List Aa)=>l.length=c.length+i/\∀ p∈l,Sm p) ?_ ?_ _ ⟨by omega,hc.2⟩
  ·rintro i l hi ⟨h1,h2⟩
   unfold DO
   have hlen:l.length=0\/l.length=1\/l.length=2:=by omega
   refine Tot.iteT (decide_eq_true (by omega)) (Tot.bindC (Gc (by simp;omega)) (Tot.pure ⟨by simp;omega,λ p hp=>?_⟩))
   rw [List.mem_append,List.mem_singleton] at hp
   rcases hp with hp|rfl
   ·exact h2 p hp
   ·rcases hlen with e|e|e<;>rw [e]<;>exact ⟨⟨by decide,by decide⟩,by decide,by decide⟩
  ·rintro l ⟨h1,h2⟩
   unfold DO
   exact Tot.iteF (decide_eq_false (by omega)) (Tot.pure ⟨by omega,h2⟩)
 ·have hk:=h.k
  have ht:=h.t
  unfold U8 at hk ht
  obtain ⟨k1,k2,k3⟩:=BQ (a:=r.Kind) (m:=3) (by omega) (by omega)
  refine Tot.ite (λ hb=>?_) λ hb=>Tot.ite (λ hb'=>?_) λ hb'=>?_
  ·rw [beq_iff_eq,k1] at hb
   refine Tot.bindC (Pw (k:=1) (by omega)) (Tot.pure ⟨⟨.inl rfl,λ p hp=>hl.2 p (List.mem_of_mem_take hp),?_,λ _=>⟨?_,rfl⟩,λ h=>?_,λ h=>?_⟩,λ h=>by omega,λ h=>by omega⟩)
   ·simp only [List.length_take];omega
   ·simp only [List.length_take];omega
   ·cases h
   ·cases h
  ·rw [beq_iff_eq,k1] at hb'
   have e1:A0 .i64 ((l.length:Nat):Int) 1=((l.length-1:Nat):Int):=(CY (by omega) (by omega)).trans (by omega)
   obtain ⟨t1,t2,t3⟩:=BQ (a:=r.Texture) (m:=((l.length-1:Nat):Int)) (by omega) (by omega)
   have e2:A6 .i64 2 (BM (IntKind.i64.wrap r.Texture) ((l.length-1:Nat):Int))=(((2+BM r.Texture ((l.length-1:Nat):Int)).toNat:Nat):Int):=by
    rw [w64 (by omega) (by omega),Hr (by omega) (by omega)];omega
   rw [e1,e2]
   refine Tot.bindC (C8 (Wy (by omega))) (Tot.bindC (Pw (by omega)) (Tot.pure ⟨⟨.inr (.inl rfl),λ p hp=>hl.2 p (List.mem_of_mem_take hp),?_,λ h=>?_,λ _=>⟨?_,rfl⟩,λ h=>?_⟩,λ _=>rfl,λ h=>by omega⟩))
   ·simp only [List.length_take];omega
   ·cases h
   ·simp only [List.length_take];omega
   ·cases h
  ·rw [beq_eq_false_iff_ne,k1] at hb hb'
   obtain ⟨t1,t2,t3⟩:=BQ (a:=r.Texture) (m:=4) (by omega) (by omega)
   refine Tot.pure ⟨⟨.inr (.inr rfl),hl.2,hl.1.2,λ h=>?_,λ h=>?_,λ _=>⟨hl.1.1,?_⟩⟩,λ h=>by omega,λ _=>rfl⟩
   ·cases h
   ·cases h
   ·show 0<=IntKind.i64.wrap _/\IntKind.i64.wrap _<=3
    rw [w64 (by omega) (by omega)];omega
theorem NG {P:List Aa} {i:Nat} {p:Aa}:lnS P i p↔p∈(List.range i).flatMap λ j=>CB (sd P j).1 (sd P j).2:=by
 rw [List.mem_flatMap]
 constructor
 ·rintro ⟨j,hj,h⟩;exact ⟨j,List.mem_range.2 hj,h⟩
 ·rintro ⟨j,hj,h⟩;exact ⟨j,List.mem_range.1 hj,h⟩
theorem PE {l m:List Aa} (h1:∀ p∈l,p∈m) (h2:∀ p∈m,p∈l) {p:Aa}:p∈l↔p∈m:=⟨h1 p,h2 p⟩
instance (p q r:Aa):Decidable (In p q r):=by unfold In;infer_instance
def sqP:List Aa:=[⟨0,0⟩,⟨2,0⟩,⟨2,2⟩,⟨0,2⟩]
def sq8:List Aa:=[⟨0,0⟩,⟨1,0⟩,⟨2,0⟩,⟨0,1⟩,⟨2,1⟩,⟨0,2⟩,⟨1,2⟩,⟨2,2⟩]
def sq9:List Aa:=[⟨0,0⟩,⟨1,0⟩,⟨2,0⟩,⟨0,1⟩,⟨1,1⟩,⟨2,1⟩,⟨0,2⟩,⟨1,2⟩,⟨2,2⟩]
theorem NH {p:Aa}:lnS sqP 4 p↔p∈sq8:=by
 rw [NG]
 exact PE (by decide) (by decide)
theorem XF:∀ p∈sq8,p∈sq9:=by decide
theorem XG:∀ p∈sqP,In ⟨0,0⟩ ⟨2,2⟩ p:=by decide
theorem OX:Ev (λ n=>Dr n sqP) sq8:=
 Tot.ev ((Kk (P:=sqP) (by decide) (λ p hp=>Bx.nr (by revert p;decide))).mono λ r hr=>hr.1.uniq (by unfold Inc;decide) λ p=>by rw [hr.2.2];exact NH)
theorem S8:Ev (λ n=>A5 n ({ Kind:=3,Texture:=0,P:=sqP }:Ah)) sq8:=
 Tot.ev ((Mc (f:={ Kind:=3,Texture:=0,P:=sqP }) (by decide) rfl).mono λ r hr=>hr.1.uniq (by unfold Inc;decide) λ p=>by
  rw [hr.2.2]
  constructor
  ·rintro (h|⟨h,_⟩)
   ·exact NH.1 h
   ·cases h
  ·exact λ h=>.inl (NH.2 h))
theorem S9:Ev (λ n=>A5 n ({ Kind:=3,Texture:=3,P:=sqP }:Ah)) sq9:=
 Tot.ev ((Mc (f:={ Kind:=3,Texture:=3,P:=sqP }) (by decide) rfl).mono λ r hr=>hr.1.uniq (by unfold Inc;decide) λ p=>by
  rw [hr.2.2]
  constructor
  ·rintro (h|⟨_,h⟩)
   ·exact XF p (NH.1 h)
   ·have:=OR XG h
    obtain ⟨X,Y⟩:=p
    unfold In at this
    simp only at this
    rcases (by omega:X=0\/X=1\/X=2) with rfl|rfl|rfl<;>rcases (by omega:Y=0\/Y=1\/Y=2) with rfl|rfl|rfl<;>decide
  ·intro h
   rcases (by revert p;decide:p∈sq8\/D5 sqP p=true) with h|h
   ·exact .inl (NH.2 h)
   ·exact .inr ⟨rfl,h⟩)
theorem XH:Ev (λ n=>A5 n ({ Kind:=1,Texture:=0,P:=[⟨3,4⟩] }:Ah)) [⟨3,4⟩]:=PC (f:={ Kind:=1,Texture:=0,P:=[⟨3,4⟩] }) (by decide) rfl
theorem XI:Ev (λ n=>A5 n ({ Kind:=2,Texture:=0,P:=[⟨0,0⟩,⟨2,0⟩] }:Ah)) [⟨0,0⟩,⟨1,0⟩,⟨2,0⟩]:=
 Tot.ev ((PD (f:={ Kind:=2,Texture:=0,P:=[⟨0,0⟩,⟨2,0⟩] }) (by decide) rfl).mono λ r hr=>hr.1.uniq (by unfold Inc;decide) λ p=>by
  rw [hr.2.2,NG]
  exact PE (by decide) (by decide))
theorem Me {a b:List Aa} (ha:a.length<=1000000) (h:a=b):Ev (λ n=>C7 n a b) true:=by
 have:=T9 (b:=b) ha
 rw [decide_eq_true h] at this
 exact this
theorem GQ {f:Ah} {b:Bool} (h:FG f=b):Ev (λ n=>BO n f) b:=h▸Hu f
theorem H7 {P:List Aa} {q:Aa} {b:Bool} (h:D5 P q=b) (h1:P.length<=1000) (h2:∀ p∈P,Nr p) (h3:Nr q):Ev (λ n=>Bu n P q) b:=h▸H3 h1 h2 h3
instance (p:Aa):Decidable (Nr p):=by unfold Nr;infer_instance
theorem QP:Ev (λ n=>FV n) true:=by
 refine Tot.ev ?_
 refine Tot.bindA (λ n=>rfl) (Tot.bindA (λ n=>rfl) (Tot.bindA (λ n=>rfl) (Tot.bindA (λ n=>rfl) (Tot.bindA (λ n=>rfl) ?_))))
 refine Tot.bindE XH (Tot.bindE (Me (by decide) rfl) (Tot.gE rfl XI (Tot.gE rfl (Ev.all λ n=>rfl) (Tot.gE rfl (Ev.all λ n=>rfl) (Tot.gE rfl (Ev.all λ n=>rfl) (Tot.gE rfl (Me (by decide) rfl) ?_))))))
 refine Tot.gE rfl S8 (Tot.gE rfl S9 ?_)
 refine Tot.bindE (GQ (b:=true) (by decide)) (Tot.gE rfl (GQ (b:=true) (by decide)) (Tot.gE rfl (GQ (b:=false) (by decide)) (Tot.gE rfl (Ev.all λ n=>rfl) (Tot.gE rfl (GQ (b:=false) (by decide)) (Tot.gE rfl (Ev.all λ n=>rfl) (Tot.gE rfl (GQ (b:=false) (by decide)) (Tot.gE rfl (Ev.all λ n=>rfl) (Tot.gE rfl (GQ (b:=false) (by decide)) ?_))))))))
 refine Tot.gE rfl (Ev.all λ n=>rfl) (Tot.gE rfl (Ev.all λ n=>rfl) (Tot.gE rfl (H7 (b:=true) (by decide) (by decide) (by decide) (by decide)) ?_))
 refine Tot.gE rfl (Ev.all λ n=>rfl) (Tot.gE rfl (Ev.all λ n=>rfl) (Tot.gE rfl (H7 (b:=true) (by decide) (by decide) (by decide) (by decide)) ?_))
 refine Tot.gE rfl (Ev.all λ n=>rfl) (Tot.gE rfl (Ev.all λ n=>rfl) (Tot.gE rfl (H7 (b:=true) (by decide) (by decide) (by decide) (by decide)) ?_))
 refine Tot.gE rfl (Ev.all λ n=>rfl) (Tot.gE rfl (Ev.all λ n=>rfl) (Tot.gE rfl (H7 (b:=false) (by decide) (by decide) (by decide) (by decide)) ?_))
 refine Tot.gE rfl (Ev.all λ n=>rfl) (Tot.gE rfl (Ev.all λ n=>rfl) (Tot.gE rfl (H7 (b:=false) (by decide) (by decide) (by decide) (by decide)) ?_))
 refine Tot.gE rfl (Ev.all λ n=>rfl) (Tot.gE rfl (H7 (b:=false) (by decide) (by decide) (by decide) (by decide)) ?_)
 exact Tot.gE rfl (Ev.all λ n=>rfl) (Tot.gE rfl OX (Tot.pure rfl))
end Go.AI
end
section
namespace Go.AI
def ptS (f:Ah) (p:Aa):Prop:=if f.Kind=1 then p∈f.P else if f.Kind=2 then lnS f.P (f.P.length-1) p else arS f.P f.Texture p
theorem NI {f:Ah} (hv:FG f=true):f.Kind=1\/f.Kind=2\/f.Kind=3:=by
 have hK:=(GP hv).2.2
 unfold D6 at hK
 split at hK
 ·rename_i h;exact .inl (by simpa using h)
 ·split at hK
  ·rename_i h;exact .inr (.inl (by simpa using h))
  ·split at hK
   ·rename_i h;exact .inr (.inr (by simpa using h))
   ·cases hK
theorem NJ {f:Ah} (hv:FG f=true) (hk:f.Kind=1):f.P=[f.P.getD 0 default]:=by
 have hK:=(GP hv).2.2
 rw [S7 hk,YE,decide_eq_true_eq] at hK
 obtain ⟨a,e⟩:=List.length_eq_one_iff.1 hK.1
 rw [e];rfl
theorem WH {f:Ah} (hv:FG f=true):Tot (λ n=>A5 n f) (λ r=>(Inc r/\r.length<=100000)/\∀ p,p∈r↔ptS f p):=by
 obtain ⟨hb,hl,_⟩:=GP hv
 have h1:=EA (λ p hp=>(hb p hp).nr) (i:=f.P.length-1) (by omega)
 unfold ptS
 rcases NI hv with hk|hk|hk
 ·refine (PC hv hk).tot ⟨⟨List.pairwise_singleton _ _,by simp⟩,λ p=>?_⟩
  rw [if_pos hk,← NJ hv hk]
 ·refine (PD hv hk).mono λ r hr=>⟨⟨hr.1,by have:=hr.2.1;omega⟩,λ p=>?_⟩
  rw [if_neg (by omega),if_pos hk,hr.2.2]
 ·refine (Mc hv hk).mono λ r hr=>⟨⟨hr.1,hr.2.1⟩,λ p=>?_⟩
  rw [if_neg (by omega),if_neg (by omega),hr.2.2]
theorem Ta {f:Ah} (hv:FG f=true):Tot (λ n=>Dt n f) (λ r=>Inc r/\∀ p,p∈r↔ptS f p):=by
 unfold ptS
 rcases NI hv with hk|hk|hk
 ·refine Tot.iteT (by rw [hk];rfl) (Tot.pure ⟨?_,λ p=>?_⟩)
  ·rw [NJ hv hk];exact List.pairwise_singleton _ _
  ·rw [if_pos hk]
 ·refine (QN hv hk).mono λ r hr=>⟨hr.1,λ p=>?_⟩
  rw [if_neg (by omega),if_pos hk,hr.2]
 ·refine (QO hv hk).mono λ r hr=>⟨hr.1,λ p=>?_⟩
  rw [if_neg (by omega),if_neg (by omega),hr.2]
theorem Tot.gT {α β:Type} {P:α->Prop} {c:Bool} {f:Nat->Option β} {d:β} {g:Nat->β->Option α} {R:β->Prop} (hc:c=true) (h:Tot f R) (k:∀ x,R x->Tot (λ n=>g n x) P):Tot (λ n=>(if c=true then f n else some d).bind (g n)) P:=by
 subst hc;exact Tot.bind h k
theorem Yj {r:HJ} (hr:S5 r) {a:KA Int} (h0:U8 a.a0) (h1:U8 a.a1):Tot (λ n=>Bv n r a) (λ y=>y=true):=by
 refine Tot.bindE QP (Tot.bind (Ub hr) λ f hm=>Tot.bindA (λ n=>rfl) ?_)
 have hm:=hm.1
 have hv:=hm.vld
 have hb:=hm.bx
 have hl:=hm.len
 have hq:Nr ({ X:=A0 .i64 (IntKind.i64.wrap (BM a.a0 64)) 20,Y:=A0 .i64 (IntKind.i64.wrap (BM a.a1 64)) 20 }:Aa):=by
  unfold U8 at h0 h1
  obtain ⟨_,a1,a2⟩:=BQ (a:=a.a0) (m:=64) (by omega) (by omega)
  obtain ⟨_,b1,b2⟩:=BQ (a:=a.a1) (m:=64) (by omega) (by omega)
  rw [w64 (by omega) (by omega),w64 (by omega) (by omega),CY (by omega) (by omega),CY (by omega) (by omega)]
  unfold Nr;simp only;omega
 have hn:∀ p∈f.P,Nr p:=λ p hp=>(hb p hp).nr
 refine Tot.gE rfl (GQ hv) (Tot.gT rfl (WH hv) λ r1 hr1=>Tot.gT rfl (Ta hv) λ r2 hr2=>?_)
 have e1:r1=r2:=hr1.1.1.uniq hr2.1 λ p=>by rw [hr1.2,hr2.2]
 refine Tot.gE rfl (Me (by have:=hr1.1.2;omega) e1) ?_
 refine Tot.gT rfl (Kk (by omega) hn) λ o1 ho1=>Tot.gT rfl (Md (by omega) hb) λ o2 ho2=>?_
 have e2:o1=o2:=ho1.1.uniq ho2.1 λ p=>by rw [ho1.2.2,ho2.2]
 have h1:=EA hn (i:=f.P.length) (by omega)
 refine Tot.gE rfl (Me (by have:=ho1.2.1;omega) e2) (Tot.gE rfl (H3 (by omega) hn hq) (Tot.gE rfl (IB (by omega) hn hq) (Tot.pure ?_)))
 rw [beq_self_eq_true];rfl
end Go.AI
end
section
namespace Go.AI
theorem WI {t p q:Aa}:ltG (mvG t p) (mvG t q)↔ltG p q:=by unfold ltG mvG;simp only;omega
theorem Inc.mv {l:List Aa} (h:Inc l) (t:Aa):Inc (l.map (mvG t)):=List.pairwise_map.2 (h.imp λ h=>WI.2 h)
def key (p:Aa):Int:=25*p.Y+p.X
end Go.AI
end
section
namespace Go.AI
def Mi (p:Aa):Prop:=(0<=p.X/\p.X<64)/\0<=p.Y/\p.Y<64
theorem Mi.nr {p:Aa} (h:Mi p):Nr p:=by unfold Mi at h;unfold Nr;omega
end Go.AI
end
section
namespace Go.AI
def cnT (d:List Bool):Nat:=d.countP λ b=>b
structure Ps (r:List Aa) (d0:List Bool) (dn:Nat->Nat->Prop) (d:List Bool) (c:Int):Prop where
 len:d.length=r.length
 cnt:c=(cnT d:Nat)
 ge:cnT d0<=cnT d
 eq:cnT d=cnT d0->d=d0/\∀ i k,i<r.length->k<r.length->dn i k->d0.getD i false=true->DC (r.getD i default) (r.getD k default)<=1->d0.getD k false=true
theorem Ps.to {r:List Aa} {d0:List Bool} {A B:Nat->Nat->Prop} {d:List Bool} {c:Int} (h:Ps r d0 A d c) (hAB:∀ i k,i<r.length->k<r.length->B i k->A i k):Ps r d0 B d c:=
 ⟨h.len,h.cnt,h.ge,λ e=>⟨(h.eq e).1,λ i k hi hk hb=>(h.eq e).2 i k hi hk (hAB i k hi hk hb)⟩⟩
end Go.AI
end
section
namespace Go.AI
theorem H8 {n:Int} (h:okI .u8 n):U8 n:=by
 unfold okI Lit.wf at h
 have:IntKind.u8.min=0/\IntKind.u8.max=255:=by decide
 unfold U8
 simp only [YE,decide_eq_true_eq] at h
 omega
theorem QQ {r:HJ} (h:OP r):S5 r:=⟨H8 h.1,H8 h.2.1,λ a ha=>⟨H8 (h.2.2 a ha).1,H8 (h.2.2 a ha).2⟩⟩
theorem Tot.out {f:Nat->Option Bool} (h:Tot f (λ y=>y=true)):∃ n,f n=some true:=by
 obtain ⟨z,rfl,N,h⟩:=h
 exact ⟨N,h N (Yv _)⟩
theorem XJ:∀ (r:HJ) (a:KA Int),OP r->(okI .u8 a.a0/\okI .u8 a.a1)->∃ n,Bv n r a=some true:=λ _ _ h ha=>(Yj (QQ h) (H8 ha.1) (H8 ha.2)).out
end Go.AI
end
section
namespace Go.Proofs.Ytfoknlpndaekdaa
open Go.AI Go.ChangeShapes Go.WideShapes Go.ChangeAt Go.RowKit
theorem own:ownKnob Try.prog.godebug=none:=by kernel_rfl
set_option maxRecDepth 100000 in
theorem WJ (os:Os) (started:os.Started) (H:Type) (enc:TypeId×Value->H) :
  ReturnsInHanded {} Try.checked os 3 .any (Rows.shapeMatchesReferenceSpec.pre6 enc Try.prog Try.f3 Rows.shapeMatchesReferenceRow.domain false) (Rows.shapeMatchesReferenceSpec.post enc Try.prog Try.f3 false true false false):=by
 refine returnsInHanded_of_change (C:=Try.checked) own started (by kernel_rfl) Try.func3
  (ChangeSpec.witness6 (enc:=enc) (C:=Try.checked) false ⟨#[],#[.agg #[.int .u8 0,.int .u8 0,.slice none 0 0],.agg #[.int .u8 0,.int .u8 0]],[]⟩ 8 (by kernel_rfl) (by kernel_rfl) (by kernel_rfl) (by kernel_rfl)) ?_
 intro W base args ds gs before hval0 hW hcnd _
 have hval:∀ (j:Nat) t v,Try.f3.params[j]? = some t->args[j]? = some v->Value.okWide Try.prog W .any base t v:=hval0
 have hW':=hW
 obtain ⟨p,q,hA0,hV,rfl,hfz,hnd⟩:=hW
 have hA:DataW.TrodAll enc Try.prog W 0 (λ _=>true) true Try.f3.params.toList args.toList ds p:=hA0
 have hlt:=hA.lt
 rw [Try.params3] at hA hval
 obtain ⟨v0,vs0,d0,ds0,p0,q0,hargs,rfl,rfl,h0,r0⟩:=trodAll_cons hA
 obtain ⟨v1,vs1,d1,ds1,p1,q1,rfl,rfl,rfl,h1,r1⟩:=trodAll_cons r0
 obtain ⟨rfl,rfl,rfl⟩:=trodAll_nil r1
 obtain rfl:args=#[v0,v1]:=by cases args;simp_all
 obtain ⟨rfl,rfl⟩:=trodVars_none hV
 obtain ⟨cs0,hc0,_⟩:=okWide_struct Try.underlying24 (hval 0 24 v0 rfl rfl)
 obtain ⟨a0,k0,rep0⟩:=Pu hc0 h0 Yi
 obtain ⟨cs1,hc1,_⟩:=L8 Try.underlying25 (hval 1 25 v1 rfl rfl)
 obtain ⟨a1,k1,rep1⟩:=Pu hc1 h1 Xw
 clear hA0 hval0
 simp only [List.append_nil] at hW' hlt
 obtain ⟨n,hn⟩:=XJ a0 a1 k0 k1
 refine (SL (Du hn) (Pv rep0 (Pv rep1 Wv))).mono λ e W' ⟨he,hg,hold⟩=>?_
 subst he
 exact ⟨_,rfl,QC (pv:=[]) hW' (λ _ _ _=>(trodAll_cons_mk (shut_bool Try.underlying4 _) trodAll_mk0)) (λ sp hsp=>trodAll_cons_mk (Uo (by kernel_rfl) (by kernel_rfl) (of_decide_eq_true (by kernel_rfl)) h0 (λ p hp=>hlt p (by simp [hp])) (λ p hp=>hsp p (by simp [hp])) hold) (trodAll_cons_mk (Uo (by kernel_rfl) (by kernel_rfl) (of_decide_eq_true (by kernel_rfl)) h1 (λ p hp=>hlt p (by simp [hp])) (λ p hp=>hsp p (by simp [hp])) hold) trodAll_mk0)) (λ _ _=>rfl) (by simp) (hg _) hold (ok_one (by kernel_rfl) rfl (okWide_bool_mk Try.underlying4 _))⟩
theorem Yk:Rows.shapeMatchesReferenceRow.holds Try.pinned (OpenSpec.ofChange Rows.shapeMatchesReferenceSpec):=
 OpenClaim.holds_of_wide 3 Try.f3 rfl rfl rfl rfl rfl rfl rfl ⟨rfl,rfl,rfl,rfl,rfl⟩ rfl rfl rfl rfl rfl (by kernel_rfl) Try.func3 (by kernel_rfl)
  (of_decide_eq_true (by kernel_rfl)) (by unfold Func.isWrapper;first|(rw [if_pos (by decide +kernel)];kernel_rfl)|(rw [if_neg (by decide +kernel)];exact ⟨rfl,rfl⟩))
  (λ os started H enc _=>WJ os started H enc)
theorem shapeMatchesReference_holds:Rows.ShapeMatchesReferenceSaid:=Yk
end Go.Proofs.Ytfoknlpndaekdaa
end
