/- The theorem: the last one of this text; part 7 of 7 of its proof. It holds with no condition beyond the given statement. -/
import Derived.Test.YtjaogfjfamffnaaGreatLF
import Derived.Test.YtjaogfjfamffnaaGreatRows
section
namespace Go.AI
section
variable {t:Ad} (hT:GG t) {s:List UInt8} (hs:s.length<=4000)
include hT
theorem Je6 {out:List (List Int)} (hR:∀ i,i<=s.length->Mv t s i (out.getD i [])) {i:Nat} (hi:i<=s.length) {q:Ab} (hq:q∈Aa t) (k:Nat):Kj t s out i q k=Cb t q (s.drop i) k:=by
 unfold Kj Cb;by_cases hst:(Au t q k).2=true
 ·by_cases hb:(prt t k).isPrefixOf (s.drop i)=true
  ·have q2:=(CG hb).2 hi;obtain ⟨m,hm,hmg⟩:=BZ (Dt hT hq hst);have hv:=(hR _ q2).val m _ hmg;have hvv:(out.getD (i+(prt t k).length) []).getD m 0=Aq t (Au t q k).1 (s.drop (i+(prt t k).length)):=by
    rw [JnG (l:=out.getD (i+(prt t k).length) []),hv];rfl
   rw [if_pos ⟨hst,hb⟩,hm,JnH,hvv,List.drop_drop];have hpp:prt t k <+: s.drop i:=Jnj.1 hb;by_cases h0:0<=Aq t (Au t q k).1 (s.drop (i+(prt t k).length))
   ·rw [if_neg (by omega),if_pos ⟨hst,hpp,h0⟩]
   ·rw [if_pos (by omega),if_neg (λ hh=>h0 hh.2.2)]
  ·rw [if_neg (λ hh=>hb hh.2),if_neg (λ hh=>hb (Jnj.2 hh.2.1))]
 ·rw [if_neg (λ hh=>hst hh.1),if_neg (λ hh=>hst hh.1)]
theorem ZB {q:Ab} {x:List UInt8} (hc:0<Aq t q x):∃ k:Nat,k<t.Rules.length/\Cb t q x k=Aq t q x/\∀ j:Nat,j<k->Cb t q x j≠Aq t q x:=by
 obtain ⟨p,hp⟩:=Jbz hT.one (Aq t q x).toNat q x (by omega);cases hp with
 | nil h=>omega
 | cons h hk hm hp=>
  obtain ⟨g1,_⟩:=Fq (t:=t) (q:=q) (x:=x) (by rw [hk];omega);have:=Cq g1;exact ⟨_,by omega,hk,hm⟩
include hs
theorem ZC {out:List (List Int)} (hol:out.length=s.length+1) (hR:∀ i,i<=s.length->Mv t s i (out.getD i [])) {i:Nat} (hi:i<=s.length) {q:Ab} (hq:q∈Aa t) (w:CL) {k:Nat} (hkl:k<t.Rules.length) (hk:Cb t q (s.drop i) k=Aq t q (s.drop i)) (hm:∀ j:Nat,j<k->Cb t q (s.drop i) j≠Aq t q (s.drop i)) :
  Tot (λ n=>whl (λ (x:Int)=>Fn n t out (Aa t) w ⟨s,i,q,Aa t⟩ (Aq t q (s.drop i)) x) n 0) (λ y=>y=(k:Int)):=by
 have haft:∀ j:Nat,j<=k->Ev (λ n=>Hu n t ⟨s,i,q,Aa t⟩ j out) (Cb t q (s.drop i) j):=λ j hj=>by
  rw [← Je6 hT hR hi hq];exact Uu hT hs hi hol (λ i' _ h2=>NA hT hs (hR i' h2)) hq (by omega)
 have hrl:=hT.tab.1;refine Tot.upto (body:=λ n x=>Fn n t out (Aa t) w ⟨s,i,q,Aa t⟩ (Aq t q (s.drop i)) x) k (λ j x=>x=(j:Int)) ?_ ?_ _ rfl
 ·rintro j x hj rfl;unfold Fn;refine Jm3 (haft j (by omega)) (Tot.iteT (by simpa using hm j hj) (Jm2 (Br (by omega))))
 ·rintro x rfl;unfold Fn;exact Jm3 (haft k (by omega)) (Tot.iteF (by simpa using hk) (Jm2 rfl))
theorem JbK:Tot (λ n=>NL n t s) (λ y=>WW t s y.W y.At y.E):=by
 have hf:=(CC hT.tab).1.first;have hi0:BY (Aa t) A6=0:=Pe (Qq hT) hf;have hrl:=hT.tab.1;have hlen:=EL hT;unfold NL;refine Jm3 (Yp (by omega)) ?_;by_cases hb:(Hh s).2=0
 ·refine Tot.iteF (by rw [hb];rfl) (Tot.bind (JX hT hs) ?_);rintro out ⟨hol,hR⟩;have h00:(out.getD 0 [])[0]? = some (Aq t A6 s):=(hR 0 (by omega)).val 0 _ hf;refine Tot.bindC (AX (i:=0) [] (by omega)) (Tot.bindC (BL (i:=0) h00) (Tot.ite (λ hc=>?_) λ hc=>?_))
  ·have hneg:Aq t A6 s<0:=by simpa using hc
   refine Tot.bind (Zz hT hs) λ a ha=>Jm2 ⟨λ h=>absurd hb h,λ _ _=>⟨rfl,ha,rfl⟩,λ _ h=>by omega⟩
  ·have hpos:0<=Aq t A6 s:=by simpa using hc
   refine Jm3 (Ny hT.tab) (Tot.bindC (y:=A6) rfl (Tot.bind (R:=λ y:CL=>y.At=(s.length:Int)/\y.E=0/\∃ p,Ge t A6 s p/\y.W=⟨cellsOf t p,p⟩) ?_ ?_))
   ·refine Tot.whl (body:=λ n x=>Ip n t out (Aa t) x.1 x.2) (λ m x=>∃ (p0:List Int) (place:Nat) (q:Ab),WX t s p0 place q/\x=(⟨⟨cellsOf t p0,p0⟩,(s.length:Int),0⟩,⟨s,(place:Int),q,Aa t⟩)/\m=(Aq t q (s.drop place)).toNat) ?_ (Aq t A6 s).toNat _ ⟨[],0,A6,.start hpos,rfl,by rw [List.drop_zero]⟩;rintro m x ⟨p0,place,q,hW,rfl,rfl⟩;have hq:=hW.rch.mem hT;have hple:=hW.le;obtain ⟨j,hj,hg⟩:=BZ hq;have hv:=(hR place hple).val j _ hg;unfold Ip;simp only;refine Tot.bindC (AX [] (by omega)) (Jm3 (KX (l:=Aa t) (s:=q) (by omega)) ?_);rw [hj];refine Tot.bindC (BL hv) (Tot.ite (λ hc=>?_) λ hc=>?_)
    ·have hc:0<Aq t q (s.drop place):=by simpa using hc
     obtain ⟨k,hkl,hk,hm⟩:=ZB hT hc;have hW2:=hW.next hT hc hk hm;obtain ⟨e1,⟨y,e2,e3⟩,e4,e5⟩:=Fq (t:=t) (q:=q) (x:=s.drop place) (k:=(k:Int)) (by omega);rw [List.drop_drop] at e5;obtain ⟨p1,p2,p3⟩:=hT.pr e1;have hrule:=H3 (t:=t) (k:=(k:Int)) (by omega) (by omega);have htop:=NA hT hs (hR 0 (by omega));have hst:=htop.2 0 _ h00;have hlen:=hW.len;have hpl:=hW.plen;have hlC:Fa t p0=(cellsOf t p0).length:=rfl;have hW2l:=hW2.le;refine Tot.bindC (AX [] (by omega)) (Jm3 (KX (l:=Aa t) (s:=q) (by omega)) ?_);rw [hj];refine Tot.bindC (BL hv) (Tot.bind (ZC hT hs hol hR hple hq _ hkl hk hm) ?_);rintro y rfl;refine Tot.bindC (Gc (by simp;omega)) (Tot.bindC hrule (Tot.bindC (Gc (by simp only [cls] at *;omega)) (Jm4 (λ n=>Qf hT.tab.short n q k) (Tot.bindC hrule (Jm2 ⟨(Aq t (Au t q k).1 (s.drop (place+(prt t k).length))).toNat,by have:=hW2.pos;omega,p0++[(k:Int)],place+(prt t k).length,(Au t q k).1,hW2,?_,rfl⟩)))));have e6:An .i64 (place:Int) ((List.length (Dc t k).Print:Nat):Int)=((place+(prt t k).length:Nat):Int):=by rw [E7]<;>simp only [prt] at*<;> omega
     rw [Qu,e6]
    ·refine Jm2 ⟨rfl,rfl,p0,?_,rfl⟩;have h0:¬ 0<Aq t q (s.drop place):=by simpa using hc
     have:=hW.greedy [] (.nil (by omega));rwa [List.append_nil] at this
   ·rintro y ⟨h1,h2,h3⟩;exact Jm2 ⟨λ h=>absurd hb h,λ _ h=>by omega,λ _ _=>⟨h2,h1,h3⟩⟩
 ·refine Tot.iteT (by simpa using hb) (Jm2 ⟨λ _=>⟨rfl,rfl,rfl⟩,λ h=>absurd h hb,λ h=>absurd h hb⟩)
end
theorem WY (a b:List Int) (ha:a.length<9223372036854775807):Ev (λ n=>EY n a b) (decide (a=b)):=by
 unfold EY;by_cases hl:a.length=b.length
 ·refine Ev.iteF (by rw [WN];simp [hl]) ?_;refine Ev.bind (GZ a.length (λ i=>if a.getD i default=b.getD i default then none else some false) (λ i hi=>Ev.all λ n=>?_) (Ev.all λ n=>?_)) ?_
  ·unfold Gp;rw [if_pos (Du hi),Hz hi,Jm9,Hz (by omega),Jm9];by_cases h:a.getD i default=b.getD i default
   ·rw [if_neg (by simpa using h),if_pos h,Br (by omega)]
   ·rw [if_pos (by simpa using h),if_neg h]
  ·unfold Gp;rw [if_neg (by simp)]
  ·rw [Rq a b hl];by_cases e:a=b
   ·rw [if_pos e,decide_eq_true e];exact Ev.const
   ·rw [if_neg e,decide_eq_false e];exact Ev.const
 ·refine Ev.iteT (by rw [WN];simp [hl]) ?_;rw [show decide (a=b)=false by simp;intro h;exact hl (by rw [h])];exact Ev.const
theorem Jag (a b:AJ) (ha:a.Cells.length<9223372036854775807) (hb:a.Path.length<9223372036854775807):Ev (λ n=>IQ n a b) (decide (a=b)):=by
 unfold IQ;refine Ev.bind (Qj a.Cells b.Cells ha) ?_;refine Ev.guard (λ _=>WY a.Path b.Path hb) ?_;refine Ev.congr (Ev.const (z:=decide (a=b))) λ n=>?_;cases a with|mk c p=>cases b with|mk c' p'=>
 simp only [AJ.mk.injEq,JnI];by_cases h1:c=c'<;>simp [h1]
end Go.AI
end
section
namespace Go.AI
def R5 (t:Ad) (s:List UInt8):Prop:=s.length<=12/\∃ p:List Int,(∀ k∈p,0<=k/\k<t.Rules.length)/\E9 t p=s
theorem Uy {t:Ad} (ht:t.Rules.length<1000000) (hpr:∀ r∈t.Rules,r.Print.length<=1000) {l:List Int} (hl:∀ a∈l,U8 a):Tot (λ n=>HR n t l) (R5 t):=by
 unfold HR;refine Tot.bind (R:=R5 t) ?_ λ y hy=>Jm2 hy;refine Tot.upto (body:=λ n x=>E0 n t l x.1 x.2) (min (min l.length 12) (t.Rules.length*13)) (λ i x=>x.2=(i:Int)/\R5 t x.1) ?_ ?_ _ ⟨rfl,by simp,[],by simp,rfl⟩
 ·rintro i ⟨s,x⟩ hi ⟨h1,h2,p,h3,h4⟩;simp only at h1 h2 h4;subst h1;unfold E0;obtain ⟨a,ham,hai⟩:=Pc (l:=l) (i:=(i:Int)) (by omega) (by omega);have hu:=hl a ham;have hw:IntKind.i64.wrap a=a:=w64 (by unfold U8 at hu;omega) (by unfold U8 at hu;omega);have hrr:=E8 (a:=a) (m:=((t.Rules.length:Nat):Int)) hu.1 (by omega);have hrule:=H3 (t:=t) hrr.1 hrr.2;have hp:=hpr _ (HA (t:=t) hrr.1 hrr.2);refine Tot.iteT (by simp;omega) (Tot.bindC hai (Tot.bindC (EC (by simp;intro h;rw [h] at hi;simp at hi)) ?_));rw [hw];refine Tot.bindC hrule ?_;have hJ:∀ s',R5 t s'->Tot (λ n=>EZ n (i:Int) s') (Rd2 (λ x=>x.2=((i+1:Nat):Int)/\R5 t x.1) (R5 t)):=λ s' hs'=>by
   unfold EZ;exact Jm2 ⟨Br (by omega),hs'⟩
  have e1:An .i64 ((s.length:Nat):Int) ((List.length (Dc t (Bd a ((t.Rules.length:Nat):Int))).Print:Nat):Int)=((s.length+(Dc t (Bd a ((t.Rules.length:Nat):Int))).Print.length:Nat):Int):=by rw [E7]<;>omega
  simp only [e1];refine Tot.ite (λ hc=>Tot.bindC (Rp (by simp only [decide_eq_true_eq] at hc;omega)) (hJ _ ⟨by simp only [decide_eq_true_eq] at hc;rw [List.length_append];omega,p++[Bd a ((t.Rules.length:Nat):Int)],?_,by simp [NB,h4]⟩)) (λ hc=>hJ _ ⟨h2,p,h3,h4⟩);intro k hk;rcases List.mem_append.1 hk with hk|hk
  ·exact h3 k hk
  ·cases List.mem_singleton.1 hk;exact hrr
 ·rintro ⟨s,x⟩ ⟨h1,h2⟩;simp only at h1 h2;subst h1;unfold E0;refine Tot.iteF ?_ (Jm2 h2);simp;intro h3 h4;have:t.Rules.length*13<=12\/¬ t.Rules.length*13<=12:=Classical.em _;apply Classical.byContradiction;intro h5;have:0<t.Rules.length:=List.length_pos_iff.2 h5;omega
theorem Ia.six {t:Ad} (h:Ia t):GG t:=⟨h.tab,λ r hr=>by have:=Pd (h.sound r hr);exact ⟨by omega,by omega⟩⟩
theorem Ia.validT {t:Ad} (h:Ia t):Ev (λ n=>Hs n t) true:=by
 have:=Jbv h.small;rwa [h.valid] at this
end Go.AI
end
section
namespace Go.AI
theorem VI {t:Ad} (hc:∀ r∈t.Rules,1<=r.Cells.length):∀ {p:List Int},(∀ k∈p,0<=k/\k<t.Rules.length)->p.length<=Fa t p
 | [],_=>by simp
 | k::p,h=>by
  have h1:=h k (by simp);have h2:=hc _ (HA h1.1 h1.2);have h3:=VI (t:=t) hc (p:=p) λ a ha=>h a (by simp [ha]);rw [EE,List.length_cons];simp only [cls];omega
theorem Way.mem {t:Ad} {q:Ab} {x:List UInt8} {p:List Int} (h:Way t q x p):∀ k∈p,0<=k/\k<t.Rules.length:=by
 obtain ⟨⟨q',h1,_⟩,_⟩:=h;exact h1.mem
section
variable {t:Ad} (hT:GG t) {s:List UInt8} (hs:s.length<=4000)
include hT hs
theorem Je7:Aq t A6 s<=13000000:=by
 obtain ⟨out,⟨_,hR⟩,_⟩:=JX hT hs;have hf:=(CC hT.tab).1.first;exact ((NA hT hs (hR 0 (by omega))).2 0 _ ((hR 0 (by omega)).val 0 _ hf)).2
theorem WW.size {w:AJ} {a e:Int} (h:WW t s w a e):w.Cells.length<=13000000/\w.Path.length<=13000000:=by
 by_cases h1:(Hh s).2=0
 ·by_cases h2:Aq t A6 s<0
  ·obtain ⟨rfl,_⟩:=h.none h1 h2;simp
  ·obtain ⟨_,_,p,g3,rfl⟩:=h.path h1 (by omega);have g4:=g3.way hT.one (by omega);have g5:=VI hT.one g4.1.mem;have g6:=Je7 hT hs;have:Fa t p=(cellsOf t p).length:=rfl;simp only;omega
 ·obtain ⟨rfl,_⟩:=h.bad h1;simp
end
end Go.AI
end
section
namespace Go.AI
theorem ZD {x:NY} (hx:Qm x):∃ t,(Ia t/\t.Rules.length<=10)/\Ev (λ n=>KB n x) t:=by
 obtain ⟨t,h,hE⟩:=Jbx hx;exact ⟨t,⟨h.1,h.2.2⟩,hE⟩
end Go.AI
end
section
namespace Go.AI
noncomputable def A8 (t:Ad) (x:List UInt8):List Int:=(Aa t).map λ q=>Aq t q x
def Gf (a v:Int):Int:=if 0<=v/\(a<0\/v<a) then v else a
def BQ (l:List Int):Int:=l.foldl Gf (-1)
def Dh (l:List Int):List Int:=l.map λ v=>if v<0 then -1 else v-BQ l
noncomputable def CU (t:Ad) (s:List UInt8):A5:=⟨s,(List.range (s.length+1)).map λ i=>Dh (A8 t (s.drop i)),(List.range (s.length+1)).map λ i=>BQ (A8 t (s.drop i))⟩
theorem Mv.eq {t:Ad} {s:List UInt8} {i:Nat} {row:List Int} (h:Mv t s i row):row=A8 t (s.drop i):=by
 refine Jnm λ j=>?_;unfold A8;rw [JnB];rcases Jnk j (Aa t).length with hj|hj
 ·rw [h.val j _ (Jnx hj),Jnx hj];rfl
 ·rw [JnT (by rw [h.len];exact hj),JnT hj];rfl
theorem Yz (l:List Int):∀ a,(l.foldl Gf a=a\/l.foldl Gf a∈l)/\(0<=a->0<=l.foldl Gf a/\l.foldl Gf a<=a)/\∀ v∈l,0<=v->0<=l.foldl Gf a/\l.foldl Gf a<=v:=by
 induction l with
 | nil=>intro a;exact ⟨.inl rfl,λ h=>⟨h,Int.le_refl _⟩,λ v hv=>by cases hv⟩
 | cons x l ih=>
  intro a;obtain ⟨h1,h2,h3⟩:=ih (Gf a x);rw [List.foldl_cons];have hm:Gf a x=a\/Gf a x=x:=by unfold Gf;split<;>simp
  have hb:(0<=a->0<=Gf a x/\Gf a x<=a)/\(0<=x->0<=Gf a x/\Gf a x<=x):=by unfold Gf;split<;>omega
  refine ⟨?_,λ ha=>?_,λ v hv h0=>?_⟩
  ·rcases h1 with h1|h1
   ·rcases hm with hm|hm
    ·exact .inl (h1.trans hm)
    ·exact .inr (by rw [h1,hm];simp)
   ·exact .inr (List.mem_cons_of_mem _ h1)
  ·have:=hb.1 ha;have:=h2 this.1;omega
  ·rcases List.mem_cons.1 hv with rfl|hv
   ·have:=hb.2 h0;have:=h2 this.1;omega
   ·exact h3 v hv h0
theorem Rv {l:List Int} {v:Int} (hv:v∈l) (h0:0<=v):0<=BQ l/\BQ l<=v:=(Yz l (-1)).2.2 v hv h0
theorem ZE (l:List Int):BQ l=-1\/BQ l∈l:=(Yz l (-1)).1
theorem Rw {l:List Int} {B:Int} (hB:-1<=B) (h:∀ v∈l,-1<=v/\v<=B):-1<=BQ l/\BQ l<=B:=by
 rcases ZE l with h1|h1
 ·omega
 ·exact h _ h1
theorem VJ {l:List Int} {k:Nat} (h:k<l.length) (a:Int):(l.take (k+1)).foldl Gf a=Gf ((l.take k).foldl Gf a) l[k]:=by
 rw [List.take_add_one,Jnx h,List.foldl_append];rfl
theorem Je8 {out:List (List Int)} {i:Nat} {row:List Int} (hr:out[i]? = some row) (hl:row.length<1000000) (m:A5):Tot (λ n=>whl (λ (x:(Int×Int))=>Gw n out m (i:Int) x.1 x.2) n (-1,0)) (λ y=>y=BQ row):=by
 have hi:=BL hr;refine Tot.upto (body:=λ n x=>Gw n out m (i:Int) x.1 x.2) row.length (λ k x=>x.2=(k:Int)/\x.1=(row.take k).foldl Gf (-1)) ?_ ?_ _ ⟨rfl,rfl⟩
 ·rintro k ⟨a,k'⟩ hk ⟨e1,e2⟩;simp only at e1 e2;subst e1;have hv:=Em hk;have hJ:∀ b,b=Gf a row[k]->Tot (λ n=>HS n (k:Int) b) (Rd2 (λ x:Int×Int=>x.2=((k+1:Nat):Int)/\x.1=(row.take (k+1)).foldl Gf (-1)) (λ y=>y=BQ row)):=by
   intro b hb;unfold HS;exact Jm2 ⟨Br (by omega),by rw [VJ hk,← e2];exact hb⟩
  unfold Gw;refine Tot.bindC hi (Tot.iteT (Du hk) (Tot.bindC hi (Tot.bindC hv ?_)));by_cases h0:0<=row[k]
  ·by_cases h1:a<0
   ·refine Jm6 (by simp [h1]) (Jm6 (by simp [h1]) (Tot.iteT (by simp [h0,h1]) (Tot.bindC hi (Tot.bindC hv (hJ _ ?_)))));unfold Gf;rw [if_pos ⟨h0,.inl h1⟩]
   ·refine Jm5 (by simp;omega) (Ev.all λ _=>hi) (Jm5 (by simp;omega) (Ev.all λ _=>hv) (Tot.ite (λ h=>Tot.bindC hi (Tot.bindC hv (hJ _ ?_))) λ h=>hJ _ ?_))
    ·unfold Gf;simp only [Jny,JnR,decide_eq_true_eq] at h;rw [if_pos ⟨h0,h.2⟩]
    ·unfold Gf;rw [if_neg];intro hc;rw [← Jnh] at h;refine h ?_;simp only [Jny,JnR,decide_eq_true_eq];exact ⟨h0,hc.2⟩
  ·refine Jm6 (by simp;omega) (Jm6 (by simp;omega) (Tot.iteF (by simp;omega) (hJ _ ?_)));unfold Gf;rw [if_neg λ h=>h0 h.1]
 ·rintro ⟨a,k'⟩ ⟨e1,e2⟩;simp only at e1 e2;subst e1;rw [List.take_length] at e2;unfold Gw;exact Tot.bindC hi (Tot.iteF (by simp) (Jm2 e2))
theorem Je9 {out:List (List Int)} {i:Nat} {row:List Int} (hr:out[i]? = some row) (hl:row.length<1000000) (hb:∀ v∈row,-1<=v/\v<=13000000) (m:A5):Tot (λ n=>whl (λ (x:((List Int)×Int))=>Gx n out m (i:Int) (BQ row) x.1 x.2) n ([],0)) (λ y=>y=Dh row):=by
 have hi:=BL hr;have hlr:=Rw (by decide) hb;refine Tot.upto (body:=λ n x=>Gx n out m (i:Int) (BQ row) x.1 x.2) row.length (λ k x=>x.2=(k:Int)/\x.1=(row.take k).map λ v=>if v<0 then -1 else v-BQ row) ?_ ?_ _ ⟨rfl,by simp⟩
 ·rintro k ⟨a,k'⟩ hk ⟨e1,e2⟩;simp only at e1 e2;subst e1;have hv:=Em hk;have hbk:=hb _ (Jnf hk);have hla:a.length=k:=by rw [e2];simp;omega
  have hJ:∀ b,b=a++[if row[k]<0 then -1 else row[k]-BQ row]->Tot (λ n=>HT n (k:Int) b) (Rd2 (λ x:List Int×Int=>x.2=((k+1:Nat):Int)/\x.1=(row.take (k+1)).map λ v=>if v<0 then -1 else v-BQ row) (λ y=>y=Dh row)):=by
   intro b h;unfold HT;refine Jm2 ⟨Br (by omega),?_⟩;rw [h,e2,List.take_add_one,Jnx hk,List.map_append];rfl
  unfold Gx;refine Tot.bindC hi (Tot.iteT (Du hk) (Tot.bindC hi (Tot.bindC hv (Tot.ite (λ h=>Tot.bindC (Gc (by simp;omega)) (hJ _ ?_)) λ h=>Tot.bindC hi (Tot.bindC hv (Tot.bindC (Gc (by simp;omega)) (hJ _ ?_)))))))
  ·rw [decide_eq_true_eq] at h;rw [if_pos h]
  ·rw [decide_eq_false_iff_not] at h;rw [if_neg h,K0 (by omega) (by omega)]
 ·rintro ⟨a,k'⟩ ⟨e1,e2⟩;simp only at e1 e2;subst e1;rw [List.take_length] at e2;unfold Gx;exact Tot.bindC hi (Tot.iteF (by simp) (Jm2 e2))
section
variable {t:Ad} (hT:GG t) {s:List UInt8} (hs:s.length<=4000)
include hT hs
theorem SK {i:Nat} (hi:i<=s.length):(A8 t (s.drop i)).length=(Aa t).length/\∀ v∈A8 t (s.drop i),-1<=v/\v<=((3072*(s.length-i+1):Nat):Int):=by
 refine ⟨by simp [A8],λ v hv=>?_⟩;obtain ⟨out,⟨_,hR⟩,_⟩:=JX hT hs;have h:=hR i hi;rw [← h.eq] at hv;obtain ⟨j,hj⟩:=List.mem_iff_getElem?.1 hv;exact ⟨((NA hT hs h).2 j v hj).1,h.bnd j v hj⟩
theorem WZ {i:Nat} (hi:i<=s.length) {v:Int} (hv:v∈A8 t (s.drop i)):-1<=v/\v<=13000000:=by
 have:=(SK hT hs hi).2 v hv;omega
theorem JgP:Ev (λ n=>PL n t s) (CU t s):=by
 have hlen:=EL hT;refine Tot.ev ?_;unfold PL;refine Tot.bind (JX hT hs) ?_;rintro out ⟨hol,hR⟩;refine Tot.bind (R:=λ y=>y=CU t s) ?_ (λ y h=>Jm2 h);refine Tot.upto (body:=λ n x=>HU n out x.1 x.2) (s.length+1) (λ k x=>x.2=(k:Int)/\x.1=⟨s,(List.range k).map λ i=>Dh (A8 t (s.drop i)),(List.range k).map λ i=>BQ (A8 t (s.drop i))⟩) ?_ ?_ _ ⟨rfl,rfl⟩
 ·rintro k ⟨m,k'⟩ hk ⟨e1,e2⟩;simp only at e1 e2;subst e1 e2;have hRk:=hR k (by omega);have hg:out[k]? = some (A8 t (s.drop k)):=by
   rw [← hRk.eq,JnG,Jnx (by omega)];rfl
  have hrr:=SK hT hs (show k<=s.length by omega);unfold HU;refine Tot.iteT (by rw [hol];exact Du hk) (Tot.bind (Je8 hg (by omega) _) ?_);rintro _ rfl;refine Tot.bind (Je9 hg (by omega) (λ v hv=>WZ hT hs (by omega) hv) _) ?_;rintro _ rfl;refine Tot.bindC (Gc (by simp;omega)) (Tot.bindC (Gc (by simp;omega)) (Jm2 ⟨Br (by omega),?_⟩));simp only [List.range_succ,List.map_append,Jns,List.map_nil]
 ·rintro ⟨m,k'⟩ ⟨e1,e2⟩;simp only at e1 e2;subst e1;unfold HU;exact Tot.iteF (by rw [hol];simp) (Jm2 e2)
end
theorem Jfa (a b:A5) (h1:a.Least.length<1000000) (h2:a.Costs.length<1000000) (h3:∀ l∈a.Costs,l.length<1000000):Ev (λ n=>M6 n a b) (decide (a=b)):=by
 refine Tot.ev ?_;unfold M6;obtain ⟨at',ac,al⟩:=a;obtain ⟨bt,bc,bl⟩:=b;simp only at h1 h2 h3 ⊢;by_cases ht:at'=bt
 ·by_cases hc:ac.length=bc.length
  ·refine Jm5 (by simp [ht,hc]) (WY al bl (by omega)) ?_;by_cases hl:al=bl
   ·refine Tot.iteF (by simp [ht,hc,hl]) ?_;subst ht hl;refine Tot.bind (R:=λ y:Unit⊕Bool=>(y=.inl ()/\ac=bc)\/(y=.inr false/\ac≠bc)) ?_ ?_
    ·refine Tot.upto (body:=λ n x=>HV n ⟨at',ac,al⟩ ⟨at',bc,al⟩ x) ac.length (λ k x=>x=(k:Int)/\ac.take k=bc.take k) ?_ ?_ _ ⟨rfl,rfl⟩
     ·rintro k _ hk ⟨rfl,e⟩;have hkb:k<bc.length:=by omega
      unfold HV;refine Tot.iteT (Du hk) (Tot.bindC (Em hk) (Tot.bindC (Em hkb) (Jm3 (WY _ _ (by have:=h3 _ (Jnf hk);omega)) (Tot.ite (λ h=>?_) λ h=>?_))))
      ·refine Jm2 (.inr ⟨rfl,λ he=>?_⟩);subst he;simp at h
      ·refine Jm2 ⟨Br (by omega),?_⟩;have:ac[k]=bc[k]:=by simpa using h
       rw [List.take_add_one,List.take_add_one,e,Jnx hk,Jnx hkb,this]
     ·rintro _ ⟨rfl,e⟩;unfold HV;refine Tot.iteF (by simp) (Jm2 (.inl ⟨rfl,?_⟩));rwa [List.take_length,hc,List.take_length] at e
    ·rintro y (⟨rfl,h⟩|⟨rfl,h⟩)
     ·exact Jm2 (by simp [h])
     ·exact Jm2 (by simp [h])
   ·refine Tot.iteT (by simp [hl]) (Jm2 ?_);simp [hl]
  ·have hc':((ac.length:Nat):Int)≠((bc.length:Nat):Int):=by omega
   refine Jm6 (by simp [ht,hc']) (Tot.iteT (by simp [ht,hc']) (Jm2 ?_));simp only [A5.mk.injEq];exact (decide_eq_false λ h=>hc (by rw [h.2.1])).symm
 ·refine Jm6 (by simp [ht]) (Tot.iteT (by simp [ht]) (Jm2 ?_));simp [ht]
theorem Jfb {t:Ad} (hT:GG t) {s:List UInt8} (hs:s.length<=4000) (b:A5):Ev (λ n=>M6 n (CU t s) b) (decide (CU t s=b)):=by
 have hlen:=EL hT;refine Jfa _ _ (by simp [CU];omega) (by simp [CU];omega) λ l hl=>?_;simp only [CU,Jno] at hl;obtain ⟨i,_,rfl⟩:=hl;simp only [Dh,A8,Jnr];omega
end Go.AI
end
section
namespace Go.AI
def HB (t:Ad) (q:Ab) (k:Nat):Option ON:=if (Au t q k).2=true then some ⟨prt t k,((cls t k).length:Nat),BY (Aa t) (Au t q k).1⟩ else none
def Bk (t:Ad) (q:Ab):List ON:=(List.range t.Rules.length).filterMap (HB t q)
def B0 (t:Ad):AP:=⟨(Aa t).map (Bk t),(Aa t).map (Cy t)⟩
theorem Rx {t:Ad} {q:Ab} {a:ON}:a∈Bk t q↔∃ k:Nat,k<t.Rules.length/\(Au t q k).2=true/\a=⟨prt t k,((cls t k).length:Nat),BY (Aa t) (Au t q k).1⟩:=by
 unfold Bk;rw [List.mem_filterMap];constructor
 ·rintro ⟨k,hk,h⟩;unfold HB at h;split at h
  ·rename_i hs;cases h;exact ⟨k,List.mem_range.1 hk,hs,rfl⟩
  ·cases h
 ·rintro ⟨k,hk,hs,rfl⟩;exact ⟨k,List.mem_range.2 hk,by unfold HB;rw [if_pos hs]⟩
theorem VK (t:Ad) (q:Ab):(Bk t q).length<=t.Rules.length:=by
 have:=List.length_filterMap_le (HB t q) (List.range t.Rules.length);simpa [Bk] using this
section
variable {t:Ad} (hT:GG t)
include hT
theorem JgQ:Tot (λ n=>whl (λ (x:((List (Ab×Int))×Int))=>CE n t (Aa t) x.1 x.2) n ([],0)) (Hg (Aa t)):=by
 have hlen:=EL hT;refine Tot.upto (body:=λ n y=>CE n t (Aa t) y.1 y.2) (Aa t).length (λ k y=>y.2=(k:Int)/\Hg ((Aa t).take k) y.1) ?_ ?_ _ ⟨rfl,λ q=>rfl⟩
 ·rintro k ⟨nb,k'⟩ hk ⟨e1,hN⟩;simp only at e1 hN;subst e1;unfold CE;refine Tot.iteT (Du hk) (Tot.bindC (Em hk) (Jm2 ⟨Br (by omega),?_⟩));have hn:=Qq hT;have e:(Aa t).take (k+1)=(Aa t).take k++[(Aa t)[k]]:=by rw [List.take_add_one,Jnx hk];rfl
  have hnd:((Aa t).take (k+1)).Nodup:=(List.take_sublist _ _).nodup hn;rw [e] at hnd;have hp:(Aa t)[k] ∉ (Aa t).take k:=by
   intro hm;exact (List.nodup_append.1 hnd).2.2 _ hm _ (by simp) rfl
  have:=Hg.snoc hN ((List.take_sublist _ _).nodup hn) hp;rw [← e,List.length_take,Nat.min_eq_left (by omega)] at this;exact this
 ·rintro ⟨nb,k'⟩ ⟨e1,hN⟩;simp only at e1 hN;subst e1;rw [List.take_length] at hN;unfold CE;exact Tot.iteF (by simp) (Jm2 hN)
theorem Jfc {nb:List (Ab×Int)} (hN:Hg (Aa t) nb) {j:Nat} {q:Ab} (hq:(Aa t)[j]? = some q) (g0:AP) (hl:g0.Arcs.length=(Aa t).length) (h0:g0.Arcs[j]? = some []) :
  Tot (λ n=>whl (λ (x:(AP×Int))=>CF n t (Aa t) nb (j:Int) q x.1 x.2) n (g0,0)) (λ g=>g={ g0 with Arcs:=g0.Arcs.set j (Bk t q) }):=by
 have hrl:=hT.tab.1;have hjl:=Aj hq;refine Tot.upto (body:=λ n x=>CF n t (Aa t) nb (j:Int) q x.1 x.2) t.Rules.length (λ k x=>x.2=(k:Int)/\x.1={ g0 with Arcs:=g0.Arcs.set j ((List.range k).filterMap (HB t q)) }/\((List.range k).filterMap (HB t q)).length<=k) ?_ ?_ _ ⟨rfl,?_,by simp⟩
 ·rintro k ⟨g,k'⟩ hk ⟨e1,e2,e3⟩;simp only at e1 e2 e3;subst e1;have hJ:∀ g',g'={ g0 with Arcs:=g0.Arcs.set j ((List.range (k+1)).filterMap (HB t q)) }->Tot (λ n=>C7 n (k:Int) g') (Rd2 (λ x:AP×Int=>x.2=((k+1:Nat):Int)/\x.1={ g0 with Arcs:=g0.Arcs.set j ((List.range (k+1)).filterMap (HB t q)) }/\((List.range (k+1)).filterMap (HB t q)).length<=k+1) (λ g=>g={ g0 with Arcs:=g0.Arcs.set j (Bk t q) })):=by
   intro g' hg;unfold C7;refine Jm2 ⟨Br (by omega),hg,?_⟩;exact Nat.le_trans (List.length_filterMap_le _ _) (by simp)
  unfold CF;have hir:idx t.Rules (k:Int)=some (Dc t k):=H3 (by omega) (by omega);refine Tot.iteT (Du hk) (Tot.bindC hir (Jm4 (λ n=>Qe hT.tab.short n q k) (Tot.ite (λ h=>?_) λ h=>?_)))
  ·subst e2;refine Tot.bindC (AX [] (by rw [JnP];omega)) ?_;rw [De (by omega)];refine Tot.bindC (Gc (by simp;omega)) (hJ _ ?_);rw [Jaf hT hN (Dt hT (Jnz hq) h)];simp only [JnH,List.set_set,List.range_succ,List.filterMap_append];have:(List.filterMap (HB t q) [k])=[⟨prt t k,((cls t k).length:Nat),BY (Aa t) (Au t q k).1⟩]:=by
    simp only [List.filterMap_cons,HB,h,if_true,List.filterMap_nil]
   rw [this]
  ·refine hJ _ ?_;rw [e2];simp only [List.range_succ,List.filterMap_append];have:(List.filterMap (HB t q) [k])=[]:=by
    simp only [List.filterMap_cons,HB,h,JnK,if_false,List.filterMap_nil]
   rw [this,List.append_nil]
 ·rintro ⟨g,k'⟩ ⟨e1,e2,e3⟩;simp only at e1 e2;subst e1;unfold CF;exact Tot.iteF (by simp) (Jm2 e2)
 ·show g0={ g0 with Arcs:=g0.Arcs.set j [] };have:g0.Arcs.set j []=g0.Arcs:=by
   have:=D6 g0.Arcs j [];rwa [JnG,h0] at this
  rw [this]
theorem YA:Ev (λ n=>Eg n t) (B0 t):=by
 have hlen:=EL hT;refine Tot.ev ?_;unfold Eg;refine Jm3 (Us hT.tab) (Tot.bind (JgQ hT) ?_);intro nb hN;refine Tot.bindC (K2 (by omega) (by omega)) (Tot.bindC (K2 (by omega) (by omega)) ?_);simp only [JnH];refine Tot.bind (R:=λ g=>g=B0 t) ?_ (λ g h=>Jm2 h);refine Tot.upto (body:=λ n x=>C8 n t (Aa t) nb x.1 x.2) (Aa t).length (λ k x=>x.2=(k:Int)/\∃ A B,x.1=(⟨A,B⟩:AP)/\(A.length=(Aa t).length/\(∀ (j:Nat) q,j<k->(Aa t)[j]? = some q->A[j]? = some (Bk t q))/\∀ j,k<=j->j<(Aa t).length->A[j]? = some [])/\B.length=(Aa t).length/\∀ (j:Nat) q,j<k->(Aa t)[j]? = some q->B[j]? = some (Cy t q)) ?_ ?_ _ ⟨rfl,_,_,rfl,⟨by simp,by omega,λ j _ h=>by rw [List.getElem?_replicate,if_pos h]⟩,by simp,by omega⟩
 ·rintro k ⟨g,k'⟩ hk ⟨e1,A,B,e2,⟨a1,a2,a3⟩,b1,b2⟩;simp only at e1 e2;subst e1 e2;have hq:(Aa t)[k]? = some (Aa t)[k]:=Jnx hk;unfold C8;refine Tot.iteT (Du hk) (Tot.bindC (BL hq) (Jm4 (λ n=>Uq n t _) (Tot.bindC (AX false (show k<B.length by omega)) (Tot.bindC (DV (show k<B.length by omega)) (Tot.bind (Jfc hT hN hq _ a1 (a3 k (Jni _) hk)) ?_)))));rintro _ rfl;refine Jm2 ⟨Br (by omega),_,_,rfl,⟨by rw [JnP];exact a1,λ j q hj hjq=>?_,λ j h1 h2=>?_⟩,by rw [JnP];exact b1,λ j q hj hjq=>?_⟩
  ·by_cases e:k=j
   ·subst e;rw [hq] at hjq;cases hjq;exact JnJ (show k<A.length by omega)
   ·rw [JnO e];exact a2 j q (by omega) hjq
  ·rw [JnO (by omega)];exact a3 j (by omega) h2
  ·by_cases e:k=j
   ·subst e;rw [hq] at hjq;cases hjq;exact JnJ (show k<B.length by omega)
   ·rw [JnO e];exact b2 j q (by omega) hjq
 ·rintro ⟨g,k'⟩ ⟨e1,A,B,e2,⟨a1,a2,a3⟩,b1,b2⟩;simp only at e1 e2;subst e1 e2;unfold C8;refine Tot.iteF (by simp) (Jm2 ?_);show (⟨A,B⟩:AP)=⟨(Aa t).map (Bk t),(Aa t).map (Cy t)⟩;congr 1
  ·refine Jnm λ j=>?_;rcases Jnk j (Aa t).length with h|h
   ·rw [a2 j _ h (Jnx h),JnB,Jnx h];rfl
   ·rw [JnT (by omega),JnT (by simpa using h)]
  ·refine Jnm λ j=>?_;rcases Jnk j (Aa t).length with h|h
   ·rw [b2 j _ h (Jnx h),JnB,Jnx h];rfl
   ·rw [JnT (by omega),JnT (by simpa using h)]
end
theorem ZF:Ev (λ n=>IR n) true:=Ev.of (λ n m h=>UZ h) (n:=60) (by kernel_rfl)
end Go.AI
end
section
namespace Go.AI
section
variable {α:Type}
theorem FU {l ys:List α} {lo k:Nat} (h:lo+ys.length<=l.length) (hk:k<ys.length):(spl l lo ys)[lo+k]? = ys[k]? := by
 unfold spl;have e:(l.take lo).length=lo:=by simp;omega
 rw [List.append_assoc,JnQ (by omega),e,JnF (by omega)];congr 1;omega
theorem Qv {l ys:List α} {lo j:Nat} (h:lo+ys.length<=l.length) (hj:j<lo\/lo+ys.length<=j):(spl l lo ys)[j]? = l[j]? := by
 unfold spl;have e:(l.take lo).length=lo:=by simp;omega
 rw [List.append_assoc];rcases hj with hj|hj
 ·rw [JnF (by omega),JnS hj]
 ·rw [JnQ (by omega),JnQ (by omega),Jnp];congr 1;omega
theorem I8 {l ys:List α} {lo:Nat} (h:lo+ys.length<=l.length):(spl l lo ys).length=l.length:=by
 unfold spl;simp;omega
theorem ND {l ys:List α} {lo k:Nat} (h:lo+ys.length<=l.length) (hk:k<ys.length) (v:α):(spl l lo ys).set (lo+k) v=spl l lo (ys.set k v):=by
 have h':lo+(ys.set k v).length<=l.length:=by rw [JnP];exact h
 refine Jnm λ j=>?_;by_cases e:lo+k=j
 ·subst e;rw [JnJ (by rw [I8 h];omega),FU h' (by rw [JnP];exact hk),JnJ hk]
 ·rw [JnO e];by_cases hj:j<lo\/lo+ys.length<=j
  ·rw [Qv h hj,Qv h' (by rw [JnP];exact hj)]
  ·obtain ⟨m,rfl⟩:∃ m,j=lo+m:=⟨j-lo,by omega⟩;rw [FU h (by omega),FU h' (by rw [JnP];omega),JnO (by omega)]
theorem Jfd {l:List α} {lo S:Nat} (h:lo+S<=l.length):spl l lo ((l.drop lo).take S)=l:=by
 unfold spl;have e:((l.drop lo).take S).length=S:=by simp;omega
 rw [e,List.append_assoc];have:(l.drop lo).take S++l.drop (lo+S)=l.drop lo:=by
  rw [← List.drop_drop];exact List.take_append_drop _ _
 rw [this,List.take_append_drop]
theorem JbL {l ys:List α} {lo:Nat} (h:lo+ys.length<=l.length):((spl l lo ys).drop lo).take ys.length=ys:=by
 refine Jnm λ j=>?_;rw [List.getElem?_take,Jnp];split
 ·rename_i hj;exact FU h hj
 ·rename_i hj;rw [JnT (by omega)]
theorem ZG {l ys:List α} {lo lo' S:Nat} (h:lo+ys.length<=l.length) (hd:lo'+S<=lo\/lo+ys.length<=lo'):((spl l lo ys).drop lo').take S=(l.drop lo').take S:=by
 refine Jnm λ j=>?_;rw [List.getElem?_take,List.getElem?_take];split
 ·rename_i hj;rw [Jnp,Jnp,Qv h (by omega)]
 ·rfl
theorem JkM {n k:Nat} (h:k<n):inB n (k:Int)=some ():=by
 unfold inB Bu;rw [if_pos (by simp;omega)]
theorem Kk {l:List α} {lo S k:Nat} {v:α} (hk:k<S) (h:l[lo+k]? = some v):ixP l (lo,S) (k:Int)=some v:=by
 unfold ixP;rw [JkM hk,Jm9,JnH];exact BL h
end
def Ib (S n:Nat):List (Nat×Nat):=(List.range n).map λ i=>(i*S,S)
theorem Uz {S n i:Nat} (h:i<n):idx (Ib S n) (i:Int)=some (i*S,S):=by
 refine BL ?_;simp [Ib,h]
theorem JZ {S n i:Nat} (h:i<n):i*S+S<=S*n:=by
 have:(i+1)*S<=n*S:=Jnc S h;rw [JnL,Nat.one_mul,Nat.mul_comm n S] at this;exact this
theorem W2 {S i j:Nat} (h:i<j):i*S+S<=j*S:=by
 have:(i+1)*S<=j*S:=Jnc S h;rw [JnL,Nat.one_mul] at this;exact this
structure Lat (t:Ad) (s:List UInt8) (i:Nat) (l ls:List Int):Prop where
 len:l.length=(Aa t).length*(s.length+1)
 ll:ls.length=s.length+1
 col:∀ p,i<p->p<=s.length->(l.drop (p*(Aa t).length)).take (Aa t).length=Dh (A8 t (s.drop p))
 lst:∀ p,i<p->p<=s.length->ls[p]? = some (BQ (A8 t (s.drop p)))
def Low (a b:List Int):Prop:=∀ (j:Nat) v,a[j]? = some v->0<=v->∃ w,b[j]? = some w/\0<=w/\w<=v
theorem Low.refl (a:List Int):Low a a:=λ _ v h h0=>⟨v,h,h0,Int.le_refl _⟩
theorem Low.set {a:List Int} {k:Nat} {v c:Int} (hv:a[k]? = some v) (hc:0<=c) (hlt:v<0\/c<v):Low a (a.set k c):=by
 intro j w hw h0;by_cases e:k=j
 ·subst e;rw [hv] at hw;cases hw;exact ⟨c,JnJ (Aj hv),hc,by omega⟩
 ·exact ⟨w,by rw [JnO e];exact hw,h0,Int.le_refl _⟩
def A1 (t:Ad) (x:List UInt8) (cur:List Int) (j:Nat) (g:ON):Prop:=g.Print≠[]->∀ y,x=g.Print++y->∀ q',(Aa t)[g.To.toNat]? = some q'->0<=Aq t q' y->∃ v,cur[j]? = some v/\0<=v/\v<=Aq t q' y+g.Cells
def A2 (cur:List Int) (j:Nat) (g:ON):Prop:=g.Print=[]->∀ w,cur[g.To.toNat]? = some w->0<=w->∃ v,cur[j]? = some v/\0<=v/\v<=w+g.Cells
theorem A1.low {t:Ad} {x:List UInt8} {a b:List Int} {j:Nat} {g:ON} (h:A1 t x a j g) (hl:Low a b):A1 t x b j g:=by
 intro hp y hy q' hq' h0;obtain ⟨v,h1,h2,h3⟩:=h hp y hy q' hq' h0;obtain ⟨w,g1,g2,g3⟩:=hl j v h1 h2;exact ⟨w,g1,g2,by omega⟩
section
variable {t:Ad} (hT:GG t) {s:List UInt8} (hs:s.length<=4000)
include hT hs
theorem YB {p:Nat} (hp:p<=s.length) {j:Nat} {q:Ab} (hq:(Aa t)[j]? = some q):-1<=Aq t q (s.drop p)/\Aq t q (s.drop p)<=((3072*(s.length-p+1):Nat):Int):=by
 refine (SK hT hs hp).2 _ ?_;unfold A8;exact Jno.2 ⟨q,Jnz hq,rfl⟩
omit hT hs in
theorem JkN (p:Nat) {j:Nat} {q:Ab} (hq:(Aa t)[j]? = some q) :
  (Dh (A8 t (s.drop p)))[j]? = some (if Aq t q (s.drop p)<0 then -1 else Aq t q (s.drop p)-BQ (A8 t (s.drop p)))/\(0<=Aq t q (s.drop p)->0<=BQ (A8 t (s.drop p))/\BQ (A8 t (s.drop p))<=Aq t q (s.drop p)):=by
 have hr:(A8 t (s.drop p))[j]? = some (Aq t q (s.drop p)):=by unfold A8;rw [JnB,hq];rfl
 refine ⟨by rw [Dh,JnB,hr];rfl,λ h0=>Rv (Jnz hr) h0⟩
theorem ZH {i:Nat} {l ls cur:List Int} (hL:Lat t s i l ls) (hc:cur.length=(Aa t).length) (hi:i<=s.length) {p:Nat} (h1:i<p) (h2:p<=s.length) {j:Nat} {q:Ab} (hq:(Aa t)[j]? = some q) (x:List UInt8) (n:Nat) :
  Gn n x (p:Int) (j:Int) (Ib (Aa t).length (s.length+1)) ls (spl l (i*(Aa t).length) cur)=some (Aq t q (s.drop p)):=by
 have hjl:=Aj hq;have hlo:i*(Aa t).length+cur.length<=l.length:=by rw [hc,hL.len];exact JZ (by omega)
 obtain ⟨n1,n2⟩:=JkN p hq;have hrng:=YB hT hs h2 hq;have hv:(spl l (i*(Aa t).length) cur)[p*(Aa t).length+j]? = some (if Aq t q (s.drop p)<0 then -1 else Aq t q (s.drop p)-BQ (A8 t (s.drop p))):=by
  have:=W2 (S:=(Aa t).length) h1;rw [Qv hlo (by omega),← n1,← hL.col p h1 h2,JnS hjl,Jnp]
 unfold Gn;rw [Uz (by omega),Jm9];by_cases h0:Aq t q (s.drop p)<0
 ·rw [if_pos h0] at hv;rw [Kk hjl hv,Jm9,if_pos (by simp)];congr 1;omega
 ·rw [if_neg h0] at hv;have:=n2 (by omega);rw [Kk hjl hv,Jm9,if_neg (by simp;omega),BL (hL.lst p h1 h2),Jm9,Jm9,Kk hjl hv,Jm9,E7 (by omega) (by omega)];congr 1;omega
omit hT hs in
theorem YC {l cur:List Int} {lo k:Nat} {v rest cells:Int} (hlo:lo+cur.length<=l.length) (hv:cur[k]? = some v) (hr:-1<=rest/\rest<=100000000) (hc:0<=cells/\cells<=100) (n:Nat) :
  BJ n (k:Int) rest cells (lo,cur.length) (spl l lo cur)=some (if rest<0\/(0<=v/\v<=rest+cells) then (spl l lo cur,false) else (spl l lo (cur.set k (rest+cells)),true)):=by
 have hk:=Aj hv;have hix:ixP (spl l lo cur) (lo,cur.length) (k:Int)=some v:=Kk hk (by rw [FU hlo hk];exact hv);unfold BJ;rw [hix];by_cases h0:rest<0
 ·rw [if_neg (by simp;omega),Jm9,if_neg (by simp;omega),Jm9,if_pos (by simp [h0]),if_pos (.inl h0)]
 ·rw [if_pos (by simp;omega),Jm9];have e:An .i64 rest cells=rest+cells:=E7 (by omega) (by omega);rw [e];by_cases h1:0<=v
  ·rw [if_pos (by simp;omega),Jm9];by_cases h2:v<=rest+cells
   ·rw [if_pos (by simp;omega),if_pos (.inr ⟨h1,h2⟩)]
   ·rw [if_neg (by simp;omega),if_neg (by omega),Jm9,JnH,DV (by rw [I8 hlo];omega),Jm9,ND hlo hk]
  ·rw [if_neg (by simp;omega),Jm9,if_neg (by simp;omega),if_neg (by omega),Jm9,JnH,DV (by rw [I8 hlo];omega),Jm9,ND hlo hk]
theorem JgR {i:Nat} (hi:i<=s.length) {l cur0:List Int} (hc:cur0.length=(Aa t).length) (hlo:i*(Aa t).length+cur0.length<=l.length) (offs:List (Nat×Nat)) (ls:List Int) :
  Tot (λ n=>whl (λ (x:((List Int)×Int))=>Bf n (i:Int) s (B0 t) offs ls (i*(Aa t).length,(Aa t).length) x.1 x.2) n (spl l (i*(Aa t).length) cur0,0)) (λ y=>y=spl l (i*(Aa t).length) ((Aa t).map (Cm t (s.drop i)))):=by
 have hlen:=EL hT;generalize hlo':i*(Aa t).length=lo at *;refine Tot.upto (body:=λ n x=>Bf n (i:Int) s (B0 t) offs ls (lo,(Aa t).length) x.1 x.2) (Aa t).length (λ k x=>x.2=(k:Int)/\∃ cur,x.1=spl l lo cur/\cur.length=(Aa t).length/\∀ (j:Nat) q,j<k->(Aa t)[j]? = some q->cur[j]? = some (Cm t (s.drop i) q)) ?_ ?_ _ ⟨rfl,cur0,rfl,hc,by omega⟩
 ·rintro k ⟨c,k'⟩ hk ⟨e1,cur,e2,e3,e4⟩;simp only at e1 e2;subst e1 e2;have hlc:lo+cur.length<=l.length:=by omega
  have hJ:∀ v,v=Cm t (s.drop i) (Aa t)[k]->∀ c',c'=spl l lo (cur.set k v)->Tot (λ n=>Bv n (k:Int) c') (Rd2 (λ x:List Int×Int=>x.2=((k+1:Nat):Int)/\∃ cur,x.1=spl l lo cur/\cur.length=(Aa t).length/\∀ (j:Nat) q,j<k+1->(Aa t)[j]? = some q->cur[j]? = some (Cm t (s.drop i) q)) (λ y=>y=spl l lo ((Aa t).map (Cm t (s.drop i))))):=by
   intro v hv c' hc';unfold Bv;refine Jm2 ⟨Br (by omega),_,hc',by rw [JnP];exact e3,λ j q hj hq=>?_⟩;by_cases e:k=j
   ·subst e;rw [JnJ (by omega),hv];rw [Jnx hk] at hq;cases hq;rfl
   ·rw [JnO e];exact e4 j q (by omega) hq
  unfold Bf;have hg:(spl l lo cur)[lo+k]? = some cur[k]:=by rw [FU hlc (by omega)];exact Jnx (by omega)
  refine Tot.iteT (by simpa using hk) (Tot.bindC (Kk hk hg) ?_);rw [JnH];refine Tot.bindC (DV (by rw [I8 hlc];omega)) ?_;rw [ND hlc (by omega),Uv hs hi];have hacc:idx (B0 t).Accepts (k:Int)=some (Cy t (Aa t)[k]):=BL (by simp [B0,hk]);by_cases hd:s.drop i=[]
  ·refine Jm5 (decide_eq_true hd) (Ev.all λ n=>hacc) (Tot.ite (λ h=>?_) λ h=>?_)
   ·have ha:Cy t (Aa t)[k]=true:=by simpa [hd] using h
    have hls:lo+(cur.set k (-1)).length<=l.length:=by rw [JnP];exact hlc
    refine Tot.bindC (Kk hk (v:=-1) (by rw [FU hls (by rw [JnP];omega),JnJ (by omega)])) (Tot.bindC (DV (by rw [I8 hls];omega)) (hJ 0 ?_ _ ?_))
    ·unfold Cm;rw [if_pos ⟨hd,ha⟩]
    ·rw [ND hls (by rw [JnP];omega),List.set_set]
   ·have ha:Cy t (Aa t)[k]=false:=by simpa [hd] using h
    refine hJ (-1) ?_ _ rfl;unfold Cm;rw [if_neg (by rw [ha];simp)]
  ·refine Jm6 (decide_eq_false hd) (Tot.iteF (by simp [hd]) (hJ (-1) ?_ _ rfl));unfold Cm;rw [if_neg (λ h=>hd h.1)]
 ·rintro ⟨c,k'⟩ ⟨e1,cur,e2,e3,e4⟩;simp only at e1 e2;subst e1 e2;unfold Bf;refine Tot.iteF (by simp) (Jm2 ?_);refine congrArg (spl l lo) (Jnm λ j=>?_);rcases Jnk j (Aa t).length with h|h
  ·rw [e4 j _ h (Jnx h),JnB,Jnx h];rfl
  ·rw [JnT (by omega),JnT (by simpa using h)]
end
end Go.AI
end
section
namespace Go.AI
structure W3 (t:Ad) (x:List UInt8) (D B:Nat) (cur0 cur:List Int) (ch:Bool) (k a:Nat):Prop where
 col:Col t x D (Aa t) cur
 all:∀ (j:Nat) q,(Aa t)[j]? = some q->∀ g∈Bk t q,A1 t x cur j g
 same:ch=false->cur=cur0/\(∀ (j:Nat) q,j<k->(Aa t)[j]? = some q->∀ g∈Bk t q,A2 cur0 j g)/\∀ q,(Aa t)[k]? = some q->∀ g∈(Bk t q).take a,A2 cur0 k g
 less:ch=true->phi B cur<phi B cur0
section
variable {t:Ad} (hT:GG t) {s:List UInt8} (hs:s.length<=4000)
include hT hs
omit hs in
theorem YD {q:Ab} (hq:q∈Aa t) {g:ON} (hg:g∈Bk t q):∃ (k m:Nat),(Au t q k).2=true/\g=⟨prt t k,((cls t k).length:Nat),(m:Nat)⟩/\(Aa t)[m]? = some (Au t q k).1/\(prt t k).length<=3/\1<=(cls t k).length/\(cls t k).length<=4:=by
 obtain ⟨k,hk,hst,rfl⟩:=Rx.1 hg;obtain ⟨m,hm,hmg⟩:=BZ (Dt hT hq hst);exact ⟨k,m,hst,by rw [hm],hmg,hT.pr hst⟩
theorem JgS {i:Nat} (hi:i<=s.length) {l ls cur1:List Int} (hL:Lat t s i l ls) {k:Nat} {q:Ab} (hq:(Aa t)[k]? = some q) (h1:Col t (s.drop i) (3072*(s.length-i)) (Aa t) cur1) (gr:AP) :
  Tot (λ n=>whl (λ (x:((List Int)×Int))=>Bg n (i:Int) s gr (Ib (Aa t).length (s.length+1)) ls (i*(Aa t).length,(Aa t).length) (k:Int) (Bk t q) x.1 x.2) n (spl l (i*(Aa t).length) cur1,0))
   (λ y=>∃ cur,y=spl l (i*(Aa t).length) cur/\Col t (s.drop i) (3072*(s.length-i)) (Aa t) cur/\Low cur1 cur/\∀ g∈Bk t q,A1 t (s.drop i) cur k g):=by
 have hlen:=EL hT;have hrl:=hT.tab.1;have hgl:=VK t q;have hkl:=Aj hq;have hlo0:i*(Aa t).length+(Aa t).length<=l.length:=by rw [hL.len];exact JZ (by omega)
 refine Tot.upto (body:=λ n x=>Bg n (i:Int) s gr (Ib (Aa t).length (s.length+1)) ls (i*(Aa t).length,(Aa t).length) (k:Int) (Bk t q) x.1 x.2) (Bk t q).length (λ a x=>x.2=(a:Int)/\∃ cur,x.1=spl l (i*(Aa t).length) cur/\Col t (s.drop i) (3072*(s.length-i)) (Aa t) cur/\Low cur1 cur/\∀ g∈(Bk t q).take a,A1 t (s.drop i) cur k g) ?_ ?_ _ ⟨rfl,cur1,rfl,h1,.refl _,by simp⟩
 ·rintro a ⟨c,a'⟩ ha ⟨e1,cur,e2,hC,hlw,hA⟩;simp only at e1 e2;subst e1 e2;have hcl:=hC.len;have hlo:i*(Aa t).length+cur.length<=l.length:=by omega
  obtain ⟨r,m,hst,hge,hm,p1,p2,p3⟩:=YD hT (Jnz hq) (Jnf ha);obtain ⟨v,hv⟩:=hC.get hkl;have hJ:∀ cur',Col t (s.drop i) (3072*(s.length-i)) (Aa t) cur'->Low cur cur'->A1 t (s.drop i) cur' k (Bk t q)[a]->Tot (λ n=>Bw n (a:Int) (spl l (i*(Aa t).length) cur')) (Rd2 (λ x:List Int×Int=>x.2=((a+1:Nat):Int)/\∃ cur,x.1=spl l (i*(Aa t).length) cur/\Col t (s.drop i) (3072*(s.length-i)) (Aa t) cur/\Low cur1 cur/\∀ g∈(Bk t q).take (a+1),A1 t (s.drop i) cur k g) (λ y=>∃ cur,y=spl l (i*(Aa t).length) cur/\Col t (s.drop i) (3072*(s.length-i)) (Aa t) cur/\Low cur1 cur/\∀ g∈Bk t q,A1 t (s.drop i) cur k g)):=by
   intro cur' hC' hl' hA';unfold Bw;refine Jm2 ⟨Br (by omega),cur',rfl,hC',λ j w hw h0=>?_,λ g hg=>?_⟩
   ·obtain ⟨w1,g1,g2,g3⟩:=hlw j w hw h0;obtain ⟨w2,g4,g5,g6⟩:=hl' j w1 g1 g2;exact ⟨w2,g4,g5,by omega⟩
   ·rw [List.take_add_one,Jnx ha,List.mem_append] at hg;rcases hg with hg|hg
    ·exact (hA g hg).low hl'
    ·simp at hg;subst hg;exact hA'
  unfold Bg;refine Tot.iteT (Du ha) (Tot.bindC (Em ha) ?_);rw [hge] at hJ ⊢;simp only;by_cases hp:prt t r=[]
  ·refine Jm6 (by simp [hp]) (Jm6 (by simp [hp]) (Tot.iteF (by simp [hp]) (hJ cur hC (.refl _) λ h=>absurd hp h)))
  ·have hpl:0<(prt t r).length:=List.length_pos_iff.2 hp;refine Jm5 (x:=s.drop i) (by simp [hp]) (Ev.all λ n=>?_) (Jm5 (x:=(prt t r).isPrefixOf (s.drop i)) (by simp [hp]) (Ev.all λ n=>?_) (Tot.ite (λ h=>?_) λ h=>?_))
   ·rw [VC (by omega) (by omega) (by omega)];simp
   ·unfold DN Ey;by_cases hle:(prt t r).length<=(s.drop i).length
    ·have hd:decide (((List.length (s.drop i):Nat):Int)>=((List.length (prt t r):Nat):Int))=true:=by simp only [ge_iff_le,decide_eq_true_eq];omega
     rw [if_pos hd,L3 (by omega),Jm9,hd,Bool.true_and,Jm9];congr 1;rw [Bool.eq_iff_iff,beq_iff_eq,Jnj];constructor
     ·intro h2;have:=List.take_prefix (prt t r).length (s.drop i);rw [h2] at this;exact this
     ·intro h2;exact (List.prefix_iff_eq_take.1 h2).symm
    ·have hd:decide (((List.length (s.drop i):Nat):Int)>=((List.length (prt t r):Nat):Int))=false:=by simp only [ge_iff_le,decide_eq_false_iff_not];omega
     rw [if_neg (by rw [hd];simp),Jm9,hd,Bool.false_and,Jm9];congr 1;rw [eq_comm,← Jnh,Jnj];intro hp';exact hle hp'.length_le
   ·have hb:(prt t r).isPrefixOf (s.drop i)=true:=by simpa [hp] using h
    obtain ⟨q1,q2⟩:=CG hb;have q2:=q2 hi;rw [E7 (by omega) (by omega)];have ep:(i:Int)+((List.length (prt t r):Nat):Int)=((i+(prt t r).length:Nat):Int):=by omega
    rw [ep];have hrg:=YB hT hs q2 hm;refine Jm4 (λ n=>ZH hT hs hL hcl hi (by omega) q2 hm s n) ?_;have hlq:=λ n=>YC (l:=l) (cur:=cur) (lo:=i*(Aa t).length) (k:=k) (v:=v) (rest:=Aq t (Au t q r).1 (s.drop (i+(prt t r).length))) (cells:=((cls t r).length:Nat)) hlo hv (by omega) (by omega) n;rw [hcl] at hlq;refine Jm4 hlq ?_;have hy:∀ y,s.drop i=prt t r++y->y=s.drop (i+(prt t r).length):=λ y hy=>by
     rw [q1] at hy;exact (List.append_cancel_left hy).symm
    by_cases hc:Aq t (Au t q r).1 (s.drop (i+(prt t r).length))<0\/(0<=v/\v<=Aq t (Au t q r).1 (s.drop (i+(prt t r).length))+((cls t r).length:Nat))
    ·rw [if_pos hc];refine hJ cur hC (.refl _) λ _ y hyy q' hq' h0=>?_;simp only [JnH] at hq' hyy ⊢;rw [hm] at hq';cases hq';rw [hy y hyy] at h0 ⊢;exact ⟨v,hv,by omega,by omega⟩
    ·rw [if_neg hc];have hfin:=Qp cur;have hbd:Aq t (Au t q r).1 (s.drop (i+(prt t r).length))<=((3072*(s.length-i):Nat):Int):=by
      have:3072*(s.length-(i+(prt t r).length)+1)<=3072*(s.length-i):=by omega
      omega
     have hlow:=hC.lower (c:=Aq t (Au t q r).1 (s.drop (i+(prt t r).length))+((cls t r).length:Nat)) hq hv (by
      have:=K4 hst (ED (t:=t) (q:=(Au t q r).1) (x:=s.drop (i+(prt t r).length)) (by omega));rwa [← q1] at this) (by omega) (by omega) (B:=20000000) (by omega)
     refine hJ _ hlow.1 (.set hv (by omega) (by omega)) λ _ y hyy q' hq' h0=>?_;simp only [JnH] at hq' hyy ⊢;rw [hm] at hq';cases hq';rw [hy y hyy];exact ⟨_,JnJ (by omega),by omega,by omega⟩
   ·have hb:(prt t r).isPrefixOf (s.drop i)=false:=by simpa [hp] using h
    refine hJ cur hC (.refl _) λ _ y hyy=>?_;simp only at hyy;rw [hyy] at hb;rw [← Jnh,Jnj] at hb;exact absurd (List.prefix_append _ _) hb
 ·rintro ⟨c,a'⟩ ⟨e1,cur,e2,hC,hlw,hA⟩;simp only at e1 e2;subst e1 e2;rw [List.take_length] at hA;unfold Bg;exact Tot.iteF (by simp) (Jm2 ⟨cur,rfl,hC,hlw,hA⟩)
theorem JgT {i:Nat} (hi:i<=s.length) {l ls cur1:List Int} (hL:Lat t s i l ls) (h1:Col t (s.drop i) (3072*(s.length-i)) (Aa t) cur1) :
  Tot (λ n=>whl (λ (x:((List Int)×Int))=>Bh n (i:Int) s (B0 t) (Ib (Aa t).length (s.length+1)) ls (i*(Aa t).length,(Aa t).length) x.1 x.2) n (spl l (i*(Aa t).length) cur1,0))
   (λ y=>∃ cur,y=spl l (i*(Aa t).length) cur/\Col t (s.drop i) (3072*(s.length-i)) (Aa t) cur/\∀ (j:Nat) q,(Aa t)[j]? = some q->∀ g∈Bk t q,A1 t (s.drop i) cur j g):=by
 have hlen:=EL hT;have hgl:(B0 t).Arcs.length=(Aa t).length:=by simp [B0]
 refine Tot.upto (body:=λ n x=>Bh n (i:Int) s (B0 t) (Ib (Aa t).length (s.length+1)) ls (i*(Aa t).length,(Aa t).length) x.1 x.2) (Aa t).length (λ k x=>x.2=(k:Int)/\∃ cur,x.1=spl l (i*(Aa t).length) cur/\Col t (s.drop i) (3072*(s.length-i)) (Aa t) cur/\∀ (j:Nat) q,j<k->(Aa t)[j]? = some q->∀ g∈Bk t q,A1 t (s.drop i) cur j g) ?_ ?_ _ ⟨rfl,cur1,rfl,h1,by omega⟩
 ·rintro k ⟨c,k'⟩ hk ⟨e1,cur,e2,hC,hA⟩;simp only at e1 e2;subst e1 e2;have hq:(Aa t)[k]? = some (Aa t)[k]:=Jnx hk;unfold Bh;have hix:idx (B0 t).Arcs (k:Int)=some (Bk t (Aa t)[k]):=BL (by simp [B0,hk]);refine Tot.iteT (by rw [hgl];exact Du hk) (Tot.bindC hix (Tot.bind (JgS hT hs hi hL hq hC (B0 t)) ?_));rintro _ ⟨cur',rfl,hC',hlw,hA'⟩;refine Jm2 ⟨Br (by omega),cur',rfl,hC',λ j q hj hjq g hg=>?_⟩;by_cases e:k=j
  ·subst e;rw [hq] at hjq;cases hjq;exact hA' g hg
  ·exact (hA j q (by omega) hjq g hg).low hlw
 ·rintro ⟨c,k'⟩ ⟨e1,cur,e2,hC,hA⟩;simp only at e1 e2;subst e1 e2;unfold Bh;exact Tot.iteF (by rw [hgl];simp) (Jm2 ⟨cur,rfl,hC,λ j q hq=>hA j q (Aj hq) hq⟩)
end
end Go.AI
end
section
namespace Go.AI
section
variable {t:Ad} (hT:GG t) {s:List UInt8} (hs:s.length<=4000)
include hT hs
theorem JgU {i lo:Nat} {l:List Int} (hlo0:lo+(Aa t).length<=l.length) {cur0 cur1:List Int} {ch1:Bool} {k:Nat} {q:Ab} (hq:(Aa t)[k]? = some q) (h1:W3 t (s.drop i) (3072*(s.length-i)) 20000000 cur0 cur1 ch1 k 0) (x0:List UInt8) (gr:AP) (offs:List (Nat×Nat)) (ls:List Int) :
  Tot (λ n=>whl (λ (x:((List Int)×Bool×Int))=>Bi n x0 gr offs ls (lo,(Aa t).length) (k:Int) (Bk t q) x.1 x.2.1 x.2.2) n (spl l lo cur1,ch1,0))
   (λ y=>∃ cur,y.1=spl l lo cur/\W3 t (s.drop i) (3072*(s.length-i)) 20000000 cur0 cur y.2 k (Bk t q).length):=by
 have hlen:=EL hT;have hrl:=hT.tab.1;have hgl:=VK t q;have hkl:=Aj hq;refine Tot.upto (body:=λ n x=>Bi n x0 gr offs ls (lo,(Aa t).length) (k:Int) (Bk t q) x.1 x.2.1 x.2.2) (Bk t q).length (λ a x=>x.2.2=(a:Int)/\∃ cur,x.1=spl l lo cur/\W3 t (s.drop i) (3072*(s.length-i)) 20000000 cur0 cur x.2.1 k a) ?_ ?_ _ ⟨rfl,cur1,rfl,h1⟩
 ·rintro a ⟨c,ch,a'⟩ ha ⟨e1,cur,e2,hP⟩;simp only at e1 e2 hP;subst e1 e2;have hC:=hP.col;have hcl:=hC.len;have hlo:lo+cur.length<=l.length:=by omega
  obtain ⟨r,m,hst,hge,hm,p1,p2,p3⟩:=YD hT (Jnz hq) (Jnf ha);obtain ⟨v,hv⟩:=hC.get hkl;have hml:=Aj hm;obtain ⟨w,hw⟩:=hC.get hml;have hJ:∀ cur' ch',W3 t (s.drop i) (3072*(s.length-i)) 20000000 cur0 cur' ch' k (a+1)->Tot (λ n=>A9 n (a:Int) (spl l lo cur') ch') (Rd2 (λ x:List Int×Bool×Int=>x.2.2=((a+1:Nat):Int)/\∃ cur,x.1=spl l lo cur/\W3 t (s.drop i) (3072*(s.length-i)) 20000000 cur0 cur x.2.1 k (a+1)) (λ y=>∃ cur,y.1=spl l lo cur/\W3 t (s.drop i) (3072*(s.length-i)) 20000000 cur0 cur y.2 k (Bk t q).length)):=by
   intro cur' ch' h;unfold A9;exact Jm2 ⟨Br (by omega),cur',rfl,h⟩
  have hskip:A2 cur k (Bk t q)[a]->W3 t (s.drop i) (3072*(s.length-i)) 20000000 cur0 cur ch k (a+1):=by
   intro hA;refine ⟨hC,hP.all,λ hc=>?_,hP.less⟩;obtain ⟨g1,g2,g3⟩:=hP.same hc;refine ⟨g1,g2,λ q' hq' g hg=>?_⟩;rw [hq] at hq';cases hq';rw [List.take_add_one,Jnx ha,List.mem_append] at hg;rcases hg with hg|hg
   ·exact g3 q hq g hg
   ·simp at hg;subst hg;rw [← g1];exact hA
  unfold Bi;refine Tot.iteT (Du ha) (Tot.bindC (Em ha) ?_);rw [hge] at hskip ⊢;simp only;by_cases hp:prt t r=[]
  ·have hpd:(prt t r==[])=true:=by simp [hp]
   have hix:ixP (spl l lo cur) (lo,(Aa t).length) (m:Int)=some w:=Kk hml (by rw [FU hlo (by omega)];exact hw);refine Jm5 hpd (Ev.all λ n=>hix) (Tot.iteT hpd ?_);have hwt:=hC.top hw;have hlq:=λ n=>YC (l:=l) (cur:=cur) (lo:=lo) (k:=k) (v:=v) (rest:=w) (cells:=((cls t r).length:Nat)) hlo hv (by omega) (by omega) n;rw [hcl] at hlq;refine Jm4 hlq ?_;by_cases hc:w<0\/(0<=v/\v<=w+((cls t r).length:Nat))
   ·rw [if_pos hc];refine Tot.iteF (by simp) (hJ cur ch (hskip λ _ w' hw' h0=>?_));simp only [JnH] at hw' ⊢;rw [hw] at hw';cases hw';exact ⟨v,hv,by omega,by omega⟩
   ·rw [if_neg hc];refine Tot.iteT (by simp [hp]) ?_;obtain ⟨v',hv',hd⟩:=hC.ach m _ hm;rw [hw] at hv';cases hv';have hbn:=hC.bnd m w hw;have hfin:=Qp cur;have hlow:=hC.lower (c:=w+((cls t r).length:Nat)) hq hv (by
     have:=K4 hst (hd.resolve_left (by omega));rwa [hp,List.nil_append] at this) (by omega) (by omega) (B:=20000000) (by omega)
    refine hJ _ _ ⟨hlow.1,λ j q' hj g hg=>(hP.all j q' hj g hg).low (.set hv (by omega) (by omega)),(λ h=>by cases h),λ _=>?_⟩;cases hch:ch with
    | false=>rw [← (hP.same hch).1];exact hlow.2
    | true=>have:=hP.less hch;have:=hlow.2;omega
  ·have hpd:(prt t r==[])=false:=by simp [hp]
   refine Jm6 hpd (Tot.iteF hpd (Tot.iteF (by simp) (hJ cur ch (hskip λ h=>absurd h hp))))
 ·rintro ⟨c,ch,a'⟩ ⟨e1,cur,e2,hP⟩;simp only at e1 e2 hP;subst e1 e2;unfold Bi;exact Tot.iteF (by simp) (Jm2 ⟨cur,rfl,hP⟩)
theorem JgV {i lo:Nat} {l:List Int} (hlo0:lo+(Aa t).length<=l.length) {cur0:List Int} (h1:Col t (s.drop i) (3072*(s.length-i)) (Aa t) cur0) (h2:∀ (j:Nat) q,(Aa t)[j]? = some q->∀ g∈Bk t q,A1 t (s.drop i) cur0 j g) (x0:List UInt8) (offs:List (Nat×Nat)) (ls:List Int) :
  Tot (λ n=>whl (λ (x:((List Int)×Bool×Int))=>Bj n x0 (B0 t) offs ls (lo,(Aa t).length) x.1 x.2.1 x.2.2) n (spl l lo cur0,false,0))
   (λ y=>∃ cur,y.1=spl l lo cur/\W3 t (s.drop i) (3072*(s.length-i)) 20000000 cur0 cur y.2 (Aa t).length 0):=by
 have hlen:=EL hT;have hgl:(B0 t).Arcs.length=(Aa t).length:=by simp [B0]
 refine Tot.upto (body:=λ n x=>Bj n x0 (B0 t) offs ls (lo,(Aa t).length) x.1 x.2.1 x.2.2) (Aa t).length (λ k x=>x.2.2=(k:Int)/\∃ cur,x.1=spl l lo cur/\W3 t (s.drop i) (3072*(s.length-i)) 20000000 cur0 cur x.2.1 k 0) ?_ ?_ _ ⟨rfl,cur0,rfl,h1,h2,λ _=>⟨rfl,by omega,by simp⟩,λ h=>by cases h⟩
 ·rintro k ⟨c,ch,k'⟩ hk ⟨e1,cur,e2,hP⟩;simp only at e1 e2 hP;subst e1 e2;have hq:(Aa t)[k]? = some (Aa t)[k]:=Jnx hk;unfold Bj;have hix:idx (B0 t).Arcs (k:Int)=some (Bk t (Aa t)[k]):=BL (by simp [B0,hk]);refine Tot.iteT (by rw [hgl];exact Du hk) (Tot.bindC hix (Tot.bind (JgU hT hs hlo0 hq hP x0 (B0 t) offs ls) ?_));rintro ⟨_,ch'⟩ ⟨cur',rfl,hP'⟩;refine Jm2 ⟨Br (by omega),cur',rfl,hP'.col,hP'.all,λ hc=>?_,hP'.less⟩;obtain ⟨g1,g2,g3⟩:=hP'.same hc;refine ⟨g1,λ j q hj hjq g hg=>?_,by simp⟩;by_cases e:k=j
  ·subst e;rw [hq] at hjq;cases hjq;exact g3 _ hq g (by rw [List.take_length];exact hg)
  ·exact g2 j q (by omega) hjq g hg
 ·rintro ⟨c,ch,k'⟩ ⟨e1,cur,e2,hP⟩;simp only at e1 e2 hP;subst e1 e2;unfold Bj;exact Tot.iteF (by rw [hgl];simp) (Jm2 ⟨cur,rfl,hP⟩)
theorem JgW {i lo:Nat} {l:List Int} (hlo0:lo+(Aa t).length<=l.length) {cur0:List Int} (h1:Col t (s.drop i) (3072*(s.length-i)) (Aa t) cur0) (h2:∀ (j:Nat) q,(Aa t)[j]? = some q->∀ g∈Bk t q,A1 t (s.drop i) cur0 j g) (x0:List UInt8) (offs:List (Nat×Nat)) (ls:List Int) :
  Tot (λ n=>whl (λ (x:((List Int)×Bool))=>Bx n x0 (B0 t) offs ls (lo,(Aa t).length) x.1 x.2) n (spl l lo cur0,true))
   (λ y=>y=spl l lo (A8 t (s.drop i))):=by
 refine Tot.whl (body:=λ n x=>Bx n x0 (B0 t) offs ls (lo,(Aa t).length) x.1 x.2) (λ m x=>∃ cur,x.1=spl l lo cur/\Col t (s.drop i) (3072*(s.length-i)) (Aa t) cur/\(∀ (j:Nat) q,(Aa t)[j]? = some q->∀ g∈Bk t q,A1 t (s.drop i) cur j g)/\((x.2=true/\m=phi 20000000 cur+1)\/(x.2=false/\m=0/\∀ (j:Nat) q,(Aa t)[j]? = some q->∀ g∈Bk t q,A2 cur j g))) ?_ (phi 20000000 cur0+1) (spl l lo cur0,true) ⟨cur0,rfl,h1,h2,.inl ⟨rfl,rfl⟩⟩;rintro m ⟨c,ch⟩ ⟨cur,e2,hC,hA,hm⟩;simp only at e2 hm;subst e2;unfold Bx;rcases hm with ⟨rfl,rfl⟩|⟨rfl,rfl,hR⟩
 ·refine Tot.iteT rfl (Tot.bind (JgV hT hs hlo0 hC hA x0 offs ls) ?_);rintro ⟨_,ch'⟩ ⟨cur',rfl,hP⟩;simp only at hP;cases ch' with
  | false=>
   obtain ⟨g1,g2,_⟩:=hP.same rfl;subst g1;exact Jm2 ⟨0,by omega,cur',rfl,hC,hA,.inr ⟨rfl,rfl,λ j q hq=>g2 j q (Aj hq) hq⟩⟩
  | true=>
   have:=hP.less rfl;exact Jm2 ⟨phi 20000000 cur'+1,by omega,cur',rfl,hP.col,hP.all,.inl ⟨rfl,rfl⟩⟩
 ·refine Tot.iteF rfl (Jm2 ?_);show spl l lo cur=spl l lo (A8 t (s.drop i));congr 1;refine Jnm λ j=>?_;rcases Jnk j (Aa t).length with hj|hj
  ·have hq:(Aa t)[j]? = some (Aa t)[j]:=Jnx hj;rw [hC.exact (Qq hT) ⟨λ j q k hjq hst hp y hy hc=>?_⟩ ⟨λ j q k hjq hst hp=>?_⟩ hq]
   ·unfold A8;rw [JnB,hq];rfl
   ·have hk:=Cq hst;obtain ⟨m,hm,hmg⟩:=BZ (Dt hT (Jnz hjq) hst);have:=hA j q hjq _ (Rx.2 ⟨k,by omega,hst,rfl⟩) hp y hy (Au t q k).1 (by rw [hm];simpa using hmg) hc;simpa using this
   ·have hk:=Cq hst;obtain ⟨m,hm,hmg⟩:=BZ (Dt hT (Jnz hjq) hst);obtain ⟨w,hw⟩:=hC.get (Aj hmg);refine ⟨m,w,hmg,hw,λ h0=>?_⟩;exact hR j q hjq _ (Rx.2 ⟨k,by omega,hst,rfl⟩) hp w (by rw [hm];simpa using hw) h0
  ·rw [JnT (by rw [hC.len];exact hj),JnT (by simp [A8];exact hj)]
omit hT hs in
theorem JgX {l cur:List Int} {lo:Nat} (hlo:lo+cur.length<=l.length) (hl:cur.length<1000000):Tot (λ n=>whl (λ (x:(Int×Int))=>Di n (lo,cur.length) (spl l lo cur) x.1 x.2) n (-1,0)) (λ y=>y=BQ cur):=by
 refine Tot.upto (body:=λ n x=>Di n (lo,cur.length) (spl l lo cur) x.1 x.2) cur.length (λ k x=>x.2=(k:Int)/\x.1=(cur.take k).foldl Gf (-1)) ?_ ?_ _ ⟨rfl,rfl⟩
 ·rintro k ⟨a,k'⟩ hk ⟨e1,e2⟩;simp only at e1 e2;subst e1;have hJ:∀ b,b=Gf a cur[k]->Tot (λ n=>DO n (k:Int) b) (Rd2 (λ x:Int×Int=>x.2=((k+1:Nat):Int)/\x.1=(cur.take (k+1)).foldl Gf (-1)) (λ y=>y=BQ cur)):=by
   intro b hb;unfold DO;exact Jm2 ⟨Br (by omega),by rw [VJ hk,← e2];exact hb⟩
  unfold Di;refine Tot.iteT (Du hk) (Tot.bindC (Kk hk (v:=cur[k]) (by rw [FU hlo hk];exact Jnx hk)) (Tot.ite (λ h=>hJ _ ?_) λ h=>hJ _ ?_))
  ·simp only [Jny,JnR,decide_eq_true_eq] at h;unfold Gf;rw [if_pos ⟨h.1,h.2⟩]
  ·unfold Gf;rw [if_neg];intro hc;rw [← Jnh] at h;refine h ?_;simp only [Jny,JnR,decide_eq_true_eq];exact ⟨hc.1,hc.2⟩
 ·rintro ⟨a,k'⟩ ⟨e1,e2⟩;simp only at e1 e2;subst e1;rw [List.take_length] at e2;unfold Di;exact Tot.iteF (by simp) (Jm2 e2)
omit hT hs in
theorem JgY {l cur:List Int} {lo:Nat} (hlo:lo+cur.length<=l.length) (hl:cur.length<1000000) (hb:∀ v∈cur,-1<=v/\v<=13000000):Tot (λ n=>whl (λ (x:((List Int)×Int))=>Dj n (lo,cur.length) (BQ cur) x.1 x.2) n (spl l lo cur,0)) (λ y=>y=spl l lo (Dh cur)):=by
 have hlr:=Rw (by decide) hb;refine Tot.upto (body:=λ n x=>Dj n (lo,cur.length) (BQ cur) x.1 x.2) cur.length (λ k x=>x.2=(k:Int)/\x.1=spl l lo ((Dh cur).take k++cur.drop k)) ?_ ?_ _ ⟨rfl,by simp⟩
 ·rintro k ⟨c,k'⟩ hk ⟨e1,e2⟩;simp only at e1 e2;subst e1 e2;have hnl:(Dh cur).length=cur.length:=by simp [Dh]
  have hml:((Dh cur).take k++cur.drop k).length=cur.length:=by simp;omega
  have hlm:lo+((Dh cur).take k++cur.drop k).length<=l.length:=by omega
  have htk:((Dh cur).take k).length=k:=by simp;omega
  have hg:((Dh cur).take k++cur.drop k)[k]? = some cur[k]:=by
   rw [JnQ (by omega),htk,Jnp,Nat.sub_self,Nat.add_zero];exact Jnx hk
  have hbk:=hb _ (Jnf hk);have hn:(Dh cur)[k]? = some (if cur[k]<0 then -1 else cur[k]-BQ cur):=by rw [Dh,JnB,Jnx hk];rfl
  have hset:∀ v,(Dh cur)[k]? = some v->((Dh cur).take k++cur.drop k).set k v=(Dh cur).take (k+1)++cur.drop (k+1):=by
   intro v hv;refine Jnm λ j=>?_;by_cases e:k=j
   ·subst e;rw [JnJ (by omega),JnF (by simp;omega),JnS (by omega),hv]
   ·rw [JnO e];by_cases hj:j<k
    ·rw [JnF (by omega),JnF (by simp;omega),JnS hj,JnS (by omega)]
    ·have:((Dh cur).take (k+1)).length=k+1:=by simp;omega
     rw [JnQ (by omega),JnQ (by omega),Jnp,Jnp];congr 1;omega
  have hJ:∀ c',c'=spl l lo ((Dh cur).take (k+1)++cur.drop (k+1))->Tot (λ n=>DP n (k:Int) c') (Rd2 (λ x:List Int×Int=>x.2=((k+1:Nat):Int)/\x.1=spl l lo ((Dh cur).take (k+1)++cur.drop (k+1))) (λ y=>y=spl l lo (Dh cur))):=by
   intro c' hc';unfold DP;exact Jm2 ⟨Br (by omega),hc'⟩
  have hix:ixP (spl l lo ((Dh cur).take k++cur.drop k)) (lo,cur.length) (k:Int)=some cur[k]:=Kk hk (by rw [FU hlm (by omega)];exact hg);unfold Dj;refine Tot.iteT (Du hk) (Tot.bindC hix (Tot.ite (λ h=>?_) λ h=>hJ _ ?_))
  ·have h0:0<=cur[k]:=by simpa using h
   have hle:=Rv (Jnf hk) h0;refine Tot.bindC hix ?_;rw [JnH];refine Tot.bindC (DV (by rw [I8 hlm];omega)) (hJ _ ?_);rw [ND hlm (by omega),K0 (by omega) (by omega),hset _ (by rw [hn,if_neg (by omega)])]
  ·have h0:cur[k]<0:=by simpa using h
   rw [← hset (-1) (by rw [hn,if_pos h0])];refine congrArg (spl l lo) ?_;refine Jnm λ j=>?_;by_cases e:k=j
   ·subst e;rw [JnJ (by omega),hg];congr 1;omega
   ·rw [JnO e]
 ·rintro ⟨c,k'⟩ ⟨e1,e2⟩;simp only at e1 e2;subst e1 e2;unfold Dj;refine Tot.iteF (by simp) (Jm2 ?_);show spl l lo _=_;rw [List.drop_length,List.append_nil,List.take_of_length_le (by simp [Dh])]
theorem Jfe {i:Nat} (hi:i<=s.length) {l ls:List Int} (hL:Lat t s i l ls) :
  Ev (λ n=>B3 n (i:Int) s (B0 t) (Ib (Aa t).length (s.length+1)) ls l) (spl l (i*(Aa t).length) (Dh (A8 t (s.drop i))),BQ (A8 t (s.drop i))):=by
 have hlen:=EL hT;have hlo0:i*(Aa t).length+(Aa t).length<=l.length:=by rw [hL.len];exact JZ (by omega)
 have hr:=SK hT hs hi;refine Tot.ev ?_;unfold B3;refine Tot.bindC (Uz (by omega)) ?_;have hcut:=Jfd hlo0;have hcl:((l.drop (i*(Aa t).length)).take (Aa t).length).length=(Aa t).length:=by simp;omega
 have h1:=JgR hT hs hi (l:=l) (cur0:=(l.drop (i*(Aa t).length)).take (Aa t).length) hcl (by omega) (Ib (Aa t).length (s.length+1)) ls;rw [hcut] at h1;refine Tot.bind h1 ?_;rintro _ rfl;refine Tot.bind (JgT hT hs hi hL (Rs t _ _ _)) ?_;rintro _ ⟨cur,rfl,hC,hA⟩;refine Tot.bind (JgW hT hs hlo0 hC hA s _ ls) ?_;rintro _ rfl;refine Tot.bind (R:=λ y=>y=(spl l (i*(Aa t).length) (Dh (A8 t (s.drop i))),BQ (A8 t (s.drop i)))) ?_ (λ y hy=>by subst hy;exact Jm2 rfl);have hlr:i*(Aa t).length+(A8 t (s.drop i)).length<=l.length:=by omega
 have r1:=JgX hlr (by omega);have r2:=JgY hlr (by omega) (λ v hv=>WZ hT hs hi hv);rw [hr.1] at r1 r2;unfold IP;refine Tot.bind r1 ?_;rintro _ rfl;refine Tot.bind r2 ?_;rintro _ rfl;exact Jm2 rfl
end
end Go.AI
end
section
namespace Go.AI
structure CJ (t:Ad) (s:List UInt8) (P:Nat->Prop) (l ls:List Int):Prop where
 len:l.length=(Aa t).length*(s.length+1)
 ll:ls.length=s.length+1
 col:∀ p,P p->p<=s.length->(l.drop (p*(Aa t).length)).take (Aa t).length=Dh (A8 t (s.drop p))
 lst:∀ p,P p->p<=s.length->ls[p]? = some (BQ (A8 t (s.drop p)))
theorem CJ.mono {t:Ad} {s:List UInt8} {P R:Nat->Prop} {l ls:List Int} (h:CJ t s P l ls) (hr:∀ p,p<=s.length->R p->P p):CJ t s R l ls:=⟨h.len,h.ll,λ p hp hl=>h.col p (hr p hl hp) hl,λ p hp hl=>h.lst p (hr p hl hp) hl⟩
theorem CJ.lat {t:Ad} {s:List UInt8} {i:Nat} {P:Nat->Prop} {l ls:List Int} (h:CJ t s P l ls) (hr:∀ p,p<=s.length->i<p->P p):Lat t s i l ls:=⟨h.len,h.ll,λ p h1 h2=>h.col p (hr p h2 h1) h2,λ p h1 h2=>h.lst p (hr p h2 h1) h2⟩
section
variable {t:Ad} (hT:GG t) {s:List UInt8} (hs:s.length<=4000)
theorem NO (t:Ad) (x:List UInt8):(Dh (A8 t x)).length=(Aa t).length:=by simp [Dh,A8]
theorem CJ.set {P:Nat->Prop} {l ls:List Int} (h:CJ t s P l ls) {i:Nat} (hi:i<=s.length):CJ t s (λ p=>P p\/p=i) (spl l (i*(Aa t).length) (Dh (A8 t (s.drop i)))) (ls.set i (BQ (A8 t (s.drop i)))):=by
 have hnl:=NO t (s.drop i);have hlo0:i*(Aa t).length+(Dh (A8 t (s.drop i))).length<=l.length:=by rw [h.len,hnl];exact JZ (by omega)
 have hll:=h.ll;refine ⟨by rw [I8 hlo0];exact h.len,by rw [JnP];exact h.ll,λ p h1 h2=>?_,λ p h1 h2=>?_⟩
 ·by_cases e:p=i
  ·subst e;have:=JbL hlo0;rwa [hnl] at this
  ·rw [ZG hlo0]
   ·exact h.col p (h1.resolve_right e) h2
   ·rw [hnl];rcases Nat.lt_or_gt_of_ne e with e|e
    ·exact .inl (W2 e)
    ·exact .inr (W2 e)
 ·by_cases e:i=p
  ·subst e;exact JnJ (by omega)
  ·rw [JnO e];exact h.lst p (h1.resolve_right λ h=>e h.symm) h2
theorem CJ.memo {P:Nat->Prop} {l ls:List Int} (h:CJ t s P l ls) (hp:∀ p,p<=s.length->P p):Ja0 l (Ib (Aa t).length (s.length+1))=some ()/\(⟨s,QL l (Ib (Aa t).length (s.length+1)),ls⟩:A5)=CU t s:=by
 constructor
 ·unfold Ja0 Bu;rw [if_pos];rw [Jnd];intro x hx;simp only [Ib,Jno,List.mem_range] at hx;obtain ⟨i,hi,rfl⟩:=hx;rw [decide_eq_true_eq,h.len];exact JZ hi
 ·unfold CU QL Ib;rw [List.map_map];congr 1
  ·refine Jnv λ i hi=>?_;have:=List.mem_range.1 hi;exact h.col i (hp i (by omega)) (by omega)
  ·refine Jnm λ j=>?_;rw [JnB];rcases Jnk j (s.length+1) with hj|hj
   ·rw [h.lst j (hp j (by omega)) (by omega),List.getElem?_range hj];rfl
   ·rw [JnT (by rw [h.ll];exact hj),JnT (by simpa using hj)];rfl
include hT hs
theorem YE:Ev (λ n=>CO n s (B0 t)) (Ib (Aa t).length (s.length+1),List.replicate (s.length+1) 0,List.replicate ((Aa t).length*(s.length+1)) 0):=by
 have hlen:=EL hT;have hgl:(B0 t).Arcs.length=(Aa t).length:=by simp [B0]
 have hmul:(Aa t).length*(s.length+1)<=768*4001:=Nat.mul_le_mul hlen (by omega);refine Tot.ev ?_;unfold CO;have e1:An .i64 ((s.length:Nat):Int) 1=((s.length+1:Nat):Int):=Br (by omega);rw [e1,hgl];have e2:Ln .i64 (((Aa t).length:Nat):Int) ((s.length+1:Nat):Int)=(((Aa t).length*(s.length+1):Nat):Int):=by
  have:(((Aa t).length:Nat):Int)*((s.length+1:Nat):Int)=(((Aa t).length*(s.length+1):Nat):Int):=by push_cast;rfl
  unfold Ln;rw [this];exact w64 (by omega) (by omega)
 rw [e2];refine Tot.bindC (K2 (by omega) (by omega)) (Tot.bindC (K2 (by omega) (by omega)) (Tot.bindC (K2 (by omega) (by omega)) ?_));simp only [JnH,List.length_replicate];refine Tot.bind (R:=λ y=>y=Ib (Aa t).length (s.length+1)) ?_ (λ y hy=>by subst hy;exact Jm2 rfl);refine Tot.upto (body:=λ n x=>B2 n s (B0 t) _ _ x.1 x.2) (s.length+1) (λ k x=>x.2=(k:Int)/\x.1.length=s.length+1/\∀ j,j<k->x.1[j]? = some (j*(Aa t).length,(Aa t).length)) ?_ ?_ _ ⟨rfl,by simp,by omega⟩
 ·rintro k ⟨m,k'⟩ hk ⟨e3,h1,h2⟩;simp only at e3 h1 h2;subst e3;unfold B2;rw [e1,hgl];have hk1:(k+1)*(Aa t).length<=4001*768:=Nat.mul_le_mul (by omega) hlen;have hk0:(k+1)*(Aa t).length=k*(Aa t).length+(Aa t).length:=by rw [JnL,Nat.one_mul]
  have hle:=JZ (S:=(Aa t).length) hk;have i1:An .i64 (k:Int) 1=((k+1:Nat):Int):=Br (by omega);have i2:Ln .i64 (k:Int) (((Aa t).length:Nat):Int)=((k*(Aa t).length:Nat):Int):=by
   have:(k:Int)*(((Aa t).length:Nat):Int)=((k*(Aa t).length:Nat):Int):=by push_cast;rfl
   unfold Ln;rw [this];exact w64 (by omega) (by omega)
  have i3:Ln .i64 ((k+1:Nat):Int) (((Aa t).length:Nat):Int)=(((k+1)*(Aa t).length:Nat):Int):=by
   have:((k+1:Nat):Int)*(((Aa t).length:Nat):Int)=(((k+1)*(Aa t).length:Nat):Int):=by push_cast;rfl
   unfold Ln;rw [this];exact w64 (by omega) (by omega)
  rw [i1,i2,i3,List.length_replicate];have hcut:JcR ((Aa t).length*(s.length+1)) ((k*(Aa t).length:Nat):Int) (((k+1)*(Aa t).length:Nat):Int) (((k+1)*(Aa t).length:Nat):Int)=some ():=by
   unfold JcR Bu;rw [if_pos];simp only [Jny,decide_eq_true_eq];omega
  refine Tot.iteT (Du hk) (Tot.bindC hcut (Tot.bindC (Em (show k<m.length by omega)) (Tot.bindC (DV (show k<m.length by omega)) (Jm2 ⟨rfl,by simp only [JnP];exact h1,λ j hj=>?_⟩))));by_cases e:k=j
  ·subst e;rw [JnJ (show k<m.length by omega)];simp only [JnH,JnM];congr 2;omega
  ·rw [JnO e];exact h2 j (by omega)
 ·rintro ⟨m,k'⟩ ⟨e3,h1,h2⟩;simp only at e3 h1 h2;subst e3;unfold B2;rw [e1];refine Tot.iteF (by simp) (Jm2 (Jnm λ j=>?_));rcases Jnk j (s.length+1) with hj|hj
  ·rw [h2 j hj];simp [Ib,hj]
  ·rw [JnT (show m.length<=j by omega),JnT (by simpa [Ib] using hj)]
omit hT hs in
theorem UA (t:Ad) (s:List UInt8):CJ t s (λ _=>False) (List.replicate ((Aa t).length*(s.length+1)) 0) (List.replicate (s.length+1) 0):=⟨by simp,by simp,λ _ h=>h.elim,λ _ h=>h.elim⟩
theorem Jff (hx:s.all Eb=true):Ev (λ n=>Fh n t s) (CU t s,0):=by
 refine Tot.ev ?_;unfold Fh;have ht:=SI (s:=s) (by omega);rw [Qi hx] at ht;refine Jm3 ht (Tot.iteF rfl (Jm3 (YA hT) (Jm3 (YE hT hs) (Tot.bindC (y:=()) rfl ?_))));refine Tot.bind (R:=λ y=>CJ t s (λ _=>True) y.2 y.1) ?_ ?_
 ·refine Tot.whl (body:=λ n x=>Fg n s (B0 t) _ x.1 x.2.1 x.2.2) (λ m x=>x.2.2=(m:Int)-1/\m<=s.length+1/\CJ t s (λ p=>m<=p) x.2.1 x.1) ?_ (s.length+1) _ ⟨by simp,Jni _,(UA t s).mono λ p h1 h2=>by omega⟩;rintro m ⟨ls,l,i'⟩ ⟨e2,e3,hC⟩;simp only at e2 hC;subst e2;unfold Fg;cases m with
  | zero=>exact Tot.iteF (by simp) (Jm2 (hC.mono λ p _ _=>by omega))
  | succ i=>
   have ei:((i+1:Nat):Int)-1=(i:Int):=by omega
   rw [ei];have hll:=hC.ll;refine Tot.iteT (by simp) (Jm3 (Jfe hT hs (show i<=s.length by omega) (hC.lat λ p _ h=>by omega)) (Tot.bindC (Em (show i<ls.length by omega)) (Tot.bindC (DV (show i<ls.length by omega)) (Jm2 ⟨i,by omega,?_,by omega,?_⟩))))
   ·show DL .i64 (i:Int) 1=(i:Int)-1;rw [K0 (by omega) (by omega)]
   ·exact (hC.set (show i<=s.length by omega)).mono λ p _ h=>by omega
 ·rintro ⟨ls,l⟩ hC;obtain ⟨h1,h2⟩:=hC.memo λ _ _=>trivial;refine Tot.bindC h1 (Jm2 ?_);rw [h2]
end
end Go.AI
end
section
namespace Go.AI
def Sh (t:Ad) (d:Int) (x x':List UInt8):Prop:=∀ q∈Aa t,(Aq t q x<0/\Aq t q x'<0)\/(0<=Aq t q x/\0<=Aq t q x'/\Aq t q x'=Aq t q x+d)
def EqC (t:Ad) (d:Int) (x x':List UInt8):Prop:=Dh (A8 t x)=Dh (A8 t x')/\(0<=BQ (A8 t x)->BQ (A8 t x')-BQ (A8 t x)=d)
theorem JkO {t:Ad} {x:List UInt8} {j:Nat} {q:Ab} (hq:(Aa t)[j]? = some q):(A8 t x)[j]? = some (Aq t q x):=by unfold A8;rw [JnB,hq];rfl
theorem NP {t:Ad} {x:List UInt8} {v:Int}:v∈A8 t x↔∃ q∈Aa t,v=Aq t q x:=by
 unfold A8;rw [Jno];constructor
 ·rintro ⟨q,h,rfl⟩;exact ⟨q,h,rfl⟩
 ·rintro ⟨q,h,rfl⟩;exact ⟨q,h,rfl⟩
theorem L4 {t:Ad} (x:List UInt8):(BQ (A8 t x)=-1/\∀ q∈Aa t,Aq t q x<0)\/(0<=BQ (A8 t x)/\(∃ q∈Aa t,BQ (A8 t x)=Aq t q x)/\∀ q∈Aa t,0<=Aq t q x->BQ (A8 t x)<=Aq t q x):=by
 by_cases h:∃ q∈Aa t,0<=Aq t q x
 ·obtain ⟨q,hq,h0⟩:=h;have h1:=Rv (NP.2 ⟨q,hq,rfl⟩) h0;refine .inr ⟨h1.1,?_,λ q' hq' h0'=>(Rv (NP.2 ⟨q',hq',rfl⟩) h0').2⟩;rcases ZE (A8 t x) with h2|h2
  ·omega
  ·exact NP.1 h2
 ·have hn:∀ q∈Aa t,Aq t q x<0:=λ q hq=>Int.not_le.1 λ h0=>h ⟨q,hq,h0⟩;refine .inl ⟨?_,hn⟩;rcases ZE (A8 t x) with h2|h2
  ·exact h2
  ·obtain ⟨q,hq,e⟩:=NP.1 h2;have:=hn q hq;have:=Qo t q x;omega
theorem W4 {t:Ad} {x:List UInt8} {j:Nat} {q:Ab} (hq:(Aa t)[j]? = some q):(Dh (A8 t x))[j]? = some (if Aq t q x<0 then -1 else Aq t q x-BQ (A8 t x)):=by
 rw [Dh,JnB,JkO hq];rfl
theorem EqC.sh {t:Ad} {d:Int} {x x':List UInt8} (h:EqC t d x x'):Sh t d x x':=by
 intro q hq;obtain ⟨j,hj,e⟩:=Jnt hq;have hg:(Aa t)[j]? = some q:=by rw [Jnx hj,e]
 have he:=W4 (x:=x) hg;rw [h.1,W4 hg] at he;simp only [JnI] at he;have g:=h.2;rcases L4 (t:=t) x with ⟨a1,a2⟩|⟨a1,_,a3⟩
 ·have b1:=a2 q hq;rcases L4 (t:=t) x' with ⟨c1,c2⟩|⟨c1,_,c3⟩
  ·exact .inl ⟨b1,c2 q hq⟩
  ·refine .inl ⟨b1,Int.not_le.1 λ h0=>?_⟩;have:=c3 q hq h0;rw [if_neg (by omega),if_pos b1] at he;omega
 ·rcases L4 (t:=t) x' with ⟨c1,c2⟩|⟨c1,_,c3⟩
  ·have:=g a1;have b2:=c2 q hq;refine .inl ⟨Int.not_le.1 λ h0=>?_,b2⟩;have:=a3 q hq h0;rw [if_pos b2,if_neg (by omega)] at he;omega
  ·have hd:=g a1;by_cases h0:Aq t q x<0
   ·refine .inl ⟨h0,Int.not_le.1 λ h1=>?_⟩;have:=c3 q hq h1;rw [if_neg (by omega),if_pos h0] at he;omega
   ·by_cases h1:Aq t q x'<0
    ·have:=a3 q hq (by omega);rw [if_pos h1,if_neg h0] at he;omega
    ·rw [if_neg h1,if_neg h0] at he;exact .inr ⟨by omega,by omega,by omega⟩
theorem Sh.lst {t:Ad} {d:Int} {x x':List UInt8} (h:Sh t d x x'):BQ (A8 t x')=if BQ (A8 t x)<0 then -1 else BQ (A8 t x)+d:=by
 rcases L4 (t:=t) x with ⟨a1,a2⟩|⟨a1,⟨q,hq,e⟩,a3⟩
 ·rw [if_pos (by omega)];rcases L4 (t:=t) x' with ⟨c1,c2⟩|⟨c1,⟨q',hq',e'⟩,c3⟩
  ·exact c1
  ·rcases h q' hq' with h1|h1
   ·omega
   ·have:=a2 q' hq';omega
 ·rw [if_neg (by omega)];have hh:=h q hq;rcases L4 (t:=t) x' with ⟨c1,c2⟩|⟨c1,⟨q',hq',e'⟩,c3⟩
  ·have:=c2 q hq;omega
  ·have g1:=c3 q hq (by omega);have g2:=h q' hq';have g3:=a3 q' hq' (by omega);omega
theorem Sh.eqc {t:Ad} {d:Int} {x x':List UInt8} (h:Sh t d x x'):EqC t d x x':=by
 have hl:=h.lst;refine ⟨Jnm λ j=>?_,λ h0=>by rw [hl,if_neg (by omega)];omega⟩;rcases Jnk j (Aa t).length with hj|hj
 ·have hg:=Jnx hj;rw [W4 hg,W4 hg];congr 1;rcases h _ (Jnf hj) with ⟨h1,h2⟩|⟨h1,h2,h3⟩
  ·rw [if_pos h1,if_pos h2]
  ·rw [if_neg (by omega),if_neg (by omega)];have:=(Rv (NP.2 ⟨_,Jnf hj,rfl⟩) h1).1;rw [hl,if_neg (by omega)];omega
 ·rw [JnT (by rw [NO];exact hj),JnT (by rw [NO];exact hj)]
section
variable {t:Ad} (hT:GG t)
include hT
theorem Jfg {d:Int} {x x':List UInt8} (h3:3<=x.length) (ht:x.take 3=x'.take 3) (hS:∀ k,1<=k->k<=3->∀ q∈Aa t,0<=Aq t q (x.drop k)->0<=Aq t q (x'.drop k)/\Aq t q (x'.drop k)<=Aq t q (x.drop k)+d) :
  ∀ (p:List Int) (q:Ab),q∈Aa t->Way t q x p->∃ p',Way t q x' p'/\((Fa t p':Nat):Int)<=(Fa t p:Nat)+d:=by
 intro p;induction p with
 | nil=>intro q _ h;have:=h.nil.1;subst this;simp at h3
 | cons k p ih=>
  intro q hq h;obtain ⟨h1,y,h2,hw⟩:=h.uncons;rw [EE];obtain ⟨n,rfl⟩:∃ n:Nat,k=n:=⟨k.toNat,by have:=Cq h1;omega⟩;have hq':=Dt hT hq h1;by_cases he:prt t n=[]
  ·rw [he,List.nil_append] at h2;subst h2;obtain ⟨p',g1,g2⟩:=ih _ hq' hw;have:=g1.cons h1;rw [he,List.nil_append] at this;exact ⟨_,this,by rw [EE];omega⟩
  ·have hpl:=(hT.pr h1).1;have hp0:0<(prt t n).length:=List.length_pos_iff.2 he;have hy:y=x.drop (prt t n).length:=by rw [h2,List.drop_left]
   have hx':x'=prt t n++x'.drop (prt t n).length:=by
    have e1:x.take (prt t n).length=prt t n:=by rw [h2,List.take_left]
    have e2:x'.take (prt t n).length=x.take (prt t n).length:=by
     have:=congrArg (List.take (prt t n).length) ht;rwa [List.take_take,List.take_take,Nat.min_eq_left hpl,eq_comm] at this
    have:=List.take_append_drop (prt t n).length x';rw [e2,e1] at this;exact this.symm
   have hc:=I6 hw;rw [hy] at hc;have g:=hS _ hp0 hpl _ hq' hc.1;obtain ⟨p',g1,g2⟩:=ED g.1;have hn:=g1.cons h1;rw [← hx'] at hn;exact ⟨_,hn,by rw [EE];omega⟩
theorem Sh.step {d:Int} {x x':List UInt8} (h3:3<=x.length) (h3':3<=x'.length) (ht:x.take 3=x'.take 3) (hS:∀ k,1<=k->k<=3->Sh t d (x.drop k) (x'.drop k)):Sh t d x x':=by
 have f1:=Jfg hT (d:=d) h3 ht λ k h1 h2 q hq h0=>by
  rcases hS k h1 h2 q hq with h|h<;>omega
 have f2:=Jfg hT (d:=-d) h3' ht.symm λ k h1 h2 q hq h0=>by
  rcases hS k h1 h2 q hq with h|h<;>omega
 intro q hq;by_cases h0:0<=Aq t q x
 ·obtain ⟨p,hp,e⟩:=ED h0;obtain ⟨p',hp',e'⟩:=f1 p q hq hp;have g:=I6 hp';obtain ⟨p2,hp2,e2⟩:=ED g.1;obtain ⟨p3,hp3,e3⟩:=f2 p2 q hq hp2;have g3:=I6 hp3;exact .inr ⟨h0,g.1,by omega⟩
 ·refine .inl ⟨by omega,Int.not_le.1 λ h1=>?_⟩;obtain ⟨p,hp,e⟩:=ED h1;obtain ⟨p',hp',e'⟩:=f2 p q hq hp;have:=(I6 hp').1;omega
theorem Sh.all {d:Int} {s s':List UInt8} {i a:Nat} (ha:i+3<=a) (hl:a<=s.length) (hl':a<=s'.length) (ht:s.take a=s'.take a) (hS:∀ j,i<=j->j<=i+2->Sh t d (s.drop j) (s'.drop j)):∀ m j,j+m=i->Sh t d (s.drop j) (s'.drop j):=by
 intro m;induction m using Nat.strongRecOn with
 | _ m ih=>
  intro j hj;rcases Nat.eq_zero_or_pos m with rfl|h0
  ·exact hS j (by omega) (by omega)
  ·refine Sh.step hT (by simp;omega) (by simp;omega) ?_ λ k h1 h2=>?_
   ·have:=congrArg (λ l=>(List.drop j l).take 3) ht;simp only [List.drop_take,List.take_take] at this;rwa [Nat.min_eq_left (by omega)] at this
   ·rw [List.drop_drop,List.drop_drop];by_cases hk:k<=m
    ·exact ih (m-k) (by omega) (j+k) (by omega)
    ·exact hS (j+k) (by omega) (by omega)
end
end Go.AI
end
section
namespace Go.AI
def Ax (s put:List UInt8) (a k:Nat):List UInt8:=s.take a++put++s.drop (a+k)
theorem H6 {s put:List UInt8} {a k:Nat} (h:a+k<=s.length):(Ax s put a k).length=s.length-k+put.length:=by
 simp [Ax];omega
theorem W5 {s put:List UInt8} {a k:Nat} (h:a+k<=s.length) {i:Nat} (hi:a+put.length<=i):(Ax s put a k).drop i=s.drop (i-put.length+k):=by
 unfold Ax;have e:(s.take a++put).length=a+put.length:=by simp;omega
 rw [List.drop_append,List.drop_eq_nil_of_le (by omega),List.nil_append,e,List.drop_drop];congr 1;omega
theorem W6 {s put:List UInt8} {a k:Nat} (h:a+k<=s.length):(Ax s put a k).take a=s.take a:=by
 unfold Ax;rw [List.append_assoc,List.take_append_of_le_length (by simp;omega),List.take_take,Nat.min_self]
def R6 (t:Ad) (s s':List UInt8) (a i:Nat):Prop:=i+3<=a/\∃ d,∀ j,i<=j->j<=i+3->EqC t d (s.drop j) (s'.drop j)
def Jfh (t:Ad) (s s':List UInt8) (a b r:Nat):Prop:=r<=b/\(∀ j,r<j->j<b->¬R6 t s s' a j)/\(r=0\/R6 t s s' a r)
theorem JgZ {t:Ad} {x x':List UInt8} (h:Dh (A8 t x)=Dh (A8 t x')):BQ (A8 t x)<0↔BQ (A8 t x')<0:=by
 have key:∀ {x x':List UInt8},Dh (A8 t x)=Dh (A8 t x')->BQ (A8 t x')<0->BQ (A8 t x)<0:=by
  intro x x' h hn;refine Int.not_le.1 λ h0=>?_;have hS:Sh t (BQ (A8 t x')-BQ (A8 t x)) x x':=EqC.sh ⟨h,λ _=>rfl⟩;rcases L4 (t:=t) x with ⟨a1,_⟩|⟨_,⟨q,hq,e⟩,_⟩
  ·omega
  ·rcases hS q hq with h1|h1
   ·omega
   ·have:=(Rv (NP.2 ⟨q,hq,rfl⟩) h1.2.1).1;omega
 exact ⟨key h.symm,key h⟩
section
variable {t:Ad} (hT:GG t)
include hT
theorem JkP {a l:List Int} {lo S:Nat} (h:lo+S<=l.length) (ha:a.length<1000000) (hS:S<1000000):Ev (λ n=>CP n a (lo,S) l) (decide (a=(l.drop lo).take S)):=by
 have _:=hT;have hl:((l.drop lo).take S).length=S:=by simp;omega
 refine Tot.ev ?_;unfold CP;by_cases he:a.length=S
 ·refine Tot.iteF (by simp [he]) (Tot.bind (R:=λ y:Unit⊕Bool=>(y=.inl ()/\a=(l.drop lo).take S)\/(y=.inr false/\a≠(l.drop lo).take S)) ?_ ?_)
  ·refine Tot.upto (body:=λ n x=>BK n a (lo,S) l x) a.length (λ k x=>x=(k:Int)/\a.take k=((l.drop lo).take S).take k) ?_ ?_ _ ⟨rfl,rfl⟩
   ·rintro k _ hk ⟨rfl,e⟩;have hkb:k<((l.drop lo).take S).length:=by omega
    have hg:l[lo+k]? = some ((l.drop lo).take S)[k]:=by
     rw [← Jnx hkb,JnS (by omega),Jnp]
    unfold BK;refine Tot.iteT (Du hk) (Tot.bindC (Em hk) (Tot.bindC (Kk (by omega) hg) (Tot.ite (λ h=>?_) λ h=>?_)))
    ·refine Jm2 (.inr ⟨rfl,λ he=>?_⟩);have h1:a[k]≠((l.drop lo).take S)[k]:=by simpa using h
     have h2:a[k]? = ((l.drop lo).take S)[k]? := by rw [← he]
     rw [Jnx hk,Jnx hkb] at h2;exact h1 (Option.some.inj h2)
    ·refine Jm2 ⟨Br (by omega),?_⟩;have h1:a[k]=((l.drop lo).take S)[k]:=by simpa using h
     rw [List.take_add_one,List.take_add_one (l:=(l.drop lo).take S),e,Jnx hk,Jnx hkb,h1]
   ·rintro _ ⟨rfl,e⟩;unfold BK;refine Tot.iteF (by simp) (Jm2 (.inl ⟨rfl,?_⟩));rw [List.take_length,he] at e;rwa [List.take_of_length_le (by omega)] at e
  ·rintro y (⟨rfl,h⟩|⟨rfl,h⟩)
   ·exact Jm2 (decide_eq_true h).symm
   ·exact Jm2 (decide_eq_false h).symm
 ·refine Tot.iteT (by simp;omega) (Jm2 (decide_eq_false λ h=>he ?_).symm);rw [h,hl]
variable {s:List UInt8} (hs:s.length<=4000) {s':List UInt8} (hs':s'.length<=4000)
include hs
theorem SL {i:Nat} (hi:i<=s.length):-1<=BQ (A8 t (s.drop i))/\BQ (A8 t (s.drop i))<=13000000:=Rw (by decide) λ _ hv=>WZ hT hs hi hv
omit hT hs in
theorem SM {i:Nat} (hi:i<=s.length):idx (CU t s).Costs (i:Int)=some (Dh (A8 t (s.drop i)))/\idx (CU t s).Least (i:Int)=some (BQ (A8 t (s.drop i))):=⟨BL (by simp only [CU,JnB];rw [List.getElem?_range (by omega)];rfl),BL (by simp only [CU,JnB];rw [List.getElem?_range (by omega)];rfl)⟩
omit hs in
theorem JkQ (hl:s.length<=4000):Ev (λ n=>DZ n (CU t s) (B0 t)) true:=by
 have hlen:=EL hT;have hgl:(B0 t).Arcs.length=(Aa t).length:=by simp [B0]
 have e1:An .i64 ((s.length:Nat):Int) 1=((s.length+1:Nat):Int):=Br (by omega);have c1:(CU t s).Costs.length=s.length+1:=by simp [CU]
 have c2:(CU t s).Least.length=s.length+1:=by simp [CU]
 have c3:(CU t s).Text=s:=rfl;refine Tot.ev ?_;unfold DZ;rw [c1,c2,c3,e1];refine Tot.iteF (by simp) (Tot.bind (R:=λ y:Unit⊕Bool=>y=.inl ()) ?_ (λ y hy=>by subst hy;exact Jm2 rfl));refine Tot.upto (body:=λ n x=>Cw n (CU t s) (B0 t) x) (s.length+1) (λ k x=>x=(k:Int)) ?_ ?_ _ rfl
 ·rintro k _ hk rfl;unfold Cw;rw [c1];refine Tot.iteT (Du hk) (Tot.bindC (SM (t:=t) (s:=s) (show k<=s.length by omega)).1 (Tot.iteF ?_ (Jm2 (Br (by omega)))));rw [NO,hgl];simp
 ·rintro _ rfl;unfold Cw;rw [c1];exact Tot.iteF (by simp) (Jm2 rfl)
include hs'
theorem ZI {a i:Nat} (ha:i+3<=a) (h1:a<=s.length) (h2:a<=s'.length) {l ls:List Int} (hC:CJ t s' (λ p=>i<=p) l ls) (x0:List UInt8) :
  Tot (λ n=>Fi n (CU t s) x0 (i:Int) (Ib (Aa t).length (s'.length+1)) ls l) (λ y=>(y.2=true/\∀ j,i<=j->j<=i+3->EqC t y.1 (s.drop j) (s'.drop j))\/(y.2=false/\¬R6 t s s' a i)):=by
 have hlen:=EL hT;unfold Fi;refine Tot.bind (R:=λ y:Int⊕(Int×Bool)=>(∃ d,y=.inl d/\∀ j,i<=j->j<=i+3->EqC t d (s.drop j) (s'.drop j))\/(y=.inr (0,false)/\¬R6 t s s' a i)) ?_ ?_
 ·have e3:An .i64 (i:Int) 3=((i+3:Nat):Int):=by rw [E7 (by omega) (by omega)];omega
  refine Tot.upto (body:=λ n x=>Da n (CU t s) x0 (i:Int) (Ib (Aa t).length (s'.length+1)) ls l x.1 x.2.1 x.2.2) 4 (λ m x=>x.2.2=((i+m:Nat):Int)/\(∀ j,i<=j->j<i+m->EqC t x.1 (s.drop j) (s'.drop j))/\(x.2.1=false->∀ j,i<=j->j<i+m->BQ (A8 t (s.drop j))<0)/\(x.2.1=true->∃ j,i<=j/\j<i+m/\0<=BQ (A8 t (s.drop j)))) ?_ ?_ _ ⟨rfl,by omega,by omega,λ h=>by cases h⟩
  ·rintro m ⟨sh,kn,j'⟩ hm ⟨e1,g1,g2,g3⟩;simp only at e1 g1 g2 g3;subst e1;have hj1:i+m<=s.length:=by omega
   have hj2:i+m<=s'.length:=by omega
   obtain ⟨m1,m2⟩:=SM (t:=t) hj1;have hcol:=hC.col (i+m) (by omega) hj2;have hlst:=BL (hC.lst (i+m) (by omega) hj2);have hr1:=SL hT hs hj1;have hr2:=SL hT hs' hj2;have hlo:(i+m)*(Aa t).length+(Aa t).length<=l.length:=by rw [hC.len];exact JZ (by omega)
   unfold Da;rw [e3];refine Tot.iteT (by simp;omega) (Tot.bindC m1 (Tot.bindC (Uz (by omega)) (Jm3 (JkP hT hlo (by rw [NO];omega) (by omega)) ?_)));rw [hcol];by_cases he:Dh (A8 t (s.drop (i+m)))=Dh (A8 t (s'.drop (i+m)))
   ·rw [decide_eq_true he];have hneg:=JgZ he;refine Tot.iteF rfl (Tot.bindC m2 ?_);have hJ:∀ sh' kn',EqC t sh' (s.drop (i+m)) (s'.drop (i+m))->(∀ j,i<=j->j<i+m->EqC t sh' (s.drop j) (s'.drop j))->(kn'=false->BQ (A8 t (s.drop (i+m)))<0/\kn=false)->(kn'=true->kn=true\/0<=BQ (A8 t (s.drop (i+m))))->Tot (λ n=>C9 n ((i+m:Nat):Int) sh' kn') (Rd2 (λ x:Int×Bool×Int=>x.2.2=((i+(m+1):Nat):Int)/\(∀ j,i<=j->j<i+(m+1)->EqC t x.1 (s.drop j) (s'.drop j))/\(x.2.1=false->∀ j,i<=j->j<i+(m+1)->BQ (A8 t (s.drop j))<0)/\(x.2.1=true->∃ j,i<=j/\j<i+(m+1)/\0<=BQ (A8 t (s.drop j)))) (λ y:Int⊕(Int×Bool)=>(∃ d,y=.inl d/\∀ j,i<=j->j<=i+3->EqC t d (s.drop j) (s'.drop j))\/(y=.inr (0,false)/\¬R6 t s s' a i))):=by
     intro sh' kn' h1 h2 h3 h4;unfold C9;refine Jm2 ⟨Br (by omega),λ j q1 q2=>?_,λ hk j q1 q2=>?_,λ hk=>?_⟩
     ·by_cases e:j=i+m
      ·rw [e];exact h1
      ·exact h2 j q1 (by omega)
     ·by_cases e:j=i+m
      ·rw [e];exact (h3 hk).1
      ·exact g2 (h3 hk).2 j q1 (by omega)
     ·rcases h4 hk with h|h
      ·obtain ⟨j,q1,q2,q3⟩:=g3 h;exact ⟨j,q1,by omega,q3⟩
      ·exact ⟨i+m,by omega,by omega,h⟩
    by_cases h0:BQ (A8 t (s.drop (i+m)))<0
    ·have hn':=hneg.1 h0;refine Jm6 (by simp [h0]) (Tot.iteT (by simp [h0]) (hJ sh kn ⟨he,λ h=>by omega⟩ g1 (λ h=>⟨h0,h⟩) (λ h=>.inl h)))
    ·have hn':¬BQ (A8 t (s'.drop (i+m)))<0:=λ h=>h0 (hneg.2 h);refine Jm5 (by simp;omega) (Ev.all λ _=>hlst) (Tot.iteF (by simp;omega) (Tot.bindC hlst (Tot.bindC m2 ?_)));rw [K0 (by omega) (by omega)];by_cases hk:kn=true/\BQ (A8 t (s'.drop (i+m)))-BQ (A8 t (s.drop (i+m)))≠sh
     ·refine Tot.iteT (by simp [hk.1];exact hk.2) (Jm2 (.inr ⟨rfl,?_⟩));rintro ⟨_,d,hd⟩;obtain ⟨j,q1,q2,q3⟩:=g3 hk.1;have w1:=(hd j q1 (by omega)).2 q3;have w2:=(g1 j q1 q2).2 q3;have w3:=(hd (i+m) (by omega) (by omega)).2 (by omega);exact hk.2 (by omega)
     ·refine Tot.iteF ?_ (hJ _ true ⟨he,λ _=>rfl⟩ (λ j q1 q2=>⟨(g1 j q1 q2).1,λ h=>?_⟩) (λ h=>by cases h) (λ _=>.inr (by omega)))
      ·cases kn with
       | false=>rfl
       | true=>
        have:BQ (A8 t (s'.drop (i+m)))-BQ (A8 t (s.drop (i+m)))=sh:=Decidable.byContradiction λ h=>hk ⟨rfl,h⟩;simp [this]
      ·cases kn with
       | false=>have:=g2 rfl j q1 q2;omega
       | true=>
        have:BQ (A8 t (s'.drop (i+m)))-BQ (A8 t (s.drop (i+m)))=sh:=Decidable.byContradiction λ h=>hk ⟨rfl,h⟩;rw [this];exact (g1 j q1 q2).2 h
   ·rw [decide_eq_false he];refine Tot.iteT rfl (Jm2 (.inr ⟨rfl,?_⟩));rintro ⟨_,d,hd⟩;exact he (hd (i+m) (by omega) (by omega)).1
  ·rintro ⟨sh,kn,j'⟩ ⟨e1,g1,g2,g3⟩;simp only at e1 g1 g2 g3;subst e1;unfold Da;rw [e3];exact Tot.iteF (by simp) (Jm2 (.inl ⟨sh,rfl,λ j q1 q2=>g1 j q1 (by omega)⟩))
 ·rintro y (⟨d,rfl,h⟩|⟨rfl,h⟩)
  ·exact Jm2 (.inl ⟨rfl,h⟩)
  ·exact Jm2 (.inr ⟨rfl,h⟩)
end
end Go.AI
end
section
namespace Go.AI
section
variable {t:Ad} (hT:GG t) {s:List UInt8} (hs:s.length<=4000)
include hT hs
omit hs in
theorem Jah {s':List UInt8} {i:Nat} (hi:i<=s'.length) {P:Nat->Prop} {l ls:List Int} (hC:CJ t s' P l ls) {x:List UInt8}:JaZ l (Dh (A8 t x)) (i*(Aa t).length) (Aa t).length=some (spl l (i*(Aa t).length) (Dh (A8 t x))):=by
 have _:=hT;unfold JaZ;rw [if_pos];rw [NO,hC.len];exact ⟨JZ (by omega),Jni _⟩
theorem Jg0 {put:List UInt8} {a k:Nat} (hak:a+k<=s.length) (hl':(Ax s put a k).length<=4000) (gr:AP) (e1 e2:List Int) {l0 ls0:List Int} (h0:CJ t (Ax s put a k) (λ _=>False) l0 ls0) :
  Tot (λ n=>whl (λ (x:((List Int)×(List Int)×Int))=>Dk n (CU t s) ⟨(a:Int),(k:Int),put⟩ (Ax s put a k) gr (Ib (Aa t).length ((Ax s put a k).length+1),e1,e2) x.1 x.2.1 x.2.2) n (ls0,l0,((a+put.length:Nat):Int))) (λ y=>CJ t (Ax s put a k) (λ p=>a+put.length<=p) y.2 y.1):=by
 have hlen:=EL hT;have hsl:=H6 (put:=put) hak;refine Tot.upto (body:=λ n x=>Dk n (CU t s) ⟨(a:Int),(k:Int),put⟩ (Ax s put a k) gr (Ib (Aa t).length ((Ax s put a k).length+1),e1,e2) x.1 x.2.1 x.2.2) ((Ax s put a k).length+1-(a+put.length)) (λ m x=>x.2.2=((a+put.length+m:Nat):Int)/\CJ t (Ax s put a k) (λ p=>a+put.length<=p/\p<a+put.length+m) x.2.1 x.1) ?_ ?_ _ ⟨rfl,h0.mono λ p _ h=>by omega⟩
 ·rintro m ⟨ls,l,i'⟩ hm ⟨q1,hC⟩;simp only at q1 hC;subst q1;have hi:a+put.length+m<=(Ax s put a k).length:=by omega
  have ho:a+m+k<=s.length:=by omega
  have hd:=W5 (put:=put) hak (i:=a+put.length+m) (by omega);have ei:a+put.length+m-put.length+k=a+m+k:=by omega
  rw [ei] at hd;obtain ⟨m1,m2⟩:=SM (t:=t) ho;have hll:=hC.ll;unfold Dk;have eo:An .i64 (DL .i64 ((a+put.length+m:Nat):Int) ((put.length:Nat):Int)) (k:Int)=((a+m+k:Nat):Int):=by
   rw [K0 (by omega) (by omega),E7 (by omega) (by omega)];omega
  simp only [eo];have hset:=hC.set hi;rw [hd] at hset;refine Tot.iteT (by simp;omega) (Tot.bindC (Uz (by omega)) (Tot.bindC m1 (Tot.bindC (Jah hT hi hC) (Tot.bindC m2 (Tot.bindC (Em (show a+put.length+m<ls.length by omega)) (Tot.bindC (DV (show a+put.length+m<ls.length by omega)) (Jm2 ⟨Br (by omega),hset.mono λ p _ h=>by omega⟩)))))))
 ·rintro ⟨ls,l,i'⟩ ⟨q1,hC⟩;simp only at q1 hC;subst q1;unfold Dk;refine Tot.iteF (by simp;omega) (Jm2 (hC.mono λ p h1 h2=>by omega))
theorem Jg1 {put:List UInt8} {a k:Nat} (hak:a+k<=s.length) (hl':(Ax s put a k).length<=4000) (e1 e2:List Int) {l0 ls0:List Int} (h0:CJ t (Ax s put a k) (λ p=>a+put.length<=p) l0 ls0) :
  Tot (λ n=>whl (λ (x:((List Int)×(List Int)×Int×Int))=>DR n (CU t s) ⟨(a:Int),(k:Int),put⟩ (Ax s put a k) (B0 t) (Ib (Aa t).length ((Ax s put a k).length+1),e1,e2) x.1 x.2.1 x.2.2.1 x.2.2.2) n (ls0,l0,0,DL .i64 ((a+put.length:Nat):Int) 1))
   (λ y=>∃ r:Nat,y.2.2.2.1=(r:Int)/\y.2.2.1=((a+put.length-r:Nat):Int)/\CJ t (Ax s put a k) (λ p=>r<=p) y.2.1 y.1/\Jfh t s (Ax s put a k) a (a+put.length) r/\(0<r->r+3<=a/\∀ j,r<=j->j<=r+3->EqC t y.2.2.2.2 (s.drop j) ((Ax s put a k).drop j))):=by
 have hlen:=EL hT;have hsl:=H6 (put:=put) hak;have e0:DL .i64 ((a+put.length:Nat):Int) 1=((a+put.length:Nat):Int)-1:=K0 (by omega) (by omega);rw [e0];refine Tot.whl (body:=λ n x=>DR n (CU t s) ⟨(a:Int),(k:Int),put⟩ (Ax s put a k) (B0 t) (Ib (Aa t).length ((Ax s put a k).length+1),e1,e2) x.1 x.2.1 x.2.2.1 x.2.2.2) (λ m x=>x.2.2.2=(m:Int)-1/\m<=a+put.length/\x.2.2.1=((a+put.length-m:Nat):Int)/\CJ t (Ax s put a k) (λ p=>m<=p) x.2.1 x.1/\∀ j,m<=j->j<a+put.length->¬R6 t s (Ax s put a k) a j) ?_ (a+put.length) _ ⟨rfl,Jni _,by simp,h0,by omega⟩;rintro m ⟨ls,l,cnt,i'⟩ ⟨q1,q2,q3,hC,hN⟩;simp only at q1 q3 hC;subst q1 q3;unfold DR;cases m with
 | zero=>
  refine Tot.iteF (by simp) (Jm2 ⟨0,rfl,by simp,hC,⟨by omega,λ j h1 h2=>hN j (by omega) h2,.inl rfl⟩,λ h=>by omega⟩)
 | succ i=>
  have ei:((i+1:Nat):Int)-1=(i:Int):=by omega
  rw [ei];have hi:i<=(Ax s put a k).length:=by omega
  have hll:=hC.ll;have hset:=(hC.set hi).mono (R:=λ p=>i<=p) λ p _ h=>by omega
  have ec:An .i64 ((a+put.length-(i+1):Nat):Int) 1=((a+put.length-i:Nat):Int):=by rw [E7 (by omega) (by omega)];omega
  have hJ:¬R6 t s (Ax s put a k) a i->Tot (λ n=>DQ n ((a+put.length-(i+1):Nat):Int) (i:Int) (ls.set i (BQ (A8 t ((Ax s put a k).drop i)))) (spl l (i*(Aa t).length) (Dh (A8 t ((Ax s put a k).drop i)))))
    (Rd2 (λ x:List Int×List Int×Int×Int=>∃ j,j<i+1/\(x.2.2.2=(j:Int)-1/\j<=a+put.length/\x.2.2.1=((a+put.length-j:Nat):Int)/\CJ t (Ax s put a k) (λ p=>j<=p) x.2.1 x.1/\∀ j',j<=j'->j'<a+put.length->¬R6 t s (Ax s put a k) a j'))
     (λ y:List Int×List Int×Int×Int×Int=>∃ r:Nat,y.2.2.2.1=(r:Int)/\y.2.2.1=((a+put.length-r:Nat):Int)/\CJ t (Ax s put a k) (λ p=>r<=p) y.2.1 y.1/\Jfh t s (Ax s put a k) a (a+put.length) r/\(0<r->r+3<=a/\∀ j,r<=j->j<=r+3->EqC t y.2.2.2.2 (s.drop j) ((Ax s put a k).drop j)))):=by
   intro hst;unfold DQ;refine Jm2 ⟨i,by omega,?_,by omega,ec,hset,λ j h1 h2=>?_⟩
   ·show DL .i64 (i:Int) 1=(i:Int)-1;rw [K0 (by omega) (by omega)]
   ·by_cases e:j=i
    ·rw [e];exact hst
    ·exact hN j (by omega) h2
  have e3:An .i64 (i:Int) 3=((i+3:Nat):Int):=by rw [E7 (by omega) (by omega)];omega
  refine Tot.iteT (by simp) (Jm3 (Jfe hT hl' hi (hC.lat λ p _ h=>by omega)) (Tot.bindC (Em (show i<ls.length by omega)) (Tot.bindC (DV (show i<ls.length by omega)) ?_)));rw [e3];by_cases ha:a<i+3
  ·exact Tot.iteT (by simp;omega) (hJ λ h=>by have:=h.1;omega)
  ·refine Tot.iteF (by simp;omega) (Tot.bind (ZI hT hs hl' (a:=a) (i:=i) (by omega) (by omega) (by omega) hset _) ?_);rintro ⟨d,ok⟩ (⟨h1,h2⟩|⟨h1,h2⟩)
   ·simp only at h1 h2;subst h1;refine Tot.iteT rfl (Jm2 ⟨i,rfl,ec,hset,⟨by omega,λ j g1 g2=>hN j (by omega) g2,.inr ⟨by omega,d,h2⟩⟩,λ _=>⟨by omega,h2⟩⟩)
   ·simp only at h1;subst h1;exact Tot.iteF rfl (hJ h2)
theorem Jg2 {put:List UInt8} {a k:Nat} (hak:a+k<=s.length) (hl':(Ax s put a k).length<=4000) (e1 e2:List Int) {l0 ls0:List Int} {r:Nat} (hr:r<=a) (h0:CJ t (Ax s put a k) (λ p=>r<=p) l0 ls0) {d cnt:Int} (hS:∀ p,p<r->Sh t d (s.drop p) ((Ax s put a k).drop p)) :
  Tot (λ n=>whl (λ (x:((List Int)×(List Int)×Int))=>Dl n (CU t s) (Ax s put a k) (Ib (Aa t).length ((Ax s put a k).length+1),e1,e2) (ls0,l0,cnt,(r:Int),d) x.1 x.2.1 x.2.2) n (ls0,l0,0)) (λ y=>CJ t (Ax s put a k) (λ _=>True) y.2 y.1):=by
 have hlen:=EL hT;have hsl:=H6 (put:=put) hak;refine Tot.upto (body:=λ n x=>Dl n (CU t s) (Ax s put a k) (Ib (Aa t).length ((Ax s put a k).length+1),e1,e2) (ls0,l0,cnt,(r:Int),d) x.1 x.2.1 x.2.2) r (λ m x=>x.2.2=(m:Int)/\CJ t (Ax s put a k) (λ p=>r<=p\/p<m) x.2.1 x.1) ?_ ?_ _ ⟨rfl,h0.mono λ p _ h=>by omega⟩
 ·rintro m ⟨ls,l,i'⟩ hm ⟨q1,hC⟩;simp only at q1 hC;subst q1;have hi:m<=(Ax s put a k).length:=by omega
  obtain ⟨m1,m2⟩:=SM (t:=t) (s:=s) (i:=m) (by omega);have hll:=hC.ll;have hE:=(hS m hm).eqc;have hL:=(hS m hm).lst;have r1:=SL hT hs (i:=m) (by omega);have r2:=SL hT hl' hi;have hset:=(hC.set hi).mono (R:=λ p=>r<=p\/p<m+1) λ p _ h=>by omega
  rw [← hE.1] at hset;have hJ:∀ v,v=BQ (A8 t ((Ax s put a k).drop m))->Tot (λ n=>DS n (m:Int) (ls.set m v) (spl l (m*(Aa t).length) (Dh (A8 t (s.drop m))))) (Rd2 (λ x:List Int×List Int×Int=>x.2.2=((m+1:Nat):Int)/\CJ t (Ax s put a k) (λ p=>r<=p\/p<m+1) x.2.1 x.1) (λ y=>CJ t (Ax s put a k) (λ _=>True) y.2 y.1)):=by
   rintro v rfl;unfold DS;exact Jm2 ⟨Br (by omega),hset⟩
  unfold Dl;refine Tot.iteT (Du hm) (Tot.bindC (Uz (by omega)) (Tot.bindC m1 (Tot.bindC (Jah hT hi hC) (Tot.bindC m2 (Tot.bindC (Em (show m<ls.length by omega)) (Tot.bindC (DV (show m<ls.length by omega)) (Tot.bindC m2 (Tot.ite (λ h=>?_) λ h=>?_))))))))
  ·have h0:0<=BQ (A8 t (s.drop m)):=by simpa using h
   rw [if_neg (by omega)] at hL;have hgs:(ls.set m (BQ (A8 t (s.drop m))))[m]? = some (BQ (A8 t (s.drop m))):=JnJ (show m<ls.length by omega);refine Tot.bindC (BL hgs) (Tot.bindC (BL hgs) (Tot.bindC (DV (by rw [JnP];exact (show m<ls.length by omega))) ?_));have ea:An .i64 (BQ (A8 t (s.drop m))) d=BQ (A8 t (s.drop m))+d:=E7 (by omega) (by omega);simp only [List.set_set,ea];exact hJ _ hL.symm
  ·have h0:BQ (A8 t (s.drop m))<0:=by simpa using h
   rw [if_pos h0] at hL;exact hJ _ (by omega)
 ·rintro ⟨ls,l,i'⟩ ⟨q1,hC⟩;simp only at q1 hC;subst q1;unfold Dl;exact Tot.iteF (by simp) (Jm2 (hC.mono λ p _ _=>by omega))
theorem JbM {put:List UInt8} {a k:Nat} (hak:a+k<=s.length) (hp:put.length<=4000) (hl':(Ax s put a k).length<=4000) (hx:(Ax s put a k).all Eb=true) :
  Tot (λ n=>Eh n t (CU t s) ⟨(a:Int),(k:Int),put⟩) (λ y=>y.1=CU t (Ax s put a k)/\y.2.2=0/\∃ r,Jfh t s (Ax s put a k) a (a+put.length) r/\y.2.1=((a+put.length-r:Nat):Int)):=by
 have hsl:=H6 (put:=put) hak;have c3:(CU t s).Text=s:=rfl;unfold Eh;have es:DL .i64 ((s.length:Nat):Int) (a:Int)=((s.length-a:Nat):Int):=by rw [K0 (by omega) (by omega)];omega
 have eak:An .i64 (a:Int) (k:Int)=((a+k:Nat):Int):=by rw [E7 (by omega) (by omega)];omega
 have ep:An .i64 (a:Int) ((put.length:Nat):Int)=((a+put.length:Nat):Int):=by rw [E7 (by omega) (by omega)];omega
 simp only [c3,es,eak,ep];have hsub:sub s ((a+k:Nat):Int) ((s.length:Nat):Int)=some (s.drop (a+k)):=by
  rw [VC (by omega) (by omega) (by omega),JnH,JnH,List.take_length]
 have ht:=SI (s:=Ax s put a k) (by omega);rw [Qi hx] at ht;refine Tot.iteF (by simp;omega) (Tot.bindC (L3 (by omega)) (Tot.bindC (Rp (by simp;omega)) (Tot.bindC hsub (Tot.bindC (Rp (by simp;omega)) ?_))));refine Jm3 ht (Tot.iteF rfl (Jm3 (YA hT) (Jm3 (JkQ hT hs) (Tot.iteF rfl (Jm3 (YE hT hl') (Tot.bind (Jg0 hT hs hak hl' _ _ _ (UA _ _)) ?_))))));rintro ⟨ls1,l1⟩ h1;refine Tot.bindC (y:=()) rfl (Tot.bind (Jg1 hT hs hak hl' _ _ h1) ?_);rintro ⟨ls2,l2,cnt,rst,d⟩ ⟨r,q1,q2,hC,hR,hE⟩;simp only at q1 q2 hC hE;subst q1 q2;have hra:r<=a:=by
  rcases Nat.eq_zero_or_pos r with h|h
  ·omega
  ·have:=(hE h).1;omega
 have hS:∀ p,p<r->Sh t d (s.drop p) ((Ax s put a k).drop p):=by
  intro p hp';obtain ⟨g1,g2⟩:=hE (by omega);exact Sh.all hT (d:=d) (i:=r) (a:=a) g1 (by omega) (by omega) (W6 hak).symm (λ j j1 j2=>(g2 j j1 (by omega)).sh) (r-p) p (by omega)
 refine Tot.bind (Jg2 hT hs hak hl' _ _ hra hC hS) ?_;rintro ⟨ls3,l3⟩ h3;obtain ⟨g1,g2⟩:=h3.memo λ _ _=>trivial;refine Tot.bindC g1 (Jm2 ⟨g2,rfl,r,hR,rfl⟩)
end
end Go.AI
end
section
namespace Go.AI
theorem Pg {t:Ad} {s:List UInt8} (ht:Ia t) (h:R5 t s):s.all Eb=true:=by
 obtain ⟨_,p,hp,rfl⟩:=h;rw [Jnd];intro b hb;simp only [E9,List.mem_flatMap] at hb;obtain ⟨k,hk,hb⟩:=hb;have:=hp k hk;have hm:=HA this.1 this.2;have hs:=ht.sound _ hm;simp only [Db,Jny] at hs;exact Jnd.1 hs.1.1.1.1.1.1 b hb
theorem Jfi {t:Ad} (h6:GG t) {s:List UInt8} (hs:s.length<=40) {y:BB} (h1:U8 y.At) (h2:U8 y.Cut) (h3:∀ a∈y.L,U8 a) :
  Tot (λ n=>PM n t s y) (λ c=>∃ (a k:Nat) (put:List UInt8),c=⟨(a:Int),(k:Int),put⟩/\a+k<=s.length/\(put=[]\/R5 t put)/\s.length+put.length<=40):=by
 have hrl:=h6.tab.1;unfold PM;have e1:An .i64 ((s.length:Nat):Int) 1=((s.length+1:Nat):Int):=Br (by omega);have w1:IntKind.i64.wrap y.At=y.At:=w64 (by unfold U8 at h1;omega) (by unfold U8 at h1;omega);have w2:IntKind.i64.wrap y.Cut=y.Cut:=w64 (by unfold U8 at h2;omega) (by unfold U8 at h2;omega);rw [e1,w1,w2];unfold U8 at h1 h2;obtain ⟨a,ha,hal⟩:∃ a:Nat,Bd y.At ((s.length+1:Nat):Int)=(a:Int)/\a<=s.length:=by
  obtain ⟨g1,g2,g3⟩:=K1 (a:=y.At) (m:=((s.length+1:Nat):Int)) (by omega) (by omega);exact ⟨(Bd y.At ((s.length+1:Nat):Int)).toNat,by omega,by omega⟩
 rw [ha];have e2:DL .i64 ((s.length:Nat):Int) (a:Int)=((s.length-a:Nat):Int):=by rw [K0 (by omega) (by omega)];omega
 rw [e2];have e3:(if 5<((s.length-a:Nat):Int) then 5 else ((s.length-a:Nat):Int))=((min 5 (s.length-a):Nat):Int):=by split<;>omega
 rw [e3];have e4:An .i64 ((min 5 (s.length-a):Nat):Int) 1=((min 5 (s.length-a)+1:Nat):Int):=Br (by omega);rw [e4];obtain ⟨k,hk,hkl⟩:∃ k:Nat,Bd y.Cut ((min 5 (s.length-a)+1:Nat):Int)=(k:Int)/\k<=min 5 (s.length-a):=by
  obtain ⟨g1,g2,g3⟩:=K1 (a:=y.Cut) (m:=((min 5 (s.length-a)+1:Nat):Int)) (by omega) (by omega);exact ⟨(Bd y.Cut ((min 5 (s.length-a)+1:Nat):Int)).toNat,by omega,by omega⟩
 rw [hk];have e5:(if 3<((y.L.length:Nat):Int) then 3 else ((y.L.length:Nat):Int))=((min 3 y.L.length:Nat):Int):=by split<;>omega
 rw [e5];have g1:Bu (!(((s.length+1:Nat):Int)==0))=some ():=by
  unfold Bu;rw [if_pos];simp;omega
 have g2:Bu (!(((min 5 (s.length-a)+1:Nat):Int)==0))=some ():=by
  unfold Bu;rw [if_pos];simp;omega
 refine Tot.bindC g1 (Tot.bindC (L3 (by omega)) (Tot.bindC g2 (Tot.bind (Uy (t:=t) (by omega) (λ r hr=>by have:=(h6.tab.2 r hr).2.2.2.2;omega) (l:=y.L.take (min 3 y.L.length)) λ a ha=>h3 a (List.mem_of_mem_take ha)) ?_)));intro put hp;have hpl:=hp.1;have e6:An .i64 ((s.length:Nat):Int) ((put.length:Nat):Int)=((s.length+put.length:Nat):Int):=by rw [E7 (by omega) (by omega)];omega
 rw [e6];unfold JA;refine Tot.ite (λ h=>Jm2 ⟨a,k,[],rfl,by omega,.inl rfl,by simp;omega⟩) λ h=>Jm2 ⟨a,k,put,rfl,by omega,.inr hp,?_⟩;have:¬(40:Int)<((s.length+put.length:Nat):Int):=by simpa using h
 omega
theorem ZJ {s put:List UInt8} {a k:Nat} (hak:a+k<=s.length) (hs:s.length<=4000) (hp:put.length<=4000):Ev (λ n=>JB n s ⟨(a:Int),(k:Int),put⟩) (Ax s put a k):=by
 refine Tot.ev ?_;unfold JB;have eak:An .i64 (a:Int) (k:Int)=((a+k:Nat):Int):=by rw [E7 (by omega) (by omega)];omega
 simp only [eak];have hsub:sub s ((a+k:Nat):Int) ((s.length:Nat):Int)=some (s.drop (a+k)):=by
  rw [VC (by omega) (by omega) (by omega),JnH,JnH,List.take_length]
 exact Tot.bindC (L3 (by omega)) (Tot.bindC (Rp (by simp;omega)) (Tot.bindC hsub (Tot.bindC (Rp (by simp;omega)) (Jm2 rfl))))
end Go.AI
end
section
namespace Go.AI
theorem WW.empty {t:Ad} {s:List UInt8} {w:AJ} {a e:Int} (h:WW t s w a e) (he:e≠0):w=⟨[],[]⟩:=by
 by_cases h1:(Hh s).2=0
 ·by_cases h2:Aq t A6 s<0
  ·exact (h.none h1 h2).1
  ·exact absurd (h.path h1 (by omega)).1 he
 ·exact (h.bad h1).1
theorem W7 {s put:List UInt8} {a k:Nat} (h:s.all Eb=true) (hp:put.all Eb=true):(Ax s put a k).all Eb=true:=by
 unfold Ax;have g1:(s.take a).all Eb=true:=Jnd.2 λ b hb=>Jnd.1 h b (List.mem_of_mem_take hb);have g2:(s.drop (a+k)).all Eb=true:=Jnd.2 λ b hb=>Jnd.1 h b (List.mem_of_mem_drop hb);rw [List.all_append,List.all_append,hp,g1,g2];rfl
section
variable {t:Ad} (hT:GG t) {s:List UInt8} (hs:s.length<=4000) {s':List UInt8} (hs':s'.length<=4000)
include hT hs hs'
end
section
variable {t:Ad} (hT:GG t) {s:List UInt8} (hs:s.length<=4000)
include hT hs
end
theorem Jmk {x:NY} (hx:Qm x) {l:List Int} (hl:∀ a∈l,U8 a) {ys:List BB} (hy:∀ y∈ys,U8 y.At/\U8 y.Cut/\∀ a∈y.L,U8 a):Ev (λ n=>EO n x l ys) true:=by
 obtain ⟨t,⟨ht,_⟩,hE⟩:=ZD hx;have h6:=ht.six;have hrl:=h6.tab.1;refine Tot.ev ?_;unfold EO;obtain ⟨s0,hr,hrE⟩:=Uy (t:=t) (by omega) (λ r hr=>by have:=(h6.tab.2 r hr).2.2.2.2;omega) hl;have hs12:=hr.1;refine Jm3 ZF (Jm3 hE (Jm3 hrE (Jm3 (Jff h6 (by omega) (Pg ht hr)) (Tot.iteF rfl ?_))));refine Tot.bind (R:=λ y:(A5×List UInt8)⊕Bool=>∃ s,y=.inl (CU t s,s)/\s.length<=40/\s.all Eb=true) ?_ ?_
 ·refine Tot.whl (body:=λ n x=>DH n ys true t x.1 x.2.1 x.2.2) (λ m x=>∃ i:Nat,x.2.2=(i:Int)/\m=5-i/\x.1=CU t x.2.1/\x.2.1.length<=40/\x.2.1.all Eb=true) ?_ 5 _ ⟨0,rfl,rfl,rfl,by simp only;omega,Pg ht hr⟩;rintro m ⟨mm,s,i'⟩ ⟨i,e1,e2,e3,e4,e5⟩;simp only at e1 e3 e4 e5;subst e1 e2 e3;unfold DH;refine Tot.ite (λ hc=>?_) λ hc=>Jm2 ⟨s,rfl,e4,e5⟩;obtain ⟨hi,hi5⟩:i<ys.length/\i<5:=by
   simp only [Jny,decide_eq_true_eq] at hc;omega
  obtain ⟨y1,y2,y3⟩:=hy _ (Jnf hi);have hs4:s.length<=4000:=by omega
  refine Tot.bindC (Em hi) (Tot.bind (Jfi h6 e4 y1 y2 y3) ?_);rintro _ ⟨a,k,put,rfl,hak,hput,h40⟩;have hsl:=H6 (put:=put) hak;have hs4':(Ax s put a k).length<=4000:=by omega
  have hpt:put.all Eb=true:=by
   rcases hput with rfl|h
   ·rfl
   ·exact Pg ht h
  have hst':=W7 (a:=a) (k:=k) e5 hpt;refine Jm3 (ZJ hak hs4 (by omega)) (Tot.bind (JbM h6 hs4 hak (by omega) hs4' hst') ?_);rintro ⟨m1,c1,e1⟩ ⟨q1,q2,_⟩;simp only at q1 q2;subst q1 q2;refine Jm5 (by rfl) (JgP h6 hs4') (Jm5 (by rfl) (Jfb h6 hs4' _) ?_);rw [decide_eq_true (rfl:CU t (Ax s put a k)=_)];exact Tot.iteF rfl (Jm2 ⟨5-(i+1),by omega,i+1,Br (by omega),rfl,rfl,by simp only;omega,hst'⟩)
 ·rintro _ ⟨s,rfl,e4,e5⟩;have hs4:s.length<=4000:=by omega
  obtain ⟨⟨w,a,e⟩,hW,hWE⟩:=JbJ h6 hs4 ht.validT;obtain ⟨⟨w',a',e'⟩,hW',hWE'⟩:=JbK h6 hs4;obtain ⟨rfl,rfl,rfl⟩:=hW.uniq hW';have hsz:=hW.size h6 hs4;simp only at hsz hWE hWE';have c3:(CU t s).Text=s:=rfl;by_cases he:e=0
  ·subst he;refine Jm3 (x:=(w,0)) ?_ (Jm3 hWE' (Jm5 (by rfl) (Jag w w (by omega) (by omega)) (Jm2 ?_)))
   ·refine Tot.ev ?_;unfold EX;simp only [c3];exact Jm3 hWE (Tot.iteF rfl (Jm2 rfl))
   ·rw [decide_eq_true (rfl:w=w)];rfl
  ·have hw:w=⟨[],[]⟩:=hW.empty he;subst hw;refine Jm3 (x:=(⟨[],[]⟩,61)) ?_ (Jm3 hWE' (Jm5 (by simp [he]) (Jag _ _ (by simp) (by simp)) (Jm2 ?_)))
   ·refine Tot.ev ?_;unfold EX;simp only [c3];exact Jm3 hWE (Tot.iteT (by simp [he]) (Jm2 rfl))
   ·simp [he]
end Go.AI
end
section
namespace Go.AI
theorem Kl {n:Int} (h:okI .u8 n):U8 n:=by
 unfold okI Lit.wf at h;have:IntKind.u8.min=0/\IntKind.u8.max=255:=by decide
 unfold U8;simp only [Jny,decide_eq_true_eq] at h;omega
theorem U0 {r:DY} (h:LI r):Jab r:=by
 obtain ⟨a,b,c,d,e,f⟩:=h;exact ⟨λ y hy=>Kl (a y hy),λ y hy=>Kl (b y hy),Kl c,Kl d,Kl e,Kl f⟩
theorem JbN {x:NY} (h:Zp x):Qm x:=⟨(Kl h.1).1,λ r hr=>U0 (h.2.2 r hr)⟩
theorem Jfj {l:List Int} (h:∀ a∈l,okI .u8 a):∀ a∈l,U8 a:=λ a ha=>Kl (h a ha)
theorem Jml {y:BB} (hy:EP y):U8 y.At/\U8 y.Cut/\∀ a∈y.L,U8 a:=⟨Kl hy.1,Kl hy.2.1,Jfj hy.2.2⟩
theorem JkR:∀ x l ys,Zp x->(∀ a∈l,okI .u8 a)->(∀ a∈ys,EP a)->∃ n,EO n x l ys=some true:=λ _ _ _ h hl hy=>(Jmk (JbN h) (Jfj hl) λ y hm=>Jml (hy y hm)).out
end Go.AI
end
section
namespace Go.Proofs.YtjaogfjfamffnaaGreat
open Go.AI Go.ChangeShapes Go.WideShapes Go.ChangeAt Go.RowKit
theorem own:ownKnob Tryz.prog.godebug=none:=by kernel_rfl
set_option maxRecDepth 100000 in
theorem JkS (os:Os) (started:os.Started) (H:Type) (enc:TypeId×Value->H) :
  ReturnsInHanded {} Tryz.checked os 4 .any (Rows.reviseScriptsSpec.pre6 enc Tryz.prog Tryz.f4 Rows.reviseScriptsRow.domain false) (Rows.reviseScriptsSpec.post enc Tryz.prog Tryz.f4 false true false false):=by
 refine returnsInHanded_of_change (C:=Tryz.checked) own started (by kernel_rfl) Tryz.func4
  (ChangeSpec.witness6 (enc:=enc) (C:=Tryz.checked) false ⟨#[],#[.agg #[.int .u8 0,.int .u8 0,.slice none 0 0],.slice none 0 0,.slice none 0 0],[]⟩ 8 (by kernel_rfl) (by kernel_rfl) (by kernel_rfl) (by kernel_rfl)) ?_
 intro W base args ds gs before hval0 hW hcnd _;have hval:∀ (j:Nat) t v,Tryz.f4.params[j]? = some t->args[j]? = some v->Value.okWide Tryz.prog W .any base t v:=hval0;have hW':=hW;obtain ⟨p,q,hA0,hV,rfl,hfz,hnd⟩:=hW;have hA:DataW.TrodAll enc Tryz.prog W 0 (λ _=>true) true Tryz.f4.params.toList args.toList ds p:=hA0;have hlt:=hA.lt;rw [Tryz.params4] at hA hval;obtain ⟨v0,vs0,d0,ds0,p0,q0,hargs,rfl,rfl,h0,r0⟩:=trodAll_cons hA;obtain ⟨v1,vs1,d1,ds1,p1,q1,rfl,rfl,rfl,h1,r1⟩:=trodAll_cons r0;obtain ⟨v2,vs2,d2,ds2,p2,q2,rfl,rfl,rfl,h2,r2⟩:=trodAll_cons r1;obtain ⟨rfl,rfl,rfl⟩:=trodAll_nil r2;obtain rfl:args=#[v0,v1,v2]:=by cases args;simp_all
 obtain ⟨rfl,rfl⟩:=trodVars_none hV;obtain ⟨cs0,hc0,_⟩:=okWide_struct Tryz.underlying24 (hval 0 24 v0 rfl rfl);obtain ⟨a0,k0,rep0⟩:=Jgv hc0 h0 JmS;obtain ⟨x1,y1,z1,hc1⟩:=okWide_slice Tryz.underlying25 (hval 1 25 v1 rfl rfl);obtain ⟨a1,k1,rep1⟩:=Z7 (y:=λ a=>.sl (a.map eU8)) (by rw [hc1];rfl) h1 Jgw (λ _=>rfl);obtain ⟨x2,y2,z2,hc2⟩:=okWide_slice Tryz.underlying47 (hval 2 47 v2 rfl rfl);obtain ⟨a2,k2,rep2⟩:=Z7 (y:=λ a=>.sl (a.map Cp)) (by rw [hc2];rfl) h2 JmU (λ _=>rfl);clear hA0 hval0;simp only [List.append_nil] at hW' hlt;obtain ⟨n,hn⟩:=JkR a0 a1 a2 k0 k1 k2;refine (Jex (Nt hn) (WD rep0 (WD rep1 (WD rep2 JkC)))).mono λ e W' ⟨he,hg,hold⟩=>?_;subst he;exact ⟨_,rfl,Jbl (pv:=[]) hW' (λ _ _ _=>(trodAll_cons_mk (shut_bool Tryz.underlying4 _) trodAll_mk0)) (λ sp hsp=>trodAll_cons_mk (Jey (by kernel_rfl) (by kernel_rfl) (of_decide_eq_true (by kernel_rfl)) h0 (λ p hp=>hlt p (by simp [hp])) (λ p hp=>hsp p (by simp [hp])) hold) (trodAll_cons_mk (Jey (by kernel_rfl) (by kernel_rfl) (of_decide_eq_true (by kernel_rfl)) h1 (λ p hp=>hlt p (by simp [hp])) (λ p hp=>hsp p (by simp [hp])) hold) (trodAll_cons_mk (Jey (by kernel_rfl) (by kernel_rfl) (of_decide_eq_true (by kernel_rfl)) h2 (λ p hp=>hlt p (by simp [hp])) (λ p hp=>hsp p (by simp [hp])) hold) trodAll_mk0))) (λ _ _=>rfl) (by simp) (hg _) hold (ok_one (by kernel_rfl) rfl (okWide_bool_mk Tryz.underlying4 _))⟩
theorem JmV:Rows.reviseScriptsRow.holds Tryz.pinned (OpenSpec.ofChange Rows.reviseScriptsSpec):=
 OpenClaim.holds_of_wide 4 Tryz.f4 rfl rfl rfl rfl rfl rfl rfl ⟨rfl,rfl,rfl,rfl,rfl⟩ rfl rfl rfl rfl rfl (by kernel_rfl) Tryz.func4 (by kernel_rfl)
  (of_decide_eq_true (by kernel_rfl)) (by unfold Func.isWrapper;first|(rw [if_pos (by decide +kernel)];kernel_rfl)|(rw [if_neg (by decide +kernel)];exact ⟨rfl,rfl⟩))
  (λ os started H enc _=>JkS os started H enc)
theorem reviseScripts_holds:Rows.ReviseScriptsSaid:=JmV
end Go.Proofs.YtjaogfjfamffnaaGreat
end
