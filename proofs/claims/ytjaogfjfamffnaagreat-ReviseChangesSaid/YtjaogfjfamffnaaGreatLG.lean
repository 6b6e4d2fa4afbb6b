/- The theorem: the last one of this text; part 7 of 7 of its proof. It holds with no condition beyond the given statement. -/
import Derived.Test.YtjaogfjfamffnaaGreatLF
import Derived.Test.YtjaogfjfamffnaaGreatRows
section
namespace Go.AI
section
variable {t:Ad} (hT:FN t) {s:List UInt8} (hs:s.length<=4000)
include hT hs
omit hs in
theorem Zg {s':List UInt8} {i:Nat} (hi:i<=s'.length) {P:Nat->Prop} {l ls:List Int} (hC:Cl t s' P l ls) {x:List UInt8}:ZY l (Ct (AW t x)) (i*(Aa t).length) (Aa t).length=some (spl l (i*(Aa t).length) (Ct (AW t x))):=by
 have _:=hT
 unfold ZY
 rw [if_pos]
 rw [KY,hC.len]
 exact ⟨Ja (by omega),Nat.le_refl _⟩
theorem JfF {put:List UInt8} {a k:Nat} (hak:a+k<=s.length) (hl':(Ar s put a k).length<=4000) (gr:AM) (e1 e2:List Int) {l0 ls0:List Int} (h0:Cl t (Ar s put a k) (λ _=>False) l0 ls0) :
  Tot (λ n=>whl (λ (x:((List Int)×(List Int)×Int))=>CG n (BE t s) ⟨(a:Int),(k:Int),put⟩ (Ar s put a k) gr (Hk (Aa t).length ((Ar s put a k).length+1),e1,e2) x.1 x.2.1 x.2.2) n (ls0,l0,((a+put.length:Nat):Int))) (λ y=>Cl t (Ar s put a k) (λ p=>a+put.length<=p) y.2 y.1):=by
 have hlen:=HN hT
 have hsl:=FL (put:=put) hak
 refine Tot.upto (body:=λ n x=>CG n (BE t s) ⟨(a:Int),(k:Int),put⟩ (Ar s put a k) gr (Hk (Aa t).length ((Ar s put a k).length+1),e1,e2) x.1 x.2.1 x.2.2) ((Ar s put a k).length+1-(a+put.length)) (λ m x=>x.2.2=((a+put.length+m:Nat):Int)/\Cl t (Ar s put a k) (λ p=>a+put.length<=p/\p<a+put.length+m) x.2.1 x.1) ?_ ?_ _ ⟨rfl,h0.mono λ p _ h=>by omega⟩
 ·rintro m ⟨ls,l,i'⟩ hm ⟨q1,hC⟩
  simp only at q1 hC
  subst q1
  have hi:a+put.length+m<=(Ar s put a k).length:=by omega
  have ho:a+m+k<=s.length:=by omega
  have hd:=VV (put:=put) hak (i:=a+put.length+m) (by omega)
  have ei:a+put.length+m-put.length+k=a+m+k:=by omega
  rw [ei] at hd
  obtain ⟨m1,m2⟩:=M6 (t:=t) ho
  have hll:=hC.ll
  unfold CG
  have eo:Au .i64 (CI .i64 ((a+put.length+m:Nat):Int) ((put.length:Nat):Int)) (k:Int)=((a+m+k:Nat):Int):=by
   rw [J2 (by omega) (by omega),EJ (by omega) (by omega)];omega
  simp only [eo]
  have hset:=hC.set hi
  rw [hd] at hset
  refine Tot.iteT (by simp;omega) (Tot.bindC (Tj (by omega)) (Tot.bindC m1 (Tot.bindC (Zg hT hi hC) (Tot.bindC m2 (Tot.bindC (Fl (show a+put.length+m<ls.length by omega)) (Tot.bindC (F9 (show a+put.length+m<ls.length by omega)) (Tot.pure ⟨CA (by omega),hset.mono λ p _ h=>by omega⟩)))))))
 ·rintro ⟨ls,l,i'⟩ ⟨q1,hC⟩
  simp only at q1 hC
  subst q1
  unfold CG
  refine Tot.iteF (by simp;omega) (Tot.pure (hC.mono λ p h1 h2=>by omega))
theorem JfG {put:List UInt8} {a k:Nat} (hak:a+k<=s.length) (hl':(Ar s put a k).length<=4000) (e1 e2:List Int) {l0 ls0:List Int} (h0:Cl t (Ar s put a k) (λ p=>a+put.length<=p) l0 ls0) :
  Tot (λ n=>whl (λ (x:((List Int)×(List Int)×Int×Int))=>Da n (BE t s) ⟨(a:Int),(k:Int),put⟩ (Ar s put a k) (BJ t) (Hk (Aa t).length ((Ar s put a k).length+1),e1,e2) x.1 x.2.1 x.2.2.1 x.2.2.2) n (ls0,l0,0,CI .i64 ((a+put.length:Nat):Int) 1))
   (λ y=>∃ r:Nat,y.2.2.2.1=(r:Int)/\y.2.2.1=((a+put.length-r:Nat):Int)/\Cl t (Ar s put a k) (λ p=>r<=p) y.2.1 y.1/\Py t s (Ar s put a k) a (a+put.length) r/\(0<r->r+3<=a/\∀ j,r<=j->j<=r+3->EqC t y.2.2.2.2 (s.drop j) ((Ar s put a k).drop j))):=by
 have hlen:=HN hT
 have hsl:=FL (put:=put) hak
 have e0:CI .i64 ((a+put.length:Nat):Int) 1=((a+put.length:Nat):Int)-1:=J2 (by omega) (by omega)
 rw [e0]
 refine Tot.whl (body:=λ n x=>Da n (BE t s) ⟨(a:Int),(k:Int),put⟩ (Ar s put a k) (BJ t) (Hk (Aa t).length ((Ar s put a k).length+1),e1,e2) x.1 x.2.1 x.2.2.1 x.2.2.2) (λ m x=>x.2.2.2=(m:Int)-1/\m<=a+put.length/\x.2.2.1=((a+put.length-m:Nat):Int)/\Cl t (Ar s put a k) (λ p=>m<=p) x.2.1 x.1/\∀ j,m<=j->j<a+put.length->¬Ga t s (Ar s put a k) a j) ?_ (a+put.length) _ ⟨rfl,Nat.le_refl _,by simp,h0,by omega⟩
 rintro m ⟨ls,l,cnt,i'⟩ ⟨q1,q2,q3,hC,hN⟩
 simp only at q1 q3 hC
 subst q1 q3
 unfold Da
 cases m with
 | zero=>
  refine Tot.iteF (by simp) (Tot.pure ⟨0,rfl,by simp,hC,⟨by omega,λ j h1 h2=>hN j (by omega) h2,.inl rfl⟩,λ h=>by omega⟩)
 | succ i=>
  have ei:((i+1:Nat):Int)-1=(i:Int):=by omega
  rw [ei]
  have hi:i<=(Ar s put a k).length:=by omega
  have hll:=hC.ll
  have hset:=(hC.set hi).mono (R:=λ p=>i<=p) λ p _ h=>by omega
  have ec:Au .i64 ((a+put.length-(i+1):Nat):Int) 1=((a+put.length-i:Nat):Int):=by rw [EJ (by omega) (by omega)];omega
  have hJ:¬Ga t s (Ar s put a k) a i->Tot (λ n=>C9 n ((a+put.length-(i+1):Nat):Int) (i:Int) (ls.set i (Bg (AW t ((Ar s put a k).drop i)))) (spl l (i*(Aa t).length) (Ct (AW t ((Ar s put a k).drop i)))))
    (Rd2 (λ x:List Int×List Int×Int×Int=>∃ j,j<i+1/\(x.2.2.2=(j:Int)-1/\j<=a+put.length/\x.2.2.1=((a+put.length-j:Nat):Int)/\Cl t (Ar s put a k) (λ p=>j<=p) x.2.1 x.1/\∀ j',j<=j'->j'<a+put.length->¬Ga t s (Ar s put a k) a j'))
     (λ y:List Int×List Int×Int×Int×Int=>∃ r:Nat,y.2.2.2.1=(r:Int)/\y.2.2.1=((a+put.length-r:Nat):Int)/\Cl t (Ar s put a k) (λ p=>r<=p) y.2.1 y.1/\Py t s (Ar s put a k) a (a+put.length) r/\(0<r->r+3<=a/\∀ j,r<=j->j<=r+3->EqC t y.2.2.2.2 (s.drop j) ((Ar s put a k).drop j)))):=by
   intro hst
   unfold C9
   refine Tot.pure ⟨i,by omega,?_,by omega,ec,hset,λ j h1 h2=>?_⟩
   ·show CI .i64 (i:Int) 1=(i:Int)-1
    rw [J2 (by omega) (by omega)]
   ·by_cases e:j=i
    ·rw [e];exact hst
    ·exact hN j (by omega) h2
  have e3:Au .i64 (i:Int) 3=((i+3:Nat):Int):=by rw [EJ (by omega) (by omega)];omega
  refine Tot.iteT (by simp) (Tot.bindE (Jjr hT hl' hi (hC.lat λ p _ h=>by omega)) (Tot.bindC (Fl (show i<ls.length by omega)) (Tot.bindC (F9 (show i<ls.length by omega)) ?_)))
  rw [e3]
  by_cases ha:a<i+3
  ·exact Tot.iteT (by simp;omega) (hJ λ h=>by have:=h.1;omega)
  ·refine Tot.iteF (by simp;omega) (Tot.bind (YK hT hs hl' (a:=a) (i:=i) (by omega) (by omega) (by omega) hset _) ?_)
   rintro ⟨d,ok⟩ (⟨h1,h2⟩|⟨h1,h2⟩)
   ·simp only at h1 h2
    subst h1
    refine Tot.iteT rfl (Tot.pure ⟨i,rfl,ec,hset,⟨by omega,λ j g1 g2=>hN j (by omega) g2,.inr ⟨by omega,d,h2⟩⟩,λ _=>⟨by omega,h2⟩⟩)
   ·simp only at h1
    subst h1
    exact Tot.iteF rfl (hJ h2)
theorem JfH {put:List UInt8} {a k:Nat} (hak:a+k<=s.length) (hl':(Ar s put a k).length<=4000) (e1 e2:List Int) {l0 ls0:List Int} {r:Nat} (hr:r<=a) (h0:Cl t (Ar s put a k) (λ p=>r<=p) l0 ls0) {d cnt:Int} (hS:∀ p,p<r->Sh t d (s.drop p) ((Ar s put a k).drop p)) :
  Tot (λ n=>whl (λ (x:((List Int)×(List Int)×Int))=>CH n (BE t s) (Ar s put a k) (Hk (Aa t).length ((Ar s put a k).length+1),e1,e2) (ls0,l0,cnt,(r:Int),d) x.1 x.2.1 x.2.2) n (ls0,l0,0)) (λ y=>Cl t (Ar s put a k) (λ _=>True) y.2 y.1):=by
 have hlen:=HN hT
 have hsl:=FL (put:=put) hak
 refine Tot.upto (body:=λ n x=>CH n (BE t s) (Ar s put a k) (Hk (Aa t).length ((Ar s put a k).length+1),e1,e2) (ls0,l0,cnt,(r:Int),d) x.1 x.2.1 x.2.2) r (λ m x=>x.2.2=(m:Int)/\Cl t (Ar s put a k) (λ p=>r<=p\/p<m) x.2.1 x.1) ?_ ?_ _ ⟨rfl,h0.mono λ p _ h=>by omega⟩
 ·rintro m ⟨ls,l,i'⟩ hm ⟨q1,hC⟩
  simp only at q1 hC
  subst q1
  have hi:m<=(Ar s put a k).length:=by omega
  obtain ⟨m1,m2⟩:=M6 (t:=t) (s:=s) (i:=m) (by omega)
  have hll:=hC.ll
  have hE:=(hS m hm).eqc
  have hL:=(hS m hm).lst
  have r1:=M5 hT hs (i:=m) (by omega)
  have r2:=M5 hT hl' hi
  have hset:=(hC.set hi).mono (R:=λ p=>r<=p\/p<m+1) λ p _ h=>by omega
  rw [← hE.1] at hset
  have hJ:∀ v,v=Bg (AW t ((Ar s put a k).drop m))->Tot (λ n=>Db n (m:Int) (ls.set m v) (spl l (m*(Aa t).length) (Ct (AW t (s.drop m))))) (Rd2 (λ x:List Int×List Int×Int=>x.2.2=((m+1:Nat):Int)/\Cl t (Ar s put a k) (λ p=>r<=p\/p<m+1) x.2.1 x.1) (λ y=>Cl t (Ar s put a k) (λ _=>True) y.2 y.1)):=by
   rintro v rfl
   unfold Db
   exact Tot.pure ⟨CA (by omega),hset⟩
  unfold CH
  refine Tot.iteT (Hg hm) (Tot.bindC (Tj (by omega)) (Tot.bindC m1 (Tot.bindC (Zg hT hi hC) (Tot.bindC m2 (Tot.bindC (Fl (show m<ls.length by omega)) (Tot.bindC (F9 (show m<ls.length by omega)) (Tot.bindC m2 (Tot.ite (λ h=>?_) λ h=>?_))))))))
  ·have h0:0<=Bg (AW t (s.drop m)):=by simpa using h
   rw [if_neg (by omega)] at hL
   have hgs:(ls.set m (Bg (AW t (s.drop m))))[m]? = some (Bg (AW t (s.drop m))):=JlL (show m<ls.length by omega)
   refine Tot.bindC (Ej hgs) (Tot.bindC (Ej hgs) (Tot.bindC (F9 (by rw [JlR];exact (show m<ls.length by omega))) ?_))
   have ea:Au .i64 (Bg (AW t (s.drop m))) d=Bg (AW t (s.drop m))+d:=EJ (by omega) (by omega)
   simp only [List.set_set,ea]
   exact hJ _ hL.symm
  ·have h0:Bg (AW t (s.drop m))<0:=by simpa using h
   rw [if_pos h0] at hL
   exact hJ _ (by omega)
 ·rintro ⟨ls,l,i'⟩ ⟨q1,hC⟩
  simp only at q1 hC
  subst q1
  unfold CH
  exact Tot.iteF (by simp) (Tot.pure (hC.mono λ p _ _=>by omega))
theorem JaD {put:List UInt8} {a k:Nat} (hak:a+k<=s.length) (hp:put.length<=4000) (hl':(Ar s put a k).length<=4000) (hx:(Ar s put a k).all Ek=true) :
  Tot (λ n=>DE n t (BE t s) ⟨(a:Int),(k:Int),put⟩) (λ y=>y.1=BE t (Ar s put a k)/\y.2.2=0/\∃ r,Py t s (Ar s put a k) a (a+put.length) r/\y.2.1=((a+put.length-r:Nat):Int)):=by
 have hsl:=FL (put:=put) hak
 have c3:(BE t s).Text=s:=rfl
 unfold DE
 have es:CI .i64 ((s.length:Nat):Int) (a:Int)=((s.length-a:Nat):Int):=by rw [J2 (by omega) (by omega)];omega
 have eak:Au .i64 (a:Int) (k:Int)=((a+k:Nat):Int):=by rw [EJ (by omega) (by omega)];omega
 have ep:Au .i64 (a:Int) ((put.length:Nat):Int)=((a+put.length:Nat):Int):=by rw [EJ (by omega) (by omega)];omega
 simp only [c3,es,eak,ep]
 have hsub:sub s ((a+k:Nat):Int) ((s.length:Nat):Int)=some (s.drop (a+k)):=by
  rw [Xm (by omega) (by omega) (by omega),JlJ,JlJ,List.take_length]
 have ht:=Jfi (s:=Ar s put a k) (by omega)
 rw [Xn hx] at ht
 refine Tot.iteF (by simp;omega) (Tot.bindC (Pr (by omega)) (Tot.bindC (Qn (by simp;omega)) (Tot.bindC hsub (Tot.bindC (Qn (by simp;omega)) ?_))))
 refine Tot.bindE ht (Tot.iteF rfl (Tot.bindE (Jd4 hT) (Tot.bindE (Jju hT hs) (Tot.iteF rfl (Tot.bindE (Jd6 hT hl') (Tot.bind (JfF hT hs hak hl' _ _ _ (YJ _ _)) ?_))))))
 rintro ⟨ls1,l1⟩ h1
 refine Tot.bindC (y:=()) rfl (Tot.bind (JfG hT hs hak hl' _ _ h1) ?_)
 rintro ⟨ls2,l2,cnt,rst,d⟩ ⟨r,q1,q2,hC,hR,hE⟩
 simp only at q1 q2 hC hE
 subst q1 q2
 have hra:r<=a:=by
  rcases Nat.eq_zero_or_pos r with h|h
  ·omega
  ·have:=(hE h).1;omega
 have hS:∀ p,p<r->Sh t d (s.drop p) ((Ar s put a k).drop p):=by
  intro p hp'
  obtain ⟨g1,g2⟩:=hE (by omega)
  exact Sh.all hT (d:=d) (i:=r) (a:=a) g1 (by omega) (by omega) (VW hak).symm (λ j j1 j2=>(g2 j j1 (by omega)).sh) (r-p) p (by omega)
 refine Tot.bind (JfH hT hs hak hl' _ _ hra hC hS) ?_
 rintro ⟨ls3,l3⟩ h3
 obtain ⟨g1,g2⟩:=h3.memo λ _ _=>trivial
 refine Tot.bindC g1 (Tot.pure ⟨g2,rfl,r,hR,rfl⟩)
end
end Go.AI
end
section
namespace Go.AI
theorem Tk {t:Ad} {s:List UInt8} (ht:Jr t) (h:QS t s):s.all Ek=true:=by
 obtain ⟨_,p,hp,rfl⟩:=h
 rw [List.all_eq_true]
 intro b hb
 simp only [D3,List.mem_flatMap] at hb
 obtain ⟨k,hk,hb⟩:=hb
 have:=hp k hk
 have hm:=GI this.1 this.2
 have hs:=ht.sound _ hm
 simp only [GH,JlA] at hs
 exact List.all_eq_true.1 hs.1.1.1.1.1.1 b hb
theorem Jd8 {t:Ad} (h6:FN t) {s:List UInt8} (hs:s.length<=40) {y:Bz} (h1:U8 y.At) (h2:U8 y.Cut) (h3:∀ a∈y.L,U8 a) :
  Tot (λ n=>O2 n t s y) (λ c=>∃ (a k:Nat) (put:List UInt8),c=⟨(a:Int),(k:Int),put⟩/\a+k<=s.length/\(put=[]\/QS t put)/\s.length+put.length<=40):=by
 have hrl:=h6.tab.1
 unfold O2
 have e1:Au .i64 ((s.length:Nat):Int) 1=((s.length+1:Nat):Int):=CA (by omega)
 have w1:IntKind.i64.wrap y.At=y.At:=w64 (by unfold U8 at h1;omega) (by unfold U8 at h1;omega)
 have w2:IntKind.i64.wrap y.Cut=y.Cut:=w64 (by unfold U8 at h2;omega) (by unfold U8 at h2;omega)
 rw [e1,w1,w2]
 unfold U8 at h1 h2
 obtain ⟨a,ha,hal⟩:∃ a:Nat,A9 y.At ((s.length+1:Nat):Int)=(a:Int)/\a<=s.length:=by
  obtain ⟨g1,g2,g3⟩:=Qo (a:=y.At) (m:=((s.length+1:Nat):Int)) (by omega) (by omega)
  exact ⟨(A9 y.At ((s.length+1:Nat):Int)).toNat,by omega,by omega⟩
 rw [ha]
 have e2:CI .i64 ((s.length:Nat):Int) (a:Int)=((s.length-a:Nat):Int):=by rw [J2 (by omega) (by omega)];omega
 rw [e2]
 have e3:(if 5<((s.length-a:Nat):Int) then 5 else ((s.length-a:Nat):Int))=((min 5 (s.length-a):Nat):Int):=by split<;>omega
 rw [e3]
 have e4:Au .i64 ((min 5 (s.length-a):Nat):Int) 1=((min 5 (s.length-a)+1:Nat):Int):=CA (by omega)
 rw [e4]
 obtain ⟨k,hk,hkl⟩:∃ k:Nat,A9 y.Cut ((min 5 (s.length-a)+1:Nat):Int)=(k:Int)/\k<=min 5 (s.length-a):=by
  obtain ⟨g1,g2,g3⟩:=Qo (a:=y.Cut) (m:=((min 5 (s.length-a)+1:Nat):Int)) (by omega) (by omega)
  exact ⟨(A9 y.Cut ((min 5 (s.length-a)+1:Nat):Int)).toNat,by omega,by omega⟩
 rw [hk]
 have e5:(if 3<((y.L.length:Nat):Int) then 3 else ((y.L.length:Nat):Int))=((min 3 y.L.length:Nat):Int):=by split<;>omega
 rw [e5]
 have g1:Bn (!(((s.length+1:Nat):Int)==0))=some ():=by
  unfold Bn;rw [if_pos];simp;omega
 have g2:Bn (!(((min 5 (s.length-a)+1:Nat):Int)==0))=some ():=by
  unfold Bn;rw [if_pos];simp;omega
 refine Tot.bindC g1 (Tot.bindC (Pr (by omega)) (Tot.bindC g2 (Tot.bind (Ti (t:=t) (by omega) (λ r hr=>by have:=(h6.tab.2 r hr).2.2.2.2;omega) (l:=y.L.take (min 3 y.L.length)) λ a ha=>h3 a (List.mem_of_mem_take ha)) ?_)))
 intro put hp
 have hpl:=hp.1
 have e6:Au .i64 ((s.length:Nat):Int) ((put.length:Nat):Int)=((s.length+put.length:Nat):Int):=by rw [EJ (by omega) (by omega)];omega
 rw [e6]
 unfold IK
 refine Tot.ite (λ h=>Tot.pure ⟨a,k,[],rfl,by omega,.inl rfl,by simp;omega⟩) λ h=>Tot.pure ⟨a,k,put,rfl,by omega,.inr hp,?_⟩
 have:¬(40:Int)<((s.length+put.length:Nat):Int):=by simpa using h
 omega
theorem YL {s put:List UInt8} {a k:Nat} (hak:a+k<=s.length) (hs:s.length<=4000) (hp:put.length<=4000):Ev (λ n=>IL n s ⟨(a:Int),(k:Int),put⟩) (Ar s put a k):=by
 refine Tot.ev ?_
 unfold IL
 have eak:Au .i64 (a:Int) (k:Int)=((a+k:Nat):Int):=by rw [EJ (by omega) (by omega)];omega
 simp only [eak]
 have hsub:sub s ((a+k:Nat):Int) ((s.length:Nat):Int)=some (s.drop (a+k)):=by
  rw [Xm (by omega) (by omega) (by omega),JlJ,JlJ,List.take_length]
 exact Tot.bindC (Pr (by omega)) (Tot.bindC (Qn (by simp;omega)) (Tot.bindC hsub (Tot.bindC (Qn (by simp;omega)) (Tot.pure rfl))))
end Go.AI
end
section
namespace Go.AI
theorem YD.empty {t:Ad} {s:List UInt8} {w:AT} {a e:Int} (h:YD t s w a e) (he:e≠0):w=⟨[],[]⟩:=by
 by_cases h1:(Hu s).2=0
 ·by_cases h2:AP t BM s<0
  ·exact (h.none h1 h2).1
  ·exact absurd (h.path h1 (by omega)).1 he
 ·exact (h.bad h1).1
theorem VX {s put:List UInt8} {a k:Nat} (h:s.all Ek=true) (hp:put.all Ek=true):(Ar s put a k).all Ek=true:=by
 unfold Ar
 have g1:(s.take a).all Ek=true:=List.all_eq_true.2 λ b hb=>List.all_eq_true.1 h b (List.mem_of_mem_take hb)
 have g2:(s.drop (a+k)).all Ek=true:=List.all_eq_true.2 λ b hb=>List.all_eq_true.1 h b (List.mem_of_mem_drop hb)
 rw [List.all_append,List.all_append,hp,g1,g2];rfl
section
variable {t:Ad} (hT:FN t) {s:List UInt8} (hs:s.length<=4000) {s':List UInt8} (hs':s'.length<=4000)
include hT hs hs'
theorem JaE {a i:Nat} (ha:i+3<=a) (h1:a<=s.length) (h2:a<=s'.length) :
  Tot (λ n=>MX n (BE t s) (BE t s') (i:Int)) (λ y=>(y=true/\Ga t s s' a i)\/(y=false/\¬Ga t s s' a i)):=by
 have hlen:=HN hT
 unfold MX
 refine Tot.bind (R:=λ y:Unit⊕Bool=>(y=.inl ()/\Ga t s s' a i)\/(y=.inr false/\¬Ga t s s' a i)) ?_ ?_
 ·have e3:Au .i64 (i:Int) 4=((i+4:Nat):Int):=by rw [EJ (by omega) (by omega)];omega
  refine Tot.upto (body:=λ n x=>FW n (BE t s) (BE t s') (i:Int) x.1 x.2.1 x.2.2) 4 (λ m x=>x.2.2=((i+m:Nat):Int)/\(∀ j,i<=j->j<i+m->EqC t x.2.1 (s.drop j) (s'.drop j))/\(x.1=false->∀ j,i<=j->j<i+m->Bg (AW t (s.drop j))<0)/\(x.1=true->∃ j,i<=j/\j<i+m/\0<=Bg (AW t (s.drop j)))) ?_ ?_ _ ⟨rfl,by omega,by omega,λ h=>by cases h⟩
  ·rintro m ⟨kn,sh,j'⟩ hm ⟨e1,g1,g2,g3⟩
   simp only at e1 g1 g2 g3
   subst e1
   have hj1:i+m<=s.length:=by omega
   have hj2:i+m<=s'.length:=by omega
   obtain ⟨m1,m2⟩:=M6 (t:=t) hj1
   obtain ⟨n1,n2⟩:=M6 (t:=t) hj2
   have hr1:=M5 hT hs hj1
   have hr2:=M5 hT hs' hj2
   unfold FW
   rw [e3]
   refine Tot.iteT (by simp;omega) (Tot.bindC m1 (Tot.bindC n1 (Tot.bindE (VO _ _ (by rw [KY];omega)) ?_)))
   by_cases he:Ct (AW t (s.drop (i+m)))=Ct (AW t (s'.drop (i+m)))
   ·rw [decide_eq_true he]
    have hneg:=Zf he
    refine Tot.gE rfl (Ev.all λ _=>m2) (Tot.gE rfl (Ev.all λ _=>n2) (Tot.iteF ?_ (Tot.bindC m2 ?_)))
    ·by_cases h0:Bg (AW t (s.drop (i+m)))<0
     ·simp [h0,hneg.1 h0]
     ·have:¬Bg (AW t (s'.drop (i+m)))<0:=λ h=>h0 (hneg.2 h)
      simp [h0,this]
    have hJ:∀ sh' kn',EqC t sh' (s.drop (i+m)) (s'.drop (i+m))->(∀ j,i<=j->j<i+m->EqC t sh' (s.drop j) (s'.drop j))->(kn'=false->Bg (AW t (s.drop (i+m)))<0/\kn=false)->(kn'=true->kn=true\/0<=Bg (AW t (s.drop (i+m))))->Tot (λ n=>FV n ((i+m:Nat):Int) kn' sh') (Rd2 (λ x:Bool×Int×Int=>x.2.2=((i+(m+1):Nat):Int)/\(∀ j,i<=j->j<i+(m+1)->EqC t x.2.1 (s.drop j) (s'.drop j))/\(x.1=false->∀ j,i<=j->j<i+(m+1)->Bg (AW t (s.drop j))<0)/\(x.1=true->∃ j,i<=j/\j<i+(m+1)/\0<=Bg (AW t (s.drop j)))) (λ y:Unit⊕Bool=>(y=.inl ()/\Ga t s s' a i)\/(y=.inr false/\¬Ga t s s' a i))):=by
     intro sh' kn' h1 h2 h3 h4
     unfold FV
     refine Tot.pure ⟨CA (by omega),λ j q1 q2=>?_,λ hk j q1 q2=>?_,λ hk=>?_⟩
     ·by_cases e:j=i+m
      ·rw [e];exact h1
      ·exact h2 j q1 (by omega)
     ·by_cases e:j=i+m
      ·rw [e];exact (h3 hk).1
      ·exact g2 (h3 hk).2 j q1 (by omega)
     ·rcases h4 hk with h|h
      ·obtain ⟨j,q1,q2,q3⟩:=g3 h
       exact ⟨j,q1,by omega,q3⟩
      ·exact ⟨i+m,by omega,by omega,h⟩
    by_cases h0:Bg (AW t (s.drop (i+m)))<0
    ·exact Tot.iteT (by simp [h0]) (hJ sh kn ⟨he,λ h=>by omega⟩ g1 (λ h=>⟨h0,h⟩) (λ h=>.inl h))
    ·have hn':¬Bg (AW t (s'.drop (i+m)))<0:=λ h=>h0 (hneg.2 h)
     have es:CI .i64 (Bg (AW t (s'.drop (i+m)))) (Bg (AW t (s.drop (i+m))))=Bg (AW t (s'.drop (i+m)))-Bg (AW t (s.drop (i+m))):=J2 (by omega) (by omega)
     refine Tot.iteF (by simp;omega) ?_
     cases hk:kn with
     | false=>
      refine Tot.gF rfl (Tot.gF rfl (Tot.iteF rfl (Tot.bindC n2 (Tot.bindC m2 ?_))))
      rw [es]
      exact hJ _ true ⟨he,λ _=>rfl⟩ (λ j q1 q2=>⟨(g1 j q1 q2).1,λ h=>by have:=g2 hk j q1 q2;omega⟩) (λ h=>by cases h) (λ _=>.inr (by omega))
     | true=>
      refine Tot.gE rfl (Ev.all λ _=>n2) (Tot.gE rfl (Ev.all λ _=>m2) ?_)
      rw [es]
      by_cases hd:Bg (AW t (s'.drop (i+m)))-Bg (AW t (s.drop (i+m)))=sh
      ·refine Tot.iteF (by simp [hd]) (Tot.bindC n2 (Tot.bindC m2 ?_))
       rw [es,hd]
       exact hJ sh true ⟨he,λ _=>hd⟩ g1 (λ h=>by cases h) (λ _=>.inl hk)
      ·refine Tot.iteT (by simp;exact hd) (Tot.pure (.inr ⟨rfl,?_⟩))
       rintro ⟨_,d,hdd⟩
       obtain ⟨j,q1,q2,q3⟩:=g3 hk
       have w1:=(hdd j q1 (by omega)).2 q3
       have w2:=(g1 j q1 q2).2 q3
       have w3:=(hdd (i+m) (by omega) (by omega)).2 (by omega)
       exact hd (by omega)
   ·rw [decide_eq_false he]
    refine Tot.gF rfl (Tot.gF rfl (Tot.iteT rfl (Tot.pure (.inr ⟨rfl,?_⟩))))
    rintro ⟨_,d,hd⟩
    exact he (hd (i+m) (by omega) (by omega)).1
  ·rintro ⟨kn,sh,j'⟩ ⟨e1,g1,g2,g3⟩
   simp only at e1 g1 g2 g3
   subst e1
   unfold FW
   rw [e3]
   exact Tot.iteF (by simp) (Tot.pure (.inl ⟨rfl,ha,sh,λ j q1 q2=>g1 j q1 (by omega)⟩))
 ·rintro y (⟨rfl,h⟩|⟨rfl,h⟩)
  ·exact Tot.pure (.inl ⟨rfl,h⟩)
  ·exact Tot.pure (.inr ⟨rfl,h⟩)
theorem JaF {a k:Nat} {put:List UInt8} (h1:a<=s.length) (h2:a+put.length<=s'.length) :
  Tot (λ n=>Ko n (BE t s) (BE t s') ⟨(a:Int),(k:Int),put⟩) (λ y=>∃ r,Py t s s' a (a+put.length) r/\y=((a+put.length-r:Nat):Int)):=by
 unfold Ko
 have ep:Au .i64 (a:Int) ((put.length:Nat):Int)=((a+put.length:Nat):Int):=by rw [EJ (by omega) (by omega)];omega
 simp only [ep]
 refine Tot.bind (R:=λ y:Int=>∃ r,Py t s s' a (a+put.length) r/\y=((a+put.length-r:Nat):Int)) ?_ (λ y hy=>Tot.pure hy)
 refine Tot.whl (body:=λ n x=>GS n (BE t s) (BE t s') ⟨(a:Int),(k:Int),put⟩ x.1 x.2) (λ m x=>x.1=(m:Int)/\m<=a+put.length/\x.2=((a+put.length-m:Nat):Int)/\∀ j,m<j->j<a+put.length->¬Ga t s s' a j) ?_ (a+put.length) _ ⟨rfl,Nat.le_refl _,by simp,by omega⟩
 rintro m ⟨i',c⟩ ⟨q1,q2,q3,hN⟩
 simp only at q1 q3
 subst q1 q3
 unfold GS
 rcases Nat.eq_zero_or_pos m with rfl|h0
 ·exact Tot.iteF (by simp) (Tot.pure ⟨0,⟨by omega,hN,.inl rfl⟩,by simp⟩)
 ·have e3:Au .i64 (m:Int) 3=((m+3:Nat):Int):=by rw [EJ (by omega) (by omega)];omega
  refine Tot.iteT (by simp;omega) ?_
  simp only [e3]
  have hgo:¬Ga t s s' a m->∃ j,j<m/\(CI .i64 (m:Int) 1=(j:Int)/\j<=a+put.length/\Au .i64 ((a+put.length-m:Nat):Int) 1=((a+put.length-j:Nat):Int)/\∀ j',j<j'->j'<a+put.length->¬Ga t s s' a j'):=by
   intro hst
   refine ⟨m-1,by omega,?_,by omega,?_,λ j g1 g2=>?_⟩
   ·rw [J2 (by omega) (by omega)];omega
   ·rw [EJ (by omega) (by omega)];omega
   ·by_cases e:j=m
    ·rw [e];exact hst
    ·exact hN j (by omega) g2
  by_cases ha:m+3<=a
  ·have hd:decide (((m+3:Nat):Int)<=(a:Int))=true:=by simp;omega
   refine Tot.guard (R:=λ y=>(y=true/\Ga t s s' a m)\/(y=false/\¬Ga t s s' a m)) (λ _=>JaE hT hs hs' ha h1 (by omega)) λ y hy=>?_
   rw [hd]
   rcases hy hd with ⟨rfl,hst⟩|⟨rfl,hst⟩
   ·exact Tot.iteT rfl (Tot.pure ⟨m,⟨q2,hN,.inr hst⟩,rfl⟩)
   ·exact Tot.iteF rfl (Tot.pure (hgo hst))
  ·have hd:decide (((m+3:Nat):Int)<=(a:Int))=false:=by simp;omega
   refine Tot.gF hd (Tot.iteF (by rw [hd];rfl) (Tot.pure (hgo λ h=>ha h.1)))
end
section
variable {t:Ad} (hT:FN t) {s:List UInt8} (hs:s.length<=4000)
include hT hs
theorem JfI {a k:Nat} {put:List UInt8} (h:a+k<=s.length) (n:Nat):O3 n s ⟨(a:Int),(k:Int),put⟩=some true:=by
 have _:=hT
 unfold O3
 have es:CI .i64 ((s.length:Nat):Int) (a:Int)=((s.length-a:Nat):Int):=by rw [J2 (by omega) (by omega)];omega
 simp only [es]
 congr 1
 simp;omega
theorem YM {put:List UInt8} {a k:Nat} (hak:a+k<=s.length) (hp:put.length<=4000) (hl':(Ar s put a k).length<=4000) (hx:(Ar s put a k).all Ek=true) :
  Tot (λ n=>Kp n t (BE t s) ⟨(a:Int),(k:Int),put⟩) (λ y=>y.1=BE t (Ar s put a k)/\y.2.2=0/\∃ r,Py t s (Ar s put a k) a (a+put.length) r/\y.2.1=((a+put.length-r:Nat):Int)):=by
 have hsl:=FL (put:=put) hak
 have c3:(BE t s).Text=s:=rfl
 unfold Kp
 rw [c3]
 have hi:=Uu (s:=Ar s put a k) (by omega)
 rw [hx] at hi
 refine Tot.bindA (λ n=>JfI hT hs hak n) (Tot.iteF rfl (Tot.bindE (YL hak hs hp) (Tot.bindE hi (Tot.iteF rfl (Tot.bindE (VR hT hl') (Tot.bind (JaF hT hs hl' (by omega) (by omega)) ?_))))))
 intro y hy
 exact Tot.pure ⟨rfl,rfl,hy⟩
end
theorem JkY {x:Nf} (hx:Ps x) {l:List Int} (hl:∀ a∈l,U8 a) {y:Bz} (h1:U8 y.At) (h2:U8 y.Cut) (h3:∀ a∈y.L,U8 a):Ev (λ n=>D6 n x l y) true:=by
 obtain ⟨t,⟨ht,_⟩,hE⟩:=YE hx
 have h6:=ht.six
 have hrl:=h6.tab.1
 refine Tot.ev ?_
 unfold D6
 obtain ⟨s,hr,hrE⟩:=Ti (t:=t) (by omega) (λ r hr=>by have:=(h6.tab.2 r hr).2.2.2.2;omega) hl
 have hs12:=hr.1
 have hs4:s.length<=4000:=by omega
 have hst:=Tk ht hr
 refine Tot.bindE YG (Tot.bindE hE (Tot.bindE hrE (Tot.bindE (VR h6 hs4) (Tot.bind (Jd8 h6 (by omega) h1 h2 h3) ?_))))
 rintro _ ⟨a,k,put,rfl,hak,hput,h40⟩
 have hsl:=FL (put:=put) hak
 have hs4':(Ar s put a k).length<=4000:=by omega
 have hpt:put.all Ek=true:=by
  rcases hput with rfl|h
  ·rfl
  ·exact Tk ht h
 have hst':=VX (a:=a) (k:=k) hst hpt
 refine Tot.bind (JaD h6 hs4 hak (by omega) hs4' hst') ?_
 rintro ⟨m1,c1,e1⟩ ⟨q1,q2,r,hR,q3⟩
 simp only at q1 q2 q3
 subst q1 q2 q3
 refine Tot.bind (YM h6 hs4 hak (by omega) hs4' hst') ?_
 rintro ⟨m2,c2,e2⟩ ⟨q1,q2,r',hR',q3⟩
 simp only at q1 q2 q3
 subst q1 q2 q3
 have:=hR.uniq (by omega) hR'
 subst this
 refine Tot.gE (by rfl) (XA h6 hs4' _) ?_
 rw [decide_eq_true (rfl:BE t (Ar s put a k)=_)]
 refine Tot.gE (by simp) (VR h6 hs4) (Tot.gE (by simp) (XA h6 hs4 _) (Tot.pure ?_))
 rw [decide_eq_true (rfl:BE t s=BE t s)]
 simp
end Go.AI
end
section
namespace Go.AI
theorem Jt {n:Int} (h:okI .u8 n):U8 n:=by
 unfold okI Lit.wf at h
 have:IntKind.u8.min=0/\IntKind.u8.max=255:=by decide
 unfold U8
 simp only [JlA,decide_eq_true_eq] at h
 omega
theorem TT {r:Dq} (h:KE r):Zc r:=by
 obtain ⟨a,b,c,d,e,f⟩:=h
 exact ⟨λ y hy=>Jt (a y hy),λ y hy=>Jt (b y hy),Jt c,Jt d,Jt e,Jt f⟩
theorem JaG {x:Nf} (h:Yp x):Ps x:=⟨(Jt h.1).1,λ r hr=>TT (h.2.2 r hr)⟩
theorem Jd9 {l:List Int} (h:∀ a∈l,okI .u8 a):∀ a∈l,U8 a:=λ a ha=>Jt (h a ha)
theorem Jea {y:Bz} (hy:FZ y):U8 y.At/\U8 y.Cut/\∀ a∈y.L,U8 a:=⟨Jt hy.1,Jt hy.2.1,Jd9 hy.2.2⟩
theorem Jjv:∀ x l y,Yp x->(∀ a∈l,okI .u8 a)->FZ y->∃ n,D6 n x l y=some true:=λ _ _ _ h hl hy=>(JkY (JaG h) (Jd9 hl) (Jea hy).1 (Jea hy).2.1 (Jea hy).2.2).out
end Go.AI
end
section
namespace Go.Proofs.YtjaogfjfamffnaaGreat
open Go.AI Go.ChangeShapes Go.WideShapes Go.ChangeAt Go.RowKit
theorem own:ownKnob Tryz.prog.godebug=none:=by kernel_rfl
set_option maxRecDepth 100000 in
theorem Jjw (os:Os) (started:os.Started) (H:Type) (enc:TypeId×Value->H) :
  ReturnsInHanded {} Tryz.checked os 3 .any (Rows.reviseChangesSpec.pre6 enc Tryz.prog Tryz.f3 Rows.reviseChangesRow.domain false) (Rows.reviseChangesSpec.post enc Tryz.prog Tryz.f3 false true false false):=by
 refine returnsInHanded_of_change (C:=Tryz.checked) own started (by kernel_rfl) Tryz.func3
  (ChangeSpec.witness6 (enc:=enc) (C:=Tryz.checked) false ⟨#[],#[.agg #[.int .u8 0,.int .u8 0,.slice none 0 0],.slice none 0 0,.agg #[.int .u8 0,.int .u8 0,.slice none 0 0]],[]⟩ 8 (by kernel_rfl) (by kernel_rfl) (by kernel_rfl) (by kernel_rfl)) ?_
 intro W base args ds gs before hval0 hW hcnd _
 have hval:∀ (j:Nat) t v,Tryz.f3.params[j]? = some t->args[j]? = some v->Value.okWide Tryz.prog W .any base t v:=hval0
 have hW':=hW
 obtain ⟨p,q,hA0,hV,rfl,hfz,hnd⟩:=hW
 have hA:DataW.TrodAll enc Tryz.prog W 0 (λ _=>true) true Tryz.f3.params.toList args.toList ds p:=hA0
 have hlt:=hA.lt
 rw [Tryz.params3] at hA hval
 obtain ⟨v0,vs0,d0,ds0,p0,q0,hargs,rfl,rfl,h0,r0⟩:=trodAll_cons hA
 obtain ⟨v1,vs1,d1,ds1,p1,q1,rfl,rfl,rfl,h1,r1⟩:=trodAll_cons r0
 obtain ⟨v2,vs2,d2,ds2,p2,q2,rfl,rfl,rfl,h2,r2⟩:=trodAll_cons r1
 obtain ⟨rfl,rfl,rfl⟩:=trodAll_nil r2
 obtain rfl:args=#[v0,v1,v2]:=by cases args;simp_all
 obtain ⟨rfl,rfl⟩:=trodVars_none hV
 obtain ⟨cs0,hc0,_⟩:=okWide_struct Tryz.underlying24 (hval 0 24 v0 rfl rfl)
 obtain ⟨a0,k0,rep0⟩:=Za hc0 h0 Jlw
 obtain ⟨x1,y1,z1,hc1⟩:=okWide_slice Tryz.underlying25 (hval 1 25 v1 rfl rfl)
 obtain ⟨a1,k1,rep1⟩:=Jff (y:=λ a=>.sl (a.map eU8)) (by rw [hc1];rfl) h1 Jfg (λ _=>rfl)
 obtain ⟨cs2,hc2,_⟩:=okWide_struct Tryz.underlying27 (hval 2 27 v2 rfl rfl)
 obtain ⟨a2,k2,rep2⟩:=Za hc2 h2 Jlx
 clear hA0 hval0
 simp only [List.append_nil] at hW' hlt
 obtain ⟨n,hn⟩:=Jjv a0 a1 a2 k0 k1 k2
 refine (Jdr (Mv hn) (Vy rep0 (Vy rep1 (Vy rep2 Jjg)))).mono λ e W' ⟨he,hg,hold⟩=>?_
 subst he
 exact ⟨_,rfl,Jak (pv:=[]) hW' (λ _ _ _=>(trodAll_cons_mk (shut_bool Tryz.underlying4 _) trodAll_mk0)) (λ sp hsp=>trodAll_cons_mk (Jds (by kernel_rfl) (by kernel_rfl) (of_decide_eq_true (by kernel_rfl)) h0 (λ p hp=>hlt p (by simp [hp])) (λ p hp=>hsp p (by simp [hp])) hold) (trodAll_cons_mk (Jds (by kernel_rfl) (by kernel_rfl) (of_decide_eq_true (by kernel_rfl)) h1 (λ p hp=>hlt p (by simp [hp])) (λ p hp=>hsp p (by simp [hp])) hold) (trodAll_cons_mk (Jds (by kernel_rfl) (by kernel_rfl) (of_decide_eq_true (by kernel_rfl)) h2 (λ p hp=>hlt p (by simp [hp])) (λ p hp=>hsp p (by simp [hp])) hold) trodAll_mk0))) (λ _ _=>rfl) (by simp) (hg _) hold (ok_one (by kernel_rfl) rfl (okWide_bool_mk Tryz.underlying4 _))⟩
theorem Jly:Rows.reviseChangesRow.holds Tryz.pinned (OpenSpec.ofChange Rows.reviseChangesSpec):=
 OpenClaim.holds_of_wide 3 Tryz.f3 rfl rfl rfl rfl rfl rfl rfl ⟨rfl,rfl,rfl,rfl,rfl⟩ rfl rfl rfl rfl rfl (by kernel_rfl) Tryz.func3 (by kernel_rfl)
  (of_decide_eq_true (by kernel_rfl)) (by unfold Func.isWrapper;first|(rw [if_pos (by decide +kernel)];kernel_rfl)|(rw [if_neg (by decide +kernel)];exact ⟨rfl,rfl⟩))
  (λ os started H enc _=>Jjw os started H enc)
theorem reviseChanges_holds:Rows.ReviseChangesSaid:=Jly
end Go.Proofs.YtjaogfjfamffnaaGreat
end
