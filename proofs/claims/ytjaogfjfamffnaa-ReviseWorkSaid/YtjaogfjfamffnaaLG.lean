/- The theorem: the last one of this text; part 7 of 7 of its proof. It holds with no condition beyond the given statement. -/
import Derived.Test.YtjaogfjfamffnaaLF
import Derived.Test.YtjaogfjfamffnaaRows
section
namespace Go.AI
section
variable {t:Ad} (hT:F6 t) {s:List UInt8} (hs:s.length≤4000)
include hT hs
omit hs in
theorem YW {s':List UInt8} {i:Nat} (hi:i≤s'.length) {P:Nat->Prop} {l ls:List Int} (hC:Ck t s' P l ls) {x:List UInt8}:ZE l (CC (A4 t x)) (i*(Aa t).length) (Aa t).length=some (spl l (i*(Aa t).length) (CC (A4 t x))):=by
 have _:=hT
 unfold ZE
 rw [if_pos]
 rw [MO,hC.len]
 exact ⟨I5 (by omega),Nat.le_refl _⟩
theorem Jfk {put:List UInt8} {a k:Nat} (hak:a+k≤s.length) (hl':(Ar s put a k).length≤4000) (gr:AM) (e1 e2:List Int) {l0 ls0:List Int} (h0:Ck t (Ar s put a k) (λ _=>False) l0 ls0) :
  Tot (λ n=>whl (λ (x:((List Int)×(List Int)×Int))=>CF n (Cn t s) ⟨(a:Int),(k:Int),put⟩ (Ar s put a k) gr (Hf (Aa t).length ((Ar s put a k).length+1),e1,e2) x.1 x.2.1 x.2.2) n (ls0,l0,((a+put.length:Nat):Int))) (λ y=>Ck t (Ar s put a k) (λ p=>a+put.length≤p) y.2 y.1):=by
 have hlen:=H9 hT
 have hsl:=Hc (put:=put) hak
 refine Tot.upto (body:=λ n x=>CF n (Cn t s) ⟨(a:Int),(k:Int),put⟩ (Ar s put a k) gr (Hf (Aa t).length ((Ar s put a k).length+1),e1,e2) x.1 x.2.1 x.2.2) ((Ar s put a k).length+1-(a+put.length)) (λ m x=>x.2.2=((a+put.length+m:Nat):Int)∧Ck t (Ar s put a k) (λ p=>a+put.length≤p∧p<a+put.length+m) x.2.1 x.1) ?_ ?_ _ ⟨rfl,h0.mono λ p _ h=>by omega⟩
 ·rintro m ⟨ls,l,i'⟩ hm ⟨q1,hC⟩
  simp only at q1 hC
  subst q1
  have hi:a+put.length+m≤(Ar s put a k).length:=by omega
  have ho:a+m+k≤s.length:=by omega
  have hd:=Pi (put:=put) hak (i:=a+put.length+m) (by omega)
  have ei:a+put.length+m-put.length+k=a+m+k:=by omega
  rw [ei] at hd
  obtain ⟨m1,m2⟩:=Rk (t:=t) ho
  have hll:=hC.ll
  unfold CF
  have eo:Au .i64 (Dw .i64 ((a+put.length+m:Nat):Int) ((List.length put:Nat):Int)) (k:Int)=((a+m+k:Nat):Int):=by
   rw [NB (by omega) (by omega),FG (by omega) (by omega)];omega
  simp only [eo]
  have hset:=hC.set hi
  rw [hd] at hset
  refine Tot.iteT (by simp;omega) (Tot.bindC (S7 (by omega)) (Tot.bindC m1 (Tot.bindC (YW hT hi hC) (Tot.bindC m2 (Tot.bindC (Fg (show a+put.length+m<ls.length by omega)) (Tot.bindC (F4 (show a+put.length+m<ls.length by omega)) (Tot.pure ⟨CH (by omega),hset.mono λ p _ h=>by omega⟩)))))))
 ·rintro ⟨ls,l,i'⟩ ⟨q1,hC⟩
  simp only at q1 hC
  subst q1
  unfold CF
  refine Tot.iteF (by simp;omega) (Tot.pure (hC.mono λ p h1 h2=>by omega))
theorem Jfl {put:List UInt8} {a k:Nat} (hak:a+k≤s.length) (hl':(Ar s put a k).length≤4000) (e1 e2:List Int) {l0 ls0:List Int} (h0:Ck t (Ar s put a k) (λ p=>a+put.length≤p) l0 ls0) :
  Tot (λ n=>whl (λ (x:((List Int)×(List Int)×Int×Int))=>C9 n (Cn t s) ⟨(a:Int),(k:Int),put⟩ (Ar s put a k) (BF t) (Hf (Aa t).length ((Ar s put a k).length+1),e1,e2) x.1 x.2.1 x.2.2.1 x.2.2.2) n (ls0,l0,0,Dw .i64 ((a+put.length:Nat):Int) 1))
   (λ y=>∃ r:Nat,y.2.2.2.1=(r:Int)∧y.2.2.1=((a+put.length-r:Nat):Int)∧Ck t (Ar s put a k) (λ p=>r≤p) y.2.1 y.1∧S8 t s (Ar s put a k) a (a+put.length) r∧(0<r->r+3≤a∧∀ j,r≤j->j≤r+3->EqC t y.2.2.2.2 (s.drop j) ((Ar s put a k).drop j))):=by
 have hlen:=H9 hT
 have hsl:=Hc (put:=put) hak
 have e0:Dw .i64 ((a+put.length:Nat):Int) 1=((a+put.length:Nat):Int)-1:=NB (by omega) (by omega)
 rw [e0]
 refine Tot.whl (body:=λ n x=>C9 n (Cn t s) ⟨(a:Int),(k:Int),put⟩ (Ar s put a k) (BF t) (Hf (Aa t).length ((Ar s put a k).length+1),e1,e2) x.1 x.2.1 x.2.2.1 x.2.2.2) (λ m x=>x.2.2.2=(m:Int)-1∧m≤a+put.length∧x.2.2.1=((a+put.length-m:Nat):Int)∧Ck t (Ar s put a k) (λ p=>m≤p) x.2.1 x.1∧∀ j,m≤j->j<a+put.length->¬Pk t s (Ar s put a k) a j) ?_ (a+put.length) _ ⟨rfl,Nat.le_refl _,by simp,h0,by omega⟩
 rintro m ⟨ls,l,cnt,i'⟩ ⟨q1,q2,q3,hC,hN⟩
 simp only at q1 q3 hC
 subst q1 q3
 unfold C9
 cases m with
 | zero=>
  refine Tot.iteF (by simp) (Tot.pure ⟨0,rfl,by simp,hC,⟨by omega,λ j h1 h2=>hN j (by omega) h2,.inl rfl⟩,λ h=>by omega⟩)
 | succ i=>
  have ei:((i+1:Nat):Int)-1=(i:Int):=by omega
  rw [ei]
  have hi:i≤(Ar s put a k).length:=by omega
  have hll:=hC.ll
  have hset:=(hC.set hi).mono (R:=λ p=>i≤p) λ p _ h=>by omega
  have ec:Au .i64 ((a+put.length-(i+1):Nat):Int) 1=((a+put.length-i:Nat):Int):=by rw [FG (by omega) (by omega)];omega
  have hJ:¬Pk t s (Ar s put a k) a i->Tot (λ n=>C8 n ((a+put.length-(i+1):Nat):Int) (i:Int) (ls.set i (Bw (A4 t ((Ar s put a k).drop i)))) (spl l (i*(Aa t).length) (CC (A4 t ((Ar s put a k).drop i)))))
    (Rd2 (λ x:List Int×List Int×Int×Int=>∃ j,j<i+1∧(x.2.2.2=(j:Int)-1∧j≤a+put.length∧x.2.2.1=((a+put.length-j:Nat):Int)∧Ck t (Ar s put a k) (λ p=>j≤p) x.2.1 x.1∧∀ j',j≤j'->j'<a+put.length->¬Pk t s (Ar s put a k) a j'))
     (λ y:List Int×List Int×Int×Int×Int=>∃ r:Nat,y.2.2.2.1=(r:Int)∧y.2.2.1=((a+put.length-r:Nat):Int)∧Ck t (Ar s put a k) (λ p=>r≤p) y.2.1 y.1∧S8 t s (Ar s put a k) a (a+put.length) r∧(0<r->r+3≤a∧∀ j,r≤j->j≤r+3->EqC t y.2.2.2.2 (s.drop j) ((Ar s put a k).drop j)))):=by
   intro hst
   unfold C8
   refine Tot.pure ⟨i,by omega,?_,by omega,ec,hset,λ j h1 h2=>?_⟩
   ·show Dw .i64 (i:Int) 1=(i:Int)-1
    rw [NB (by omega) (by omega)]
   ·by_cases e:j=i
    ·rw [e];exact hst
    ·exact hN j (by omega) h2
  have e3:Au .i64 (i:Int) 3=((i+3:Nat):Int):=by rw [FG (by omega) (by omega)];omega
  refine Tot.iteT (by simp) (Tot.bindE (Ji1 hT hl' hi (hC.lat λ p _ h=>by omega)) (Tot.bindC (Fg (show i<ls.length by omega)) (Tot.bindC (F4 (show i<ls.length by omega)) ?_)))
  rw [e3]
  by_cases ha:a<i+3
  ·exact Tot.iteT (by simp;omega) (hJ λ h=>by have:=h.1;omega)
  ·refine Tot.iteF (by simp;omega) (Tot.bind (Yq hT hs hl' (a:=a) (i:=i) (by omega) (by omega) (by omega) hset _) ?_)
   rintro ⟨d,ok⟩ (⟨h1,h2⟩|⟨h1,h2⟩)
   ·simp only at h1 h2
    subst h1
    refine Tot.iteT rfl (Tot.pure ⟨i,rfl,ec,hset,⟨by omega,λ j g1 g2=>hN j (by omega) g2,.inr ⟨by omega,d,h2⟩⟩,λ _=>⟨by omega,h2⟩⟩)
   ·simp only at h1
    subst h1
    exact Tot.iteF rfl (hJ h2)
theorem Jfm {put:List UInt8} {a k:Nat} (hak:a+k≤s.length) (hl':(Ar s put a k).length≤4000) (e1 e2:List Int) {l0 ls0:List Int} {r:Nat} (hr:r≤a) (h0:Ck t (Ar s put a k) (λ p=>r≤p) l0 ls0) {d cnt:Int} (hS:∀ p,p<r->Sh t d (s.drop p) ((Ar s put a k).drop p)) :
  Tot (λ n=>whl (λ (x:((List Int)×(List Int)×Int))=>CG n (Cn t s) (Ar s put a k) (Hf (Aa t).length ((Ar s put a k).length+1),e1,e2) (ls0,l0,cnt,(r:Int),d) x.1 x.2.1 x.2.2) n (ls0,l0,0)) (λ y=>Ck t (Ar s put a k) (λ _=>True) y.2 y.1):=by
 have hlen:=H9 hT
 have hsl:=Hc (put:=put) hak
 refine Tot.upto (body:=λ n x=>CG n (Cn t s) (Ar s put a k) (Hf (Aa t).length ((Ar s put a k).length+1),e1,e2) (ls0,l0,cnt,(r:Int),d) x.1 x.2.1 x.2.2) r (λ m x=>x.2.2=(m:Int)∧Ck t (Ar s put a k) (λ p=>r≤p∨p<m) x.2.1 x.1) ?_ ?_ _ ⟨rfl,h0.mono λ p _ h=>by omega⟩
 ·rintro m ⟨ls,l,i'⟩ hm ⟨q1,hC⟩
  simp only at q1 hC
  subst q1
  have hi:m≤(Ar s put a k).length:=by omega
  obtain ⟨m1,m2⟩:=Rk (t:=t) (s:=s) (i:=m) (by omega)
  have hll:=hC.ll
  have hE:=(hS m hm).eqc
  have hL:=(hS m hm).lst
  have r1:=Rj hT hs (i:=m) (by omega)
  have r2:=Rj hT hl' hi
  have hset:=(hC.set hi).mono (R:=λ p=>r≤p∨p<m+1) λ p _ h=>by omega
  rw [← hE.1] at hset
  have hJ:∀ v,v=Bw (A4 t ((Ar s put a k).drop m))->Tot (λ n=>Da n (m:Int) (ls.set m v) (spl l (m*(Aa t).length) (CC (A4 t (s.drop m))))) (Rd2 (λ x:List Int×List Int×Int=>x.2.2=((m+1:Nat):Int)∧Ck t (Ar s put a k) (λ p=>r≤p∨p<m+1) x.2.1 x.1) (λ y=>Ck t (Ar s put a k) (λ _=>True) y.2 y.1)):=by
   rintro v rfl
   unfold Da
   exact Tot.pure ⟨CH (by omega),hset⟩
  unfold CG
  refine Tot.iteT (Ha hm) (Tot.bindC (S7 (by omega)) (Tot.bindC m1 (Tot.bindC (YW hT hi hC) (Tot.bindC m2 (Tot.bindC (Fg (show m<ls.length by omega)) (Tot.bindC (F4 (show m<ls.length by omega)) (Tot.bindC m2 (Tot.ite (λ h=>?_) λ h=>?_))))))))
  ·have h0:0≤Bw (A4 t (s.drop m)):=by simpa using h
   rw [if_neg (by omega)] at hL
   have hgs:(ls.set m (Bw (A4 t (s.drop m))))[m]? = some (Bw (A4 t (s.drop m))):=List.getElem?_set_self (show m<ls.length by omega)
   refine Tot.bindC (Eg hgs) (Tot.bindC (Eg hgs) (Tot.bindC (F4 (by rw [List.length_set];exact (show m<ls.length by omega))) ?_))
   have ea:Au .i64 (Bw (A4 t (s.drop m))) d=Bw (A4 t (s.drop m))+d:=FG (by omega) (by omega)
   simp only [List.set_set,ea]
   exact hJ _ hL.symm
  ·have h0:Bw (A4 t (s.drop m))<0:=by simpa using h
   rw [if_pos h0] at hL
   exact hJ _ (by omega)
 ·rintro ⟨ls,l,i'⟩ ⟨q1,hC⟩
  simp only at q1 hC
  subst q1
  unfold CG
  exact Tot.iteF (by simp) (Tot.pure (hC.mono λ p _ _=>by omega))
theorem Qe {put:List UInt8} {a k:Nat} (hak:a+k≤s.length) (hp:put.length≤4000) (hl':(Ar s put a k).length≤4000) (hx:(Ar s put a k).all FH=true) :
  Tot (λ n=>CM n t (Cn t s) ⟨(a:Int),(k:Int),put⟩) (λ y=>y.1=Cn t (Ar s put a k)∧y.2.2=0∧∃ r,S8 t s (Ar s put a k) a (a+put.length) r∧y.2.1=((a+put.length-r:Nat):Int)):=by
 have hsl:=Hc (put:=put) hak
 have c3:(Cn t s).Text=s:=rfl
 unfold CM
 have es:Dw .i64 ((List.length s:Nat):Int) (a:Int)=((s.length-a:Nat):Int):=by rw [NB (by omega) (by omega)];omega
 have eak:Au .i64 (a:Int) (k:Int)=((a+k:Nat):Int):=by rw [FG (by omega) (by omega)];omega
 have ep:Au .i64 (a:Int) ((List.length put:Nat):Int)=((a+put.length:Nat):Int):=by rw [FG (by omega) (by omega)];omega
 simp only [c3,es,eak,ep]
 have hsub:sub s ((a+k:Nat):Int) ((List.length s:Nat):Int)=some (s.drop (a+k)):=by
  rw [Ui (by omega) (by omega) (by omega),Int.toNat_natCast,Int.toNat_natCast,List.take_length]
 have ht:=JeW (s:=Ar s put a k) (by omega)
 rw [W4 hx] at ht
 refine Tot.iteF (by simp;omega) (Tot.bindC (Pb (by omega)) (Tot.bindC (P9 (by simp;omega)) (Tot.bindC hsub (Tot.bindC (P9 (by simp;omega)) ?_))))
 refine Tot.bindE ht (Tot.iteF rfl (Tot.bindE (JdK hT) (Tot.bindE (Ji4 hT hs) (Tot.iteF rfl (Tot.bindE (JdM hT hl') (Tot.bind (Jfk hT hs hak hl' _ _ _ (Yp _ _)) ?_))))))
 rintro ⟨ls1,l1⟩ h1
 refine Tot.bindC (y:=()) rfl (Tot.bind (Jfl hT hs hak hl' _ _ h1) ?_)
 rintro ⟨ls2,l2,cnt,rst,d⟩ ⟨r,q1,q2,hC,hR,hE⟩
 simp only at q1 q2 hC hE
 subst q1 q2
 have hra:r≤a:=by
  rcases Nat.eq_zero_or_pos r with h|h
  ·omega
  ·have:=(hE h).1;omega
 have hS:∀ p,p<r->Sh t d (s.drop p) ((Ar s put a k).drop p):=by
  intro p hp'
  obtain ⟨g1,g2⟩:=hE (by omega)
  exact Sh.all hT (d:=d) (i:=r) (a:=a) g1 (by omega) (by omega) (Pj hak).symm (λ j j1 j2=>(g2 j j1 (by omega)).sh) (r-p) p (by omega)
 refine Tot.bind (Jfm hT hs hak hl' _ _ hra hC hS) ?_
 rintro ⟨ls3,l3⟩ h3
 obtain ⟨g1,g2⟩:=h3.memo λ _ _=>trivial
 refine Tot.bindC g1 (Tot.pure ⟨g2,rfl,r,hR,rfl⟩)
end
end Go.AI
end
section
namespace Go.AI
theorem S9 {t:Ad} {s:List UInt8} (ht:Jm t) (h:QG t s):s.all FH=true:=by
 obtain ⟨_,p,hp,rfl⟩:=h
 rw [List.all_eq_true]
 intro b hb
 simp only [D1,List.mem_flatMap] at hb
 obtain ⟨k,hk,hb⟩:=hb
 have:=hp k hk
 have hm:=GC this.1 this.2
 have hs:=ht.sound _ hm
 simp only [GB,Bool.and_eq_true] at hs
 exact List.all_eq_true.1 hs.1.1.1.1.1.1 b hb
theorem JdO {t:Ad} (h6:F6 t) {s:List UInt8} (hs:s.length≤40) {y:BK} (h1:U8 y.At) (h2:U8 y.Cut) (h3:∀ a∈y.L,U8 a) :
  Tot (λ n=>OJ n t s y) (λ c=>∃ (a k:Nat) (put:List UInt8),c=⟨(a:Int),(k:Int),put⟩∧a+k≤s.length∧(put=[]∨QG t put)∧s.length+put.length≤40):=by
 have hrl:=h6.tab.1
 unfold OJ
 have e1:Au .i64 ((List.length s:Nat):Int) 1=((s.length+1:Nat):Int):=CH (by omega)
 have w1:IntKind.i64.wrap y.At=y.At:=w64 (by unfold U8 at h1;omega) (by unfold U8 at h1;omega)
 have w2:IntKind.i64.wrap y.Cut=y.Cut:=w64 (by unfold U8 at h2;omega) (by unfold U8 at h2;omega)
 rw [e1,w1,w2]
 unfold U8 at h1 h2
 obtain ⟨a,ha,hal⟩:∃ a:Nat,A8 y.At ((s.length+1:Nat):Int)=(a:Int)∧a≤s.length:=by
  obtain ⟨g1,g2,g3⟩:=Qa (a:=y.At) (m:=((s.length+1:Nat):Int)) (by omega) (by omega)
  exact ⟨(A8 y.At ((s.length+1:Nat):Int)).toNat,by omega,by omega⟩
 rw [ha]
 have e2:Dw .i64 ((List.length s:Nat):Int) (a:Int)=((s.length-a:Nat):Int):=by rw [NB (by omega) (by omega)];omega
 rw [e2]
 have e3:(if 5<((s.length-a:Nat):Int) then 5 else ((s.length-a:Nat):Int))=((min 5 (s.length-a):Nat):Int):=by split<;>omega
 rw [e3]
 have e4:Au .i64 ((min 5 (s.length-a):Nat):Int) 1=((min 5 (s.length-a)+1:Nat):Int):=CH (by omega)
 rw [e4]
 obtain ⟨k,hk,hkl⟩:∃ k:Nat,A8 y.Cut ((min 5 (s.length-a)+1:Nat):Int)=(k:Int)∧k≤min 5 (s.length-a):=by
  obtain ⟨g1,g2,g3⟩:=Qa (a:=y.Cut) (m:=((min 5 (s.length-a)+1:Nat):Int)) (by omega) (by omega)
  exact ⟨(A8 y.Cut ((min 5 (s.length-a)+1:Nat):Int)).toNat,by omega,by omega⟩
 rw [hk]
 have e5:(if 3<((List.length y.L:Nat):Int) then 3 else ((List.length y.L:Nat):Int))=((min 3 y.L.length:Nat):Int):=by split<;>omega
 rw [e5]
 have g1:Bm (!(((s.length+1:Nat):Int)==0))=some ():=by
  unfold Bm;rw [if_pos];simp;omega
 have g2:Bm (!(((min 5 (s.length-a)+1:Nat):Int)==0))=some ():=by
  unfold Bm;rw [if_pos];simp;omega
 refine Tot.bindC g1 (Tot.bindC (Pb (by omega)) (Tot.bindC g2 (Tot.bind (S6 (t:=t) (by omega) (λ r hr=>by have:=(h6.tab.2 r hr).2.2.2.2;omega) (l:=y.L.take (min 3 y.L.length)) λ a ha=>h3 a (List.mem_of_mem_take ha)) ?_)))
 intro put hp
 have hpl:=hp.1
 have e6:Au .i64 ((List.length s:Nat):Int) ((List.length put:Nat):Int)=((s.length+put.length:Nat):Int):=by rw [FG (by omega) (by omega)];omega
 rw [e6]
 unfold IE
 refine Tot.ite (λ h=>Tot.pure ⟨a,k,[],rfl,by omega,.inl rfl,by simp;omega⟩) λ h=>Tot.pure ⟨a,k,put,rfl,by omega,.inr hp,?_⟩
 have:¬(40:Int)<((s.length+put.length:Nat):Int):=by simpa using h
 omega
theorem Yr {s put:List UInt8} {a k:Nat} (hak:a+k≤s.length) (hs:s.length≤4000) (hp:put.length≤4000):Ev (λ n=>IF n s ⟨(a:Int),(k:Int),put⟩) (Ar s put a k):=by
 refine Tot.ev ?_
 unfold IF
 have eak:Au .i64 (a:Int) (k:Int)=((a+k:Nat):Int):=by rw [FG (by omega) (by omega)];omega
 simp only [eak]
 have hsub:sub s ((a+k:Nat):Int) ((List.length s:Nat):Int)=some (s.drop (a+k)):=by
  rw [Ui (by omega) (by omega) (by omega),Int.toNat_natCast,Int.toNat_natCast,List.take_length]
 exact Tot.bindC (Pb (by omega)) (Tot.bindC (P9 (by simp;omega)) (Tot.bindC hsub (Tot.bindC (P9 (by simp;omega)) (Tot.pure rfl))))
theorem Jak {t:Ad} {s:List UInt8} {a r:Nat} (h:S8 t s s a a r):a-r=min a 3:=by
 have hE:∀ i,i+3≤a->Pk t s s a i:=λ i hi=>⟨hi,0,λ j _ _=>⟨rfl,λ _=>by omega⟩⟩
 obtain ⟨h1,h2,h3⟩:=h
 rcases Nat.lt_or_ge r (a-3) with h|h
 ·exact absurd (hE (a-3) (by omega)) (h2 (a-3) h (by omega))
 ·rcases h3 with h3|h3
  ·omega
  ·have:=h3.1;omega
theorem Jks {x:MX} (hx:Pc x) {l:List Int} (hl:∀ a∈l,U8 a) {y:BK} (h1:U8 y.At) (h2:U8 y.Cut) (h3:∀ a∈y.L,U8 a):Ev (λ n=>FR n x l y) true:=by
 obtain ⟨t,⟨ht,_⟩,hE⟩:=Yk hx
 have h6:=ht.six
 have hrl:=h6.tab.1
 refine Tot.ev ?_
 unfold FR
 obtain ⟨s,hr,hrE⟩:=S6 (t:=t) (by omega) (λ r hr=>by have:=(h6.tab.2 r hr).2.2.2.2;omega) hl
 have hs12:=hr.1
 have hs4:s.length≤4000:=by omega
 have hst:=S9 ht hr
 refine Tot.bindE Ym (Tot.bindE hE (Tot.bindE hrE (Tot.bindE (YV h6 hs4) (Tot.bind (JdO h6 (by omega) h1 h2 h3) ?_))))
 rintro _ ⟨a,k,put,rfl,hak,hput,h40⟩
 have hsl:=Hc (put:=put) hak
 have hs4':(Ar s put a k).length≤4000:=by omega
 have hpt:put.all FH=true:=by
  rcases hput with rfl|h
  ·rfl
  ·exact S9 ht h
 have hst':(Ar s put a k).all FH=true:=by
  unfold Ar
  rw [List.all_append,List.all_append,hpt]
  have g1:(s.take a).all FH=true:=List.all_eq_true.2 λ b hb=>List.all_eq_true.1 hst b (List.mem_of_mem_take hb)
  have g2:(s.drop (a+k)).all FH=true:=List.all_eq_true.2 λ b hb=>List.all_eq_true.1 hst b (List.mem_of_mem_drop hb)
  rw [g1,g2];rfl
 refine Tot.bind (Qe h6 hs4 hak (by omega) hs4' hst') ?_
 rintro ⟨m1,c1,e1⟩ ⟨q1,q2,r,hR,q3⟩
 simp only at q1 q2 q3
 subst q1 q2 q3
 have hself:=VG s a
 refine Tot.bind (Qe (put:=[]) (a:=a) (k:=0) h6 hs4 (by omega) (by simp) (by rw [hself];exact hs4) (by rw [hself];exact hst)) ?_
 rintro ⟨m2,c2,e2⟩ ⟨q1,q2,r',hR',q3⟩
 simp only at q1 q2 q3
 subst q1 q2 q3
 rw [hself] at hR'
 have hmin:=Jak hR'
 have hr2:put.length≤a+put.length-r:=by
  obtain ⟨g1,g2,g3⟩:=hR
  rcases g3 with g3|g3
  ·omega
  ·have:=g3.1;omega
 simp only [List.length_nil,Nat.add_zero,hmin]
 have ep:Au .i64 (a:Int) ((List.length put:Nat):Int)=((a+put.length:Nat):Int):=by rw [FG (by omega) (by omega)];omega
 have e3:(if 3<(a:Int) then 3 else (a:Int))=((min a 3:Nat):Int):=by split<;>omega
 rw [ep,e3]
 refine Tot.iteF (by simp;omega) (Tot.bindE (Yr hak hs4 (by omega)) (Tot.bindE (YV h6 hs4') (Tot.bindE (Xh h6 hs4' _) ?_)))
 rw [decide_eq_true (rfl:Cn t (Ar s put a k)=_)]
 have eak:Au .i64 (a:Int) (k:Int)=((a+k:Nat):Int):=by rw [FG (by omega) (by omega)];omega
 rw [eak]
 have hsub:sub s (a:Int) ((a+k:Nat):Int)=some ((s.take (a+k)).drop a):=by
  rw [Ui (by omega) (by omega) (by omega),Int.toNat_natCast,Int.toNat_natCast]
 have hback:Ar (Ar s put a k) ((s.take (a+k)).drop a) a put.length=s:=by
  have g1:=Pj (put:=put) hak
  have g2:=Pi (put:=put) hak (i:=a+put.length) (by omega)
  unfold Ar at g1 g2 ⊢
  rw [g1,g2]
  have:a+put.length-put.length+k=a+k:=by omega
  rw [this]
  have g3:s.take a++(s.take (a+k)).drop a=s.take (a+k):=by
   have:=List.take_append_drop a (s.take (a+k))
   rwa [List.take_take,Nat.min_eq_left (by omega)] at this
  rw [g3,List.take_append_drop]
 refine Tot.iteF rfl (Tot.bindC hsub (Tot.bind (Qe (put:=(s.take (a+k)).drop a) (a:=a) (k:=put.length) h6 hs4' (by omega) (by simp;omega) (by rw [hback];exact hs4) (by rw [hback];exact hst)) ?_))
 rintro ⟨m3,c3,e3'⟩ ⟨q1,q2,_⟩
 simp only at q1 q2
 subst q1 q2
 rw [hback]
 refine Tot.gE (by rfl) (Xh h6 hs4 _) (Tot.pure ?_)
 rw [decide_eq_true (rfl:Cn t s=Cn t s)]
 rfl
end Go.AI
end
section
namespace Go.AI
theorem Jo {n:Int} (h:okI .u8 n):U8 n:=by
 unfold okI Lit.wf at h
 have:IntKind.u8.min=0∧IntKind.u8.max=255:=by decide
 unfold U8
 simp only [Bool.and_eq_true,decide_eq_true_eq] at h
 omega
theorem TF {r:Dp} (h:Kw r):YR r:=by
 obtain ⟨a,b,c,d,e,f⟩:=h
 exact ⟨λ y hy=>Jo (a y hy),λ y hy=>Jo (b y hy),Jo c,Jo d,Jo e,Jo f⟩
theorem Jal {x:MX} (h:X6 x):Pc x:=⟨(Jo h.1).1,λ r hr=>TF (h.2.2 r hr)⟩
theorem JdP {l:List Int} (h:∀ a∈l,okI .u8 a):∀ a∈l,U8 a:=λ a ha=>Jo (h a ha)
theorem Ji5:∀ x l y,X6 x->(∀ a∈l,okI .u8 a)->IU y->∃ n,FR n x l y=some true:=λ _ _ _ h hl hy=>(Jks (Jal h) (JdP hl) (Jo hy.1) (Jo hy.2.1) (JdP hy.2.2)).out
end Go.AI
end
section
namespace Go.Proofs.Ytjaogfjfamffnaa
open Go.AI Go.ChangeShapes Go.WideShapes Go.ChangeAt Go.RowKit
theorem own:ownKnob Try.prog.godebug=none:=by kernel_rfl
set_option maxRecDepth 100000 in
theorem Ji6 (os:Os) (started:os.Started) (H:Type) (enc:TypeId×Value->H) :
  ReturnsInHanded {} Try.checked os 5 .any (Rows.reviseWorkSpec.pre6 enc Try.prog Try.f5 Rows.reviseWorkRow.domain false) (Rows.reviseWorkSpec.post enc Try.prog Try.f5 false true false false):=by
 refine returnsInHanded_of_change (C:=Try.checked) own started (by kernel_rfl) Try.func5
  (ChangeSpec.witness6 (enc:=enc) (C:=Try.checked) false ⟨#[],#[.agg #[.int .u8 0,.int .u8 0,.slice none 0 0],.slice none 0 0,.agg #[.int .u8 0,.int .u8 0,.slice none 0 0]],[]⟩ 8 (by kernel_rfl) (by kernel_rfl) (by kernel_rfl) (by kernel_rfl)) ?_
 intro W base args ds gs before hval0 hW hcnd _
 have hval:∀ (j:Nat) t v,Try.f5.params[j]? = some t->args[j]? = some v->Value.okWide Try.prog W .any base t v:=hval0
 have hW':=hW
 obtain ⟨p,q,hA0,hV,rfl,hfz,hnd⟩:=hW
 have hA:DataW.TrodAll enc Try.prog W 0 (λ _=>true) true Try.f5.params.toList args.toList ds p:=hA0
 have hlt:=hA.lt
 rw [Try.params5] at hA hval
 obtain ⟨v0,vs0,d0,ds0,p0,q0,hargs,rfl,rfl,h0,r0⟩:=trodAll_cons hA
 obtain ⟨v1,vs1,d1,ds1,p1,q1,rfl,rfl,rfl,h1,r1⟩:=trodAll_cons r0
 obtain ⟨v2,vs2,d2,ds2,p2,q2,rfl,rfl,rfl,h2,r2⟩:=trodAll_cons r1
 obtain ⟨rfl,rfl,rfl⟩:=trodAll_nil r2
 obtain rfl:args=#[v0,v1,v2]:=by cases args;simp_all
 obtain ⟨rfl,rfl⟩:=trodVars_none hV
 obtain ⟨cs0,hc0,_⟩:=okWide_struct Try.underlying24 (hval 0 24 v0 rfl rfl)
 obtain ⟨a0,k0,rep0⟩:=YP hc0 h0 Jk0
 obtain ⟨x1,y1,z1,hc1⟩:=okWide_slice Try.underlying25 (hval 1 25 v1 rfl rfl)
 obtain ⟨a1,k1,rep1⟩:=JeT (y:=λ a=>.sl (List.map eU8 a)) (by rw [hc1];rfl) h1 JeU (λ _=>rfl)
 obtain ⟨cs2,hc2,_⟩:=okWide_struct Try.underlying54 (hval 2 54 v2 rfl rfl)
 obtain ⟨a2,k2,rep2⟩:=YP hc2 h2 Jk1
 clear hA0 hval0
 simp only [List.append_nil] at hW' hlt
 obtain ⟨n,hn⟩:=Ji5 a0 a1 a2 k0 k1 k2
 refine (Jc6 (O5 hn) (Vl rep0 (Vl rep1 (Vl rep2 JiQ)))).mono λ e W' ⟨he,hg,hold⟩=>?_
 subst he
 exact ⟨_,rfl,Z0 (pv:=[]) hW' (λ _ _ _=>(trodAll_cons_mk (shut_bool Try.underlying4 _) trodAll_mk0)) (λ sp hsp=>trodAll_cons_mk (Jc7 (by kernel_rfl) (by kernel_rfl) (of_decide_eq_true (by kernel_rfl)) h0 (λ p hp=>hlt p (by simp [hp])) (λ p hp=>hsp p (by simp [hp])) hold) (trodAll_cons_mk (Jc7 (by kernel_rfl) (by kernel_rfl) (of_decide_eq_true (by kernel_rfl)) h1 (λ p hp=>hlt p (by simp [hp])) (λ p hp=>hsp p (by simp [hp])) hold) (trodAll_cons_mk (Jc7 (by kernel_rfl) (by kernel_rfl) (of_decide_eq_true (by kernel_rfl)) h2 (λ p hp=>hlt p (by simp [hp])) (λ p hp=>hsp p (by simp [hp])) hold) trodAll_mk0))) (λ _ _=>rfl) (by simp) (hg _) hold (ok_one (by kernel_rfl) rfl (okWide_bool_mk Try.underlying4 _))⟩
theorem Jk2:Rows.reviseWorkRow.holds Try.pinned (OpenSpec.ofChange Rows.reviseWorkSpec):=
 OpenClaim.holds_of_wide 5 Try.f5 rfl rfl rfl rfl rfl rfl rfl ⟨rfl,rfl,rfl,rfl,rfl⟩ rfl rfl rfl rfl rfl (by kernel_rfl) Try.func5 (by kernel_rfl)
  (of_decide_eq_true (by kernel_rfl)) (by unfold Func.isWrapper;first|(rw [if_pos (by decide +kernel)];kernel_rfl)|(rw [if_neg (by decide +kernel)];exact ⟨rfl,rfl⟩))
  (λ os started H enc _=>Ji6 os started H enc)
theorem reviseWork_holds:Rows.ReviseWorkSaid:=Jk2
end Go.Proofs.Ytjaogfjfamffnaa
end
