/- The theorem: the last one of this text; part 7 of 7 of its proof. It holds with no condition beyond the given statement. -/
import Derived.Test.YtjaogfjfamffnaaLF
import Derived.Test.YtjaogfjfamffnaaRows
section
namespace Go.AI
noncomputable def Tw (t:Ad) (x:List UInt8):List Int:=(Af t).map λ q=>AG t q x
def Hs (a v:Int):Int:=if 0<=v/\(a<0\/v<a) then v else a
def PE (l:List Int):Int:=l.foldl Hs (-1)
def Jfv (l:List Int):List Int:=l.map λ v=>if v<0 then -1 else v-PE l
noncomputable def JdS (t:Ad) (s:List UInt8):BM:=⟨s,(List.range (s.length+1)).map λ i=>Jfv (Tw t (s.drop i)),(List.range (s.length+1)).map λ i=>PE (Tw t (s.drop i))⟩
theorem LO.eq {t:Ad} {s:List UInt8} {i:Nat} {row:List Int} (h:LO t s i row):row=Tw t (s.drop i):=by
 refine List.ext_getElem? λ j=>?_
 unfold Tw
 rw [Jlk]
 rcases Nat.lt_or_ge j (Af t).length with hj|hj
 ·rw [h.val j _ (Jlg hj),Jlg hj];rfl
 ·rw [JlC (by rw [h.len];exact hj),JlC hj];rfl
theorem JdT (l:List Int):∀ a,(l.foldl Hs a=a\/l.foldl Hs a∈l)/\(0<=a->0<=l.foldl Hs a/\l.foldl Hs a<=a)/\∀ v∈l,0<=v->0<=l.foldl Hs a/\l.foldl Hs a<=v:=by
 induction l with
 | nil=>intro a;exact ⟨.inl rfl,λ h=>⟨h,Int.le_refl _⟩,λ v hv=>by cases hv⟩
 | cons x l ih=>
  intro a
  obtain ⟨h1,h2,h3⟩:=ih (Hs a x)
  rw [List.foldl_cons]
  have hm:Hs a x=a\/Hs a x=x:=by unfold Hs;split<;>simp
  have hb:(0<=a->0<=Hs a x/\Hs a x<=a)/\(0<=x->0<=Hs a x/\Hs a x<=x):=by unfold Hs;split<;>omega
  refine ⟨?_,λ ha=>?_,λ v hv h0=>?_⟩
  ·rcases h1 with h1|h1
   ·rcases hm with hm|hm
    ·exact .inl (h1.trans hm)
    ·exact .inr (by rw [h1,hm];simp)
   ·exact .inr (List.mem_cons_of_mem _ h1)
  ·have:=hb.1 ha;have:=h2 this.1;omega
  ·rcases List.mem_cons.1 hv with rfl|hv
   ·have:=hb.2 h0;have:=h2 this.1;omega
   ·exact h3 v hv h0
theorem Jjk (l:List Int):PE l=-1\/PE l∈l:=(JdT l (-1)).1
theorem Jav {l:List Int} {B:Int} (hB:-1<=B) (h:∀ v∈l,-1<=v/\v<=B):-1<=PE l/\PE l<=B:=by
 rcases Jjk l with h1|h1
 ·omega
 ·exact h _ h1
theorem Jaw {l:List Int} {k:Nat} (h:k<l.length) (a:Int):(l.take (k+1)).foldl Hs a=Hs ((l.take k).foldl Hs a) l[k]:=by
 rw [List.take_add_one,Jlg h,List.foldl_append]
 rfl
theorem JdU {out:List (List Int)} {i:Nat} {row:List Int} (hr:out[i]? = some row) (hl:row.length<1000000) (m:BM):Tot (λ n=>whl (λ (x:(Int×Int))=>FN n out m (i:Int) x.1 x.2) n (-1,0)) (λ y=>y=PE row):=by
 have hi:=CC hr
 refine Tot.upto (body:=λ n x=>FN n out m (i:Int) x.1 x.2) row.length (λ k x=>x.2=(k:Int)/\x.1=(row.take k).foldl Hs (-1)) ?_ ?_ _ ⟨rfl,rfl⟩
 ·rintro k ⟨a,k'⟩ hk ⟨e1,e2⟩
  simp only at e1 e2
  subst e1
  have hv:=Oj hk
  have hJ:∀ b,b=Hs a row[k]->Tot (λ n=>Hg n (k:Int) b) (Rd2 (λ x:Int×Int=>x.2=((k+1:Nat):Int)/\x.1=(row.take (k+1)).foldl Hs (-1)) (λ y=>y=PE row)):=by
   intro b hb
   unfold Hg
   exact Tot.pure ⟨CP (by omega),by rw [Jaw hk,← e2];exact hb⟩
  unfold FN
  refine Tot.bindC hi (Tot.iteT (Fx hk) (Tot.bindC hi (Tot.bindC hv ?_)))
  by_cases h0:0<=row[k]
  ·by_cases h1:a<0
   ·refine Tot.gF (by simp [h1]) (Tot.gF (by simp [h1]) (Tot.iteT (by simp [h0,h1]) (Tot.bindC hi (Tot.bindC hv (hJ _ ?_)))))
    unfold Hs;rw [if_pos ⟨h0,.inl h1⟩]
   ·refine Tot.gE (by simp;omega) (Ev.all λ _=>hi) (Tot.gE (by simp;omega) (Ev.all λ _=>hv) (Tot.ite (λ h=>Tot.bindC hi (Tot.bindC hv (hJ _ ?_))) λ h=>hJ _ ?_))
    ·unfold Hs
     simp only [Jlh,JlA,decide_eq_true_eq] at h
     rw [if_pos ⟨h0,h.2⟩]
    ·unfold Hs
     rw [if_neg]
     intro hc
     rw [← Bool.not_eq_true] at h
     refine h ?_
     simp only [Jlh,JlA,decide_eq_true_eq]
     exact ⟨h0,hc.2⟩
  ·refine Tot.gF (by simp;omega) (Tot.gF (by simp;omega) (Tot.iteF (by simp;omega) (hJ _ ?_)))
   unfold Hs;rw [if_neg λ h=>h0 h.1]
 ·rintro ⟨a,k'⟩ ⟨e1,e2⟩
  simp only at e1 e2
  subst e1
  rw [List.take_length] at e2
  unfold FN
  exact Tot.bindC hi (Tot.iteF (by simp) (Tot.pure e2))
theorem JdV {out:List (List Int)} {i:Nat} {row:List Int} (hr:out[i]? = some row) (hl:row.length<1000000) (hb:∀ v∈row,-1<=v/\v<=13000000) (m:BM):Tot (λ n=>whl (λ (x:((List Int)×Int))=>FO n out m (i:Int) (PE row) x.1 x.2) n ([],0)) (λ y=>y=Jfv row):=by
 have hi:=CC hr
 have hlr:=Jav (by decide) hb
 refine Tot.upto (body:=λ n x=>FO n out m (i:Int) (PE row) x.1 x.2) row.length (λ k x=>x.2=(k:Int)/\x.1=(row.take k).map λ v=>if v<0 then -1 else v-PE row) ?_ ?_ _ ⟨rfl,by simp⟩
 ·rintro k ⟨a,k'⟩ hk ⟨e1,e2⟩
  simp only at e1 e2
  subst e1
  have hv:=Oj hk
  have hbk:=hb _ (List.getElem_mem hk)
  have hla:a.length=k:=by rw [e2];simp;omega
  have hJ:∀ b,b=a++[if row[k]<0 then -1 else row[k]-PE row]->Tot (λ n=>Hh n (k:Int) b) (Rd2 (λ x:List Int×Int=>x.2=((k+1:Nat):Int)/\x.1=(row.take (k+1)).map λ v=>if v<0 then -1 else v-PE row) (λ y=>y=Jfv row)):=by
   intro b h
   unfold Hh
   refine Tot.pure ⟨CP (by omega),?_⟩
   rw [h,e2,List.take_add_one,Jlg hk,List.map_append]
   rfl
  unfold FO
  refine Tot.bindC hi (Tot.iteT (Fx hk) (Tot.bindC hi (Tot.bindC hv (Tot.ite (λ h=>Tot.bindC (Gg (by simp;omega)) (hJ _ ?_)) λ h=>Tot.bindC hi (Tot.bindC hv (Tot.bindC (Gg (by simp;omega)) (hJ _ ?_)))))))
  ·rw [decide_eq_true_eq] at h
   rw [if_pos h]
  ·rw [decide_eq_false_iff_not] at h
   rw [if_neg h,Xf (by omega) (by omega)]
 ·rintro ⟨a,k'⟩ ⟨e1,e2⟩
  simp only at e1 e2
  subst e1
  rw [List.take_length] at e2
  unfold FO
  exact Tot.bindC hi (Tot.iteF (by simp) (Tot.pure e2))
section
variable {t:Ad} (hT:Ln t) {s:List UInt8} (hs:s.length<=4000)
include hT hs
theorem Y3 {i:Nat} (hi:i<=s.length):(Tw t (s.drop i)).length=(Af t).length/\∀ v∈Tw t (s.drop i),-1<=v/\v<=((3072*(s.length-i+1):Nat):Int):=by
 refine ⟨by simp [Tw],λ v hv=>?_⟩
 obtain ⟨out,⟨_,hR⟩,_⟩:=Jn hT hs
 have h:=hR i hi
 rw [← h.eq] at hv
 obtain ⟨j,hj⟩:=List.mem_iff_getElem?.1 hv
 exact ⟨((MS hT hs h).2 j v hj).1,h.bnd j v hj⟩
theorem Jfw {i:Nat} (hi:i<=s.length) {v:Int} (hv:v∈Tw t (s.drop i)):-1<=v/\v<=13000000:=by
 have:=(Y3 hT hs hi).2 v hv
 omega
theorem Jfx:Ev (λ n=>OW n t s) (JdS t s):=by
 have hlen:=IJ hT
 refine Tot.ev ?_
 unfold OW
 refine Tot.bind (Jn hT hs) ?_
 rintro out ⟨hol,hR⟩
 refine Tot.bind (R:=λ y=>y=JdS t s) ?_ (λ y h=>Tot.pure h)
 refine Tot.upto (body:=λ n x=>Hi n out x.1 x.2) (s.length+1) (λ k x=>x.2=(k:Int)/\x.1=⟨s,(List.range k).map λ i=>Jfv (Tw t (s.drop i)),(List.range k).map λ i=>PE (Tw t (s.drop i))⟩) ?_ ?_ _ ⟨rfl,rfl⟩
 ·rintro k ⟨m,k'⟩ hk ⟨e1,e2⟩
  simp only at e1 e2
  subst e1 e2
  have hRk:=hR k (by omega)
  have hg:out[k]? = some (Tw t (s.drop k)):=by
   rw [← hRk.eq,Jlp,Jlg (by omega)];rfl
  have hrr:=Y3 hT hs (show k<=s.length by omega)
  unfold Hi
  refine Tot.iteT (by rw [hol];exact Fx hk) (Tot.bind (JdU hg (by omega) _) ?_)
  rintro _ rfl
  refine Tot.bind (JdV hg (by omega) (λ v hv=>Jfw hT hs (by omega) hv) _) ?_
  rintro _ rfl
  refine Tot.bindC (Gg (by simp;omega)) (Tot.bindC (Gg (by simp;omega)) (Tot.pure ⟨CP (by omega),?_⟩))
  simp only [List.range_succ,List.map_append,List.map_cons,List.map_nil]
 ·rintro ⟨m,k'⟩ ⟨e1,e2⟩
  simp only at e1 e2
  subst e1
  unfold Hi
  exact Tot.iteF (by rw [hol];simp) (Tot.pure e2)
end
end Go.AI
end
section
namespace Go.AI
section
variable {t:Ad} (hT:Ln t)
include hT
end
theorem Yw:Ev (λ n=>H8 n) true:=Ev.of (λ n m h=>TX h) (n:=60) (by kernel_rfl)
end Go.AI
end
section
namespace Go.AI
theorem JkH {x:Ng} (hx:Pw x) {l:List Int} (hl:∀ a∈l,U8 a):Ev (λ n=>D5 n x l) true:=by
 obtain ⟨t,⟨ht,_⟩,hE⟩:=Yv hx
 have h6:=ht.six
 have hrl:=h6.tab.1
 refine Tot.ev ?_
 unfold D5
 obtain ⟨s,hr,hrE⟩:=Yu (t:=t) (by omega) (λ r hr=>by have:=(h6.tab.2 r hr).2.2.2.2;omega) hl
 have hs4:s.length<=4000:=by have:=hr.1;omega
 refine Tot.bindE Yw (Tot.bindE hE (Tot.bindE hrE (Tot.bindE (Jfx h6 hs4) ?_)))
 obtain ⟨⟨w,a,e⟩,hW,hWE⟩:=Jat h6 hs4 ht.validT
 obtain ⟨⟨w',a',e'⟩,hW',hWE'⟩:=Jau h6 hs4
 obtain ⟨rfl,rfl,rfl⟩:=hW.uniq hW'
 have hsz:=hW.size h6 hs4
 simp only at hsz hWE hWE'
 have c3:(JdS t s).Text=s:=rfl
 by_cases he:e=0
 ·subst he
  refine Tot.bindE (x:=(w,0)) ?_ (Tot.bindE hWE' (Tot.iteF rfl (Tot.gE (by rfl) (Jfu w w (by omega) (by omega)) (Tot.pure ?_))))
  ·refine Tot.ev ?_
   unfold Ed
   rw [c3]
   exact Tot.bindE hWE (Tot.iteF rfl (Tot.pure rfl))
  ·rw [decide_eq_true (rfl:w=w)];rfl
 ·refine Tot.bindE (x:=(⟨[],[]⟩,61)) ?_ (Tot.bindE hWE' (Tot.iteT (by simp [he]) (Tot.pure rfl)))
  refine Tot.ev ?_
  unfold Ed
  rw [c3]
  exact Tot.bindE hWE (Tot.iteT (by simp [he]) (Tot.pure rfl))
end Go.AI
end
section
namespace Go.AI
theorem MV {n:Int} (h:okI .u8 n):U8 n:=by
 unfold okI Lit.wf at h
 have:IntKind.u8.min=0/\IntKind.u8.max=255:=by decide
 unfold U8
 simp only [Jlh,decide_eq_true_eq] at h
 omega
theorem TY {r:Dj} (h:K3 r):YZ r:=by
 obtain ⟨a,b,c,d,e,f⟩:=h
 exact ⟨λ y hy=>MV (a y hy),λ y hy=>MV (b y hy),MV c,MV d,MV e,MV f⟩
theorem Jax {x:Ng} (h:Yd x):Pw x:=⟨(MV h.1).1,λ r hr=>TY (h.2.2 r hr)⟩
theorem Jjl {l:List Int} (h:∀ a∈l,okI .u8 a):∀ a∈l,U8 a:=λ a ha=>MV (h a ha)
theorem Jjm:∀ x l,Yd x->(∀ a∈l,okI .u8 a)->∃ n,D5 n x l=some true:=λ _ _ h hl=>(JkH (Jax h) (Jjl hl)).out
end Go.AI
end
section
namespace Go.Proofs.Ytjaogfjfamffnaa
open Go.AI Go.ChangeShapes Go.WideShapes Go.ChangeAt Go.RowKit
theorem own:ownKnob Try.prog.godebug=none:=by kernel_rfl
set_option maxRecDepth 100000 in
theorem Jjn (os:Os) (started:os.Started) (H:Type) (enc:TypeId×Value->H) :
  ReturnsInHanded {} Try.checked os 4 .any (Rows.reviseResultsSpec.pre6 enc Try.prog Try.f4 Rows.reviseResultsRow.domain false) (Rows.reviseResultsSpec.post enc Try.prog Try.f4 false true false false):=by
 refine returnsInHanded_of_change (C:=Try.checked) own started (by kernel_rfl) Try.func4
  (ChangeSpec.witness6 (enc:=enc) (C:=Try.checked) false ⟨#[],#[.agg #[.int .u8 0,.int .u8 0,.slice none 0 0],.slice none 0 0],[]⟩ 8 (by kernel_rfl) (by kernel_rfl) (by kernel_rfl) (by kernel_rfl)) ?_
 intro W base args ds gs before hval0 hW hcnd _
 have hval:∀ (j:Nat) t v,Try.f4.params[j]? = some t->args[j]? = some v->Value.okWide Try.prog W .any base t v:=hval0
 have hW':=hW
 obtain ⟨p,q,hA0,hV,rfl,hfz,hnd⟩:=hW
 have hA:DataW.TrodAll enc Try.prog W 0 (λ _=>true) true Try.f4.params.toList args.toList ds p:=hA0
 have hlt:=hA.lt
 rw [Try.params4] at hA hval
 obtain ⟨v0,vs0,d0,ds0,p0,q0,hargs,rfl,rfl,h0,r0⟩:=trodAll_cons hA
 obtain ⟨v1,vs1,d1,ds1,p1,q1,rfl,rfl,rfl,h1,r1⟩:=trodAll_cons r0
 obtain ⟨rfl,rfl,rfl⟩:=trodAll_nil r1
 obtain rfl:args=#[v0,v1]:=by cases args;simp_all
 obtain ⟨rfl,rfl⟩:=trodVars_none hV
 obtain ⟨cs0,hc0,_⟩:=okWide_struct Try.underlying24 (hval 0 24 v0 rfl rfl)
 obtain ⟨a0,k0,rep0⟩:=Je8 hc0 h0 Jle
 obtain ⟨x1,y1,z1,hc1⟩:=okWide_slice Try.underlying25 (hval 1 25 v1 rfl rfl)
 obtain ⟨a1,k1,rep1⟩:=Je9 (y:=λ a=>.sl (a.map eU8)) (by rw [hc1];rfl) h1 Jja (λ _=>rfl)
 clear hA0 hval0
 simp only [List.append_nil] at hW' hlt
 obtain ⟨n,hn⟩:=Jjm a0 a1 k0 k1
 refine (Jdg (ML hn) (YU rep0 (YU rep1 Ji9))).mono λ e W' ⟨he,hg,hold⟩=>?_
 subst he
 exact ⟨_,rfl,Z5 (pv:=[]) hW' (λ _ _ _=>(trodAll_cons_mk (shut_bool Try.underlying4 _) trodAll_mk0)) (λ sp hsp=>trodAll_cons_mk (JfS (by kernel_rfl) (by kernel_rfl) (of_decide_eq_true (by kernel_rfl)) h0 (λ p hp=>hlt p (by simp [hp])) (λ p hp=>hsp p (by simp [hp])) hold) (trodAll_cons_mk (JfS (by kernel_rfl) (by kernel_rfl) (of_decide_eq_true (by kernel_rfl)) h1 (λ p hp=>hlt p (by simp [hp])) (λ p hp=>hsp p (by simp [hp])) hold) trodAll_mk0)) (λ _ _=>rfl) (by simp) (hg _) hold (ok_one (by kernel_rfl) rfl (okWide_bool_mk Try.underlying4 _))⟩
theorem Jlf:Rows.reviseResultsRow.holds Try.pinned (OpenSpec.ofChange Rows.reviseResultsSpec):=
 OpenClaim.holds_of_wide 4 Try.f4 rfl rfl rfl rfl rfl rfl rfl ⟨rfl,rfl,rfl,rfl,rfl⟩ rfl rfl rfl rfl rfl (by kernel_rfl) Try.func4 (by kernel_rfl)
  (of_decide_eq_true (by kernel_rfl)) (by unfold Func.isWrapper;first|(rw [if_pos (by decide +kernel)];kernel_rfl)|(rw [if_neg (by decide +kernel)];exact ⟨rfl,rfl⟩))
  (λ os started H enc _=>Jjn os started H enc)
theorem reviseResults_holds:Rows.ReviseResultsSaid:=Jlf
end Go.Proofs.Ytjaogfjfamffnaa
end
