/- The theorem: the last one of this text; part 6 of 6 of its proof. It holds with no condition beyond the given statement. -/
import Derived.Test.YtpjdhkjmnmbdfaaLE
import Derived.KernelRfl
import Derived.Test.YtpjdhkjmnmbdfaaRows
section
namespace Go.AI
theorem Ev.iteT {α:Type} {c:Bool} {a b:Nat->Option α} {z:α} (h:c=true) (k:Ev a z):Ev (λ n=>if c=true then a n else b n) z:=by subst h;exact k
theorem Ev.iteF {α:Type} {c:Bool} {a b:Nat->Option α} {z:α} (h:c=false) (k:Ev b z):Ev (λ n=>if c=true then a n else b n) z:=by subst h;exact k
theorem Ev.bindC {α β:Type} {x:Option β} {y:β} {g:Nat->β->Option α} {z:α} (h:x=some y) (k:Ev (λ n=>g n y) z):Ev (λ n=>x.bind (g n)) z:=by subst h;exact k
theorem Ev.guard {α β:Type} {c:Bool} {f:Nat->Option β} {d x:β} {g:Nat->β->Option α} {z:α} (h:c=true->Ev f x) (k:Ev (λ n=>g n (if c=true then x else d)) z):Ev (λ n=>(if c=true then f n else some d).bind (g n)) z:=by
 cases c with
 | true=>exact Ev.bind (h rfl) k
 | false=>exact k
theorem Jbh {α β:Type} {a:List α} {b:List β}:(((a.length:Nat):Int) != ((b.length:Nat):Int))=decide (a.length≠b.length):=by
 rw [Bool.eq_iff_iff]
 simp only [bne_iff_ne,ne_eq,decide_eq_true_eq]
 omega
theorem Sq {α:Type} [DecidableEq α] [Inhabited α] (a b:List α) (h:a.length=b.length):scan a.length (λ i=>if a.getD i default=b.getD i default then none else some false)=if a=b then .inl () else .inr false:=by
 by_cases e:a=b
 ·subst e
  rw [if_pos rfl]
  exact G6 λ i _=>by rw [if_pos rfl]
 ·rw [if_neg e]
  have:∃ i,i<a.length/\a.getD i default≠b.getD i default:=by
   apply Classical.byContradiction
   intro hn
   refine e (List.ext_getElem h λ i h1 h2=>?_)
   have:=Classical.byContradiction λ hc=>hn ⟨i,h1,hc⟩
   rwa [Cf h1,Cf h2] at this
  obtain ⟨i,hi,hne⟩:=this
  obtain ⟨k,r,_,hr,hs⟩:=G7 (stop:=λ i=>if a.getD i default=b.getD i default then none else some false) hi (by rw [if_neg hne];rfl)
  rw [hs]
  split at hr
  ·cases hr
  ·cases hr;rfl
theorem TJ (a b:List Int) (ha:a.length<9223372036854775807):Ev (λ n=>Gl n a b) (decide (a=b)):=by
 unfold Gl
 rw [Jbh]
 by_cases h:a.length=b.length
 ·refine Ev.iteF (by simp [h]) ?_
  refine Ev.bind (Gm a.length (λ i=>if a.getD i default=b.getD i default then none else some false) (λ i hi=>Ev.all λ n=>?_) (Ev.all λ n=>?_)) ?_
  ·unfold El
   rw [if_pos (Fp hi),Hv hi,Hv (by omega)]
   simp only [Option.bind_some]
   by_cases e:a.getD i default=b.getD i default
   ·rw [if_neg (by simp only [bne_iff_ne,ne_eq];exact λ hh=>hh e),if_pos e,Ez (by omega)]
   ·rw [if_pos (by simp only [bne_iff_ne,ne_eq];exact e),if_neg e]
  ·unfold El
   rw [if_neg (by simp)]
  ·rw [Sq a b h]
   by_cases e:a=b
   ·rw [if_pos e,decide_eq_true e];exact Ev.const
   ·rw [if_neg e,decide_eq_false e];exact Ev.const
 ·refine Ev.iteT (by simp [h]) ?_
  rw [decide_eq_false (λ e=>h (by rw [e]))]
  exact Ev.const
theorem Vj (a b:List Int) (ha:a.length<9223372036854775807):Ev (λ n=>G1 n a b) (decide (a=b)):=by
 unfold G1
 rw [Jbh]
 by_cases h:a.length=b.length
 ·refine Ev.iteF (by simp [h]) ?_
  refine Ev.bind (Gm a.length (λ i=>if a.getD i default=b.getD i default then none else some false) (λ i hi=>Ev.all λ n=>?_) (Ev.all λ n=>?_)) ?_
  ·unfold Ej
   rw [if_pos (Fp hi),Hv hi,Hv (by omega)]
   simp only [Option.bind_some]
   by_cases e:a.getD i default=b.getD i default
   ·rw [if_neg (by simp only [bne_iff_ne,ne_eq];exact λ hh=>hh e),if_pos e,Ez (by omega)]
   ·rw [if_pos (by simp only [bne_iff_ne,ne_eq];exact e),if_neg e]
  ·unfold Ej
   rw [if_neg (by simp)]
  ·rw [Sq a b h]
   by_cases e:a=b
   ·rw [if_pos e,decide_eq_true e];exact Ev.const
   ·rw [if_neg e,decide_eq_false e];exact Ev.const
 ·refine Ev.iteT (by simp [h]) ?_
  rw [decide_eq_false (λ e=>h (by rw [e]))]
  exact Ev.const
theorem Xg (a b:Av):decide (a=b)=(a.Print==b.Print&&decide (a.Cells=b.Cells)&&a.Left==b.Left&&a.Right==b.Right&&a.From==b.From&&a.To==b.To):=by
 rw [Bool.eq_iff_iff]
 cases a;cases b
 simp only [decide_eq_true_eq,Av.mk.injEq,Ji0,beq_iff_eq]
 exact ⟨λ ⟨h1,h2,h3,h4,h5,h6⟩=>⟨⟨⟨⟨⟨h1,h2⟩,h3⟩,h4⟩,h5⟩,h6⟩,λ ⟨⟨⟨⟨⟨h1,h2⟩,h3⟩,h4⟩,h5⟩,h6⟩=>⟨h1,h2,h3,h4,h5,h6⟩⟩
theorem Vk (a b:Av) (ha:a.Cells.length<9223372036854775807):Ev (λ n=>GP n a b) (decide (a=b)):=by
 unfold GP
 refine Ev.guard (λ _=>TJ a.Cells b.Cells ha) (Ev.all λ n=>?_)
 rw [Xg]
 cases h:(a.Print==b.Print)<;>simp
theorem Jbi (a b:Av) (ha:a.Cells.length<9223372036854775807):Ev (λ n=>G2 n a b) (decide (a=b)):=by
 unfold G2
 refine Ev.guard (λ _=>Vj a.Cells b.Cells ha) (Ev.all λ n=>?_)
 rw [Xg]
 cases (a.Print==b.Print)<;>cases (a.Left==b.Left)<;>cases (a.Right==b.Right)<;>cases (a.From==b.From)<;>cases (a.To==b.To)<;>simp
theorem Vl (b:UInt8):(FF (Nf b)==4)=DT b:=by
 have:∀ k:Nat,k<256->(FF (k:Int)==4)=(Cm .u8 (k:Int) 127==32):=by decide +kernel
 exact this b.toNat b.toNat_lt
theorem Jbj {s:List UInt8} {f:UInt8->Bool}:scan s.length (λ i=>if f (s.getD i 0) then some true else none)=if s.any f then .inr true else .inl ():=by
 cases h:s.any f with
 | false=>
  rw [List.any_eq_false] at h
  exact G6 λ i hi=>by rw [Cf hi,if_neg (h _ (List.getElem_mem hi))]
 | true=>
  rw [List.any_eq_true] at h
  obtain ⟨b,hb,hf⟩:=h
  obtain ⟨i,hi,e⟩:=List.getElem_of_mem hb
  obtain ⟨k,r,_,hr,hs⟩:=G7 (stop:=λ i=>if f (s.getD i 0) then some true else none) hi (by rw [Cf hi,e,hf];rfl)
  rw [hs]
  split at hr
  ·cases hr;rfl
  ·cases hr
theorem Vm {s:List UInt8} (hl:s.length<9223372036854775807):Ev (λ n=>Eh n s) (s.any DT):=by
 unfold Eh
 refine Ev.bind (Gm s.length (λ i=>if DT (s.getD i 0) then some true else none) (λ i hi=>Ev.all λ n=>?_) (Ev.all λ n=>?_)) ?_
 ·unfold CY
  have hg:s[i]? = some s[i]:=JiZ hi
  rw [if_pos (Fp hi),Ng hg,Cf hi]
  simp only [Option.bind_some,Q8,Vl]
  cases DT s[i] with
  | true=>simp
  | false=>simp [Ez (show i<9223372036854775807 by omega)]
 ·unfold CY
  rw [if_neg (by simp)]
 ·rw [Jbj]
  cases s.any DT<;>exact Ev.const
theorem Ym {l:List Int} {f:Int->Bool}:scan l.length (λ i=>if f (l.getD i 0) then none else some false)=if l.all f then .inl () else .inr false:=by
 cases h:l.all f with
 | true=>
  rw [List.all_eq_true] at h
  exact G6 λ i hi=>by rw [Cf hi,if_pos (h _ (List.getElem_mem hi))]
 | false=>
  rw [List.all_eq_false] at h
  obtain ⟨b,hb,hf⟩:=h
  obtain ⟨i,hi,e⟩:=List.getElem_of_mem hb
  obtain ⟨k,r,_,hr,hs⟩:=G7 (stop:=λ i=>if f (l.getD i 0) then none else some false) hi (by rw [Cf hi,e,if_neg hf];rfl)
  rw [hs]
  split at hr
  ·cases hr
  ·cases hr;rfl
def OQ (c:Int):Bool:=decide (c<63)&&!(c==0)
theorem Yn {r:Av} (hp:r.Print.length<9223372036854775807) (hc:r.Cells.length<9223372036854775807) (m:Int):Ev (λ n=>G0 n r m) (Cw r m):=by
 unfold G0
 by_cases g1:(((decide (((r.Print.length:Nat):Int)>4))||(decide (((r.Cells.length:Nat):Int)<1)))||(decide (((r.Cells.length:Nat):Int)>4)))=true
 ·refine Ev.iteT g1 ?_
  have:Cw r m=false:=by
   rw [← Bool.not_eq_true];intro h
   simp only [Cw,Ji0,decide_eq_true_eq] at h
   simp only [Jjj,decide_eq_true_eq] at g1
   omega
  rw [this];exact Ev.const
 ·rw [Bool.not_eq_true] at g1
  refine Ev.iteF g1 (Ev.bind (Xf hp) ?_)
  cases ha:r.Print.all Hw with
  | false=>
   refine Ev.iteT (by rw [Sp ha];rfl) ?_
   have:Cw r m=false:=by simp [Cw,ha]
   rw [this];exact Ev.const
  | true=>
   refine Ev.iteF (by rw [Vi ha];rfl) ?_
   by_cases g2:((((decide (r.Left<1))||(decide (r.Left>63)))||(decide (r.Right<1)))||(decide (r.Right>63)))=true
   ·refine Ev.iteT g2 ?_
    have:Cw r m=false:=by
     rw [← Bool.not_eq_true];intro h
     simp only [Cw,Ji0,decide_eq_true_eq] at h
     simp only [Jjj,decide_eq_true_eq] at g2
     omega
    rw [this];exact Ev.const
   ·rw [Bool.not_eq_true] at g2
    refine Ev.iteF g2 ?_
    by_cases g3:((((decide (r.From<0))||(decide (r.From>=m)))||(decide (r.To<0)))||(decide (r.To>=m)))=true
    ·refine Ev.iteT g3 ?_
     have:Cw r m=false:=by
      rw [← Bool.not_eq_true];intro h
      simp only [Cw,Ji0,decide_eq_true_eq] at h
      simp only [Jjj,decide_eq_true_eq] at g3
      omega
     rw [this];exact Ev.const
    ·rw [Bool.not_eq_true] at g3
     refine Ev.iteF g3 (Ev.bind (Vm hp) ?_)
     simp only [Bool.or_eq_false_iff,decide_eq_false_iff_not] at g1 g2 g3
     have e1:Cw r m=(r.Cells.all (λ c=>decide (c<63))&&(bif r.Print.any DT then decide (r.Print.length=1)&&decide (r.Cells.length=1)&&r.Cells.any (λ c=>c==0) else !r.Cells.any (λ c=>c==0))):=by
      unfold Cw
      rw [ha]
      have:(true&&decide (r.Print.length<=4)&&decide (1<=r.Cells.length)&&decide (r.Cells.length<=4)&&(decide (1<=r.Left)&&decide (r.Left<=63)&&decide (1<=r.Right)&&decide (r.Right<=63)&&decide (0<=r.From)&&decide (r.From<m)&&decide (0<=r.To)&&decide (r.To<m)))=true:=by
       simp only [Ji0,decide_eq_true_eq,true_and]
       omega
      rw [this,Bool.true_and]
     rw [e1]
     cases hsp:r.Print.any DT with
     | true=>
      refine Ev.iteT rfl ?_
      by_cases g4:((((r.Print.length:Nat):Int)==1)&&(((r.Cells.length:Nat):Int)==1))=true
      ·have hl:r.Print.length=1/\r.Cells.length=1:=by
        simp only [Ji0,beq_iff_eq] at g4;omega
       obtain ⟨c,hcell⟩:=List.length_eq_one_iff.1 hl.2
       have hi:idx r.Cells 0=some c:=by rw [hcell];rfl
       simp only [g4,if_true,hi,Option.bind_some]
       refine Ev.all λ n=>?_
       rw [hcell]
       simp only [hl.1,List.all_cons,List.all_nil,List.any_cons,List.any_nil,List.length_cons,List.length_nil,Bool.and_true,Bool.or_false,decide_true,Bool.true_and,cond_true]
       cases h0:(c==0) with
       | false=>simp
       | true=>
        have:c=0:=by simpa using h0
        subst this;rfl
      ·rw [Bool.not_eq_true] at g4
       simp only [g4,Jjc,if_false,Option.bind_some,Bool.false_and]
       refine Ev.all λ n=>?_
       have:(decide (r.Print.length=1)&&decide (r.Cells.length=1))=false:=by
        rw [← Bool.not_eq_true];intro h
        simp only [Ji0,decide_eq_true_eq] at h
        rw [← Bool.not_eq_true] at g4
        apply g4
        simp [h.1,h.2]
       simp [this]
     | false=>
      refine Ev.iteF rfl ?_
      refine Ev.bind (Gm r.Cells.length (λ i=>if OQ (r.Cells.getD i 0) then none else some false) (λ i hi=>Ev.all λ n=>?_) (Ev.all λ n=>?_)) ?_
      ·unfold Ei
       rw [if_pos (Fp hi),Hv hi,show r.Cells.getD i default=r.Cells.getD i 0 from rfl]
       generalize r.Cells.getD i 0=c
       simp only [Option.bind_some,IB]
       by_cases hcc:OQ c=true
       ·simp only [OQ,Ji0,decide_eq_true_eq,Bool.not_eq_true',beq_eq_false_iff_ne,ne_eq] at hcc
        rw [if_neg (by simp;omega),if_pos (by simp [OQ];omega),Ez (by omega)]
       ·rw [if_pos (by simp [OQ] at hcc ⊢;omega),if_neg hcc]
      ·unfold Ei
       rw [if_neg (by simp)]
      ·rw [Ym]
       have e2:(r.Cells.all (λ c=>decide (c<63))&&!r.Cells.any (λ c=>c==0))=r.Cells.all OQ:=by
        rw [Bool.eq_iff_iff]
        simp only [OQ,Ji0,List.all_eq_true,Bool.not_eq_true',List.any_eq_false,Bool.not_eq_true]
        exact ⟨λ h x hx=>⟨h.1 x hx,h.2 x hx⟩,λ h=>⟨λ x hx=>(h x hx).1,λ x hx=>(h x hx).2⟩⟩
       simp only [cond_false]
       rw [e2]
       cases r.Cells.all OQ<;>exact Ev.const
end Go.AI
end
section
namespace Go.AI
def Jbk (r:Av):Prop:=r.Print.length<9223372036854775807/\r.Cells.length<9223372036854775807
def GG (t:Ac):Prop:=t.Rules.length<9223372036854775807/\∀ r∈t.Rules,Jbk r
def Vn (t:Ac) (i:Nat):Unit⊕(Int×Int):=scan i (λ k=>if t.Rules.getD k default=t.Rules.getD i default then some ((i:Int),(20:Int)) else none)
def IZ (t:Ac) (i:Nat):Option (Int×Int):=if Cw (t.Rules.getD i default) t.Modes=true then (match Vn t i with | .inl _=>none | .inr p=>some p) else some ((i:Int),20)
def Vo (t:Ac):Bool:=decide (t.Modes<1)||decide (t.Modes>8)||(t.Accept==0)||decide (IntKind.i64.wrap t.Accept>=Qc .i64 1 t.Modes)||decide (((t.Rules.length:Nat):Int)<1)||decide (((t.Rules.length:Nat):Int)>64)
def Oa (t:Ac):Int×Int:=if Vo t=true then (-1,1) else match scan t.Rules.length (IZ t) with
 | .inl _=>(0,0)
 | .inr p=>p
theorem GG.get {t:Ac} (h:GG t) {i:Nat} (hi:i<t.Rules.length):Jbk (t.Rules.getD i default):=by
 rw [Cf hi];exact h.2 _ (List.getElem_mem hi)
theorem Yo {t:Ac} (ht:GG t) {i:Nat} (hi:i<t.Rules.length):Ev (λ n=>whl (λ (x:Int)=>Fx n t (i:Int) x) n 0) (Vn t i):=by
 refine Gm i _ (λ k hk=>?_) (Ev.all λ n=>?_)
 ·unfold Fx
  refine Ev.iteT (by simpa using hk) (Ev.bindC (Hv (by omega)) (Ev.bindC (Hv hi) (Ev.bind (Vk _ _ (ht.get (by omega)).2) (Ev.all λ n=>?_))))
  by_cases e:t.Rules.getD k default=t.Rules.getD i default
  ·rw [if_pos (decide_eq_true e),if_pos e]
  ·rw [if_neg (by simpa using e),if_neg e,Ez (by have:=ht.1;omega)]
 ·unfold Fx
  rw [if_neg (by simp)]
theorem Wy {t:Ac} (ht:GG t) {i:Nat} (hi:i<t.Rules.length):Ev (λ n=>whl (λ (x:Int)=>Dq n t (i:Int) (t.Rules.getD i default) (t.Rules.take i) x) n 0) (Vn t i):=by
 refine Gm i _ (λ k hk=>?_) (Ev.all λ n=>?_)
 ·unfold Dq
  have hk':k<(t.Rules.take i).length:=by rw [List.length_take];omega
  have hg:(t.Rules.take i).getD k default=t.Rules.getD k default:=by rw [Cf hk',Cf (by omega),List.getElem_take]
  refine Ev.iteT (Fp hk') (Ev.bindC (Hv hk') ?_)
  rw [hg]
  refine Ev.bind (Jbi _ _ (ht.get (by omega)).2) (Ev.all λ n=>?_)
  by_cases e:t.Rules.getD k default=t.Rules.getD i default
  ·rw [if_pos (decide_eq_true e),if_pos e]
  ·rw [if_neg (by simpa using e),if_neg e,Ez (by have:=ht.1;omega)]
 ·unfold Dq
  rw [if_neg (by simp;omega)]
theorem Yp {t:Ac} (ht:GG t):Ev (λ n=>whl (λ (x:Int)=>Fy n t x) n 0) (scan t.Rules.length (IZ t)):=by
 refine Gm _ _ (λ i hi=>?_) (Ev.all λ n=>?_)
 ·unfold Fy
  refine Ev.iteT (Fp hi) (Ev.bindC (Hv hi) (Ev.bind (Jbg (ht.get hi).1 (ht.get hi).2 t.Modes) ?_))
  unfold IZ
  cases Cw (t.Rules.getD i default) t.Modes with
  | false=>exact Ev.iteT rfl Ev.const
  | true=>
   refine Ev.iteF rfl (Ev.bind (Yo ht hi) ?_)
   cases Vn t i with
   | inl u=>refine Ev.all λ n=>?_;simp [Ez (show i<9223372036854775807 by have:=ht.1;omega)]
   | inr p=>exact Ev.const
 ·unfold Fy
  rw [if_neg (by simp)]
theorem Wz {t:Ac} (ht:GG t):Ev (λ n=>whl (λ (x:Int)=>Dr n t x) n 0) (scan t.Rules.length (IZ t)):=by
 refine Gm _ _ (λ i hi=>?_) (Ev.all λ n=>?_)
 ·unfold Dr
  refine Ev.iteT (Fp hi) (Ev.bindC (Hv hi) (Ev.bind (Yn (ht.get hi).1 (ht.get hi).2 t.Modes) ?_))
  unfold IZ
  cases Cw (t.Rules.getD i default) t.Modes with
  | false=>exact Ev.iteT rfl Ev.const
  | true=>
   refine Ev.iteF rfl (Ev.bindC (TI (by omega)) (Ev.bind (Wy ht hi) ?_))
   cases Vn t i with
   | inl u=>refine Ev.all λ n=>?_;simp [Ez (show i<9223372036854775807 by have:=ht.1;omega)]
   | inr p=>exact Ev.const
 ·unfold Dr
  rw [if_neg (by simp)]
theorem Jbl {t:Ac} (ht:GG t):Ev (λ n=>K9 n t) (Oa t):=by
 unfold K9 Oa
 refine Ev.bindC (y:=()) ?_ ?_
 ·split
  ·rename_i h
   simp only [Bool.not_eq_true',Bool.or_eq_false_iff,decide_eq_false_iff_not] at h
   exact DL (by simp;omega)
  ·rfl
 ·show Ev (λ n=>if Vo t=true then _ else _) _
  cases Vo t with
  | true=>exact Ev.iteT rfl Ev.const
  | false=>
   refine Ev.iteF rfl (Ev.bind (Yp ht) ?_)
   generalize scan t.Rules.length _=z
   cases z<;>exact Ev.const
theorem Yq {t:Ac} (ht:GG t):Ev (λ n=>G3 n t) (Oa t):=by
 unfold G3 Oa Vo
 cases h1:((decide (t.Modes<1))||(decide (t.Modes>8))) with
 | true=>exact Ev.iteT rfl (by simp only [Bool.true_or,if_true];exact Ev.const)
 | false=>
  refine Ev.iteF rfl (Ev.bindC (y:=()) ?_ ?_)
  ·split
   ·simp only [Bool.or_eq_false_iff,decide_eq_false_iff_not] at h1
    exact DL (by simp;omega)
   ·rfl
  ·simp only [Bool.false_or]
   cases h2:((t.Accept==0)||(decide (IntKind.i64.wrap t.Accept>=Qc .i64 1 t.Modes))) with
   | true=>exact Ev.iteT rfl (by simp only [Bool.true_or,if_true];exact Ev.const)
   | false=>
    refine Ev.iteF rfl ?_
    simp only [Bool.false_or]
    cases h3:((decide (((t.Rules.length:Nat):Int)<1))||(decide (((t.Rules.length:Nat):Int)>64))) with
    | true=>exact Ev.iteT rfl (by simp only [if_true];exact Ev.const)
    | false=>
     refine Ev.iteF rfl (Ev.bind (Wz ht) ?_)
     simp only [Jjc,if_false]
     generalize scan t.Rules.length _=z
     cases z<;>exact Ev.const
def EY (t:Ac):Bool:=!Vo t&&t.Rules.all (λ r=>Cw r t.Modes)&&decide t.Rules.Nodup
theorem Nh (t:Ac):((Oa t).2==0)=EY t:=by
 unfold Oa EY
 cases Vo t with
 | true=>rfl
 | false=>
  simp only [Jjc,if_false,Bool.not_false,Bool.true_and]
  have h20:∀ i p,IZ t i=some p->p.2=20:=by
   intro i p h
   unfold IZ at h
   split at h
   ·split at h
    ·cases h
    ·rename_i q hq
     cases h
     unfold Vn scan at hq
     split at hq
     ·rename_i r hr
      cases hq
      obtain ⟨k,_,hk⟩:=List.exists_of_findSome?_eq_some hr
      split at hk
      ·cases hk;rfl
      ·cases hk
     ·cases hq
   ·cases h;rfl
  have hiff:(∀ i,i<t.Rules.length->IZ t i=none)↔(t.Rules.all (λ r=>Cw r t.Modes)&&decide t.Rules.Nodup)=true:=by
   simp only [Ji0,List.all_eq_true,decide_eq_true_eq]
   constructor
   ·intro h
    have hs:∀ i,i<t.Rules.length->Cw (t.Rules.getD i default) t.Modes=true:=by
     intro i hi
     have:=h i hi
     unfold IZ at this
     split at this
     ·assumption
     ·cases this
    refine ⟨λ r hr=>?_,?_⟩
    ·obtain ⟨i,hi,e⟩:=List.getElem_of_mem hr
     have:=hs i hi
     rwa [Cf hi,e] at this
    ·rw [List.Nodup,List.pairwise_iff_getElem]
     intro k i hk hi hlt e
     have h0:=h i hi
     unfold IZ at h0
     rw [if_pos (hs i hi)] at h0
     obtain ⟨_,r,_,_,hsc⟩:=G7 (N:=i) (stop:=λ k=>if t.Rules.getD k default=t.Rules.getD i default then some ((i:Int),(20:Int)) else none) hlt (by rw [Cf hk,Cf hi,if_pos e];rfl)
     unfold Vn at h0
     rw [hsc] at h0
     cases h0
   ·rintro ⟨h1,h2⟩ i hi
    unfold IZ
    rw [if_pos (by rw [Cf hi];exact h1 _ (List.getElem_mem hi))]
    have:Vn t i=.inl ():=G6 λ k hk=>by
     rw [Cf (show k<t.Rules.length by omega),Cf hi,if_neg]
     rw [List.Nodup,List.pairwise_iff_getElem] at h2
     exact h2 k i (by omega) hi hk
    rw [this]
  cases hv:(t.Rules.all (λ r=>Cw r t.Modes)&&decide t.Rules.Nodup) with
  | true=>rw [G6 (hiff.2 hv)];rfl
  | false=>
   have:¬∀ i,i<t.Rules.length->IZ t i=none:=λ h=>by rw [hiff.1 h] at hv;cases hv
   have:∃ i,i<t.Rules.length/\IZ t i≠none:=Classical.byContradiction λ hn=>this λ i hi=>Classical.byContradiction λ hc=>hn ⟨i,hi,hc⟩
   obtain ⟨i,hi,hne⟩:=this
   obtain ⟨k,r,_,hr,hs⟩:=G7 hi (Option.isSome_iff_ne_none.2 hne)
   rw [hs]
   show (r.2==0)=false
   rw [h20 k r hr];rfl
theorem Jbm {t:Ac} (ht:GG t):Ev (λ n=>NG n t) (EY t):=by
 rw [← Nh]
 exact Ev.bind (Jbl ht) Ev.const
theorem Yr {t:Ac} (ht:GG t):Ev (λ n=>E8 n t) (EY t):=by
 rw [← Nh]
 exact Ev.bind (Yq ht) Ev.const
theorem WA {t:Ac} {l:List Av} (h:EY t=true) (hl:l.Sublist t.Rules) (h1:1<=l.length):EY ⟨t.Modes,t.Accept,l⟩=true:=by
 unfold EY Vo at h ⊢
 simp only [Ji0,Bool.not_eq_true',Bool.or_eq_false_iff,decide_eq_false_iff_not,List.all_eq_true,decide_eq_true_eq] at h ⊢
 have hle:=hl.length_le
 exact ⟨⟨⟨⟨h.1.1.1.1,by omega⟩,by omega⟩,λ r hr=>h.1.2 r (hl.subset hr)⟩,hl.nodup h.2⟩
theorem Ni {t:Ac} (h:EY t=true):∀ r∈t.Rules,Cw r t.Modes=true:=by
 unfold EY at h
 simp only [Ji0,List.all_eq_true] at h
 exact h.1.2
end Go.AI
end
section
namespace Go.AI
def Vp (r:Int):Ac:=(ID 0 r).getD default
theorem TL (n:Nat) (k:Int) (h0:0<=k):ID n k=some (Vp (Br k 8))/\0<=Br k 8/\Br k 8<8:=by
 have e:Br k 8=k % 8:=by unfold Br;rw [Int.tmod_eq_emod_of_nonneg h0]
 have hr:Br k 8=0\/Br k 8=1\/Br k 8=2\/Br k 8=3\/Br k 8=4\/Br k 8=5\/Br k 8=6\/Br k 8=7:=by rw [e];omega
 rcases hr with h|h|h|h|h|h|h|h
 all_goals
  refine ⟨?_,by omega,by omega⟩
  unfold ID
  rw [h]
  rfl
def TM (r:Av):Bool:=decide (0<=r.To)&&decide (r.To<2)&&decide (0<=r.Right)&&decide (r.Right<=63)&&decide (r.Print.length<=3)
theorem WB {r:Av} (h:TM r=true):Mc r:=by
 simp only [TM,Ji0,decide_eq_true_eq] at h
 obtain ⟨⟨⟨⟨h1,h2⟩,h3⟩,h4⟩,h5⟩:=h
 exact ⟨h1,h2,h3,h4,h5⟩
def TN (t:Ac):Bool:=decide (t.Rules.length<=8)&&t.Rules.all TM&&decide (1<=t.Modes)&&decide (t.Modes<=2)&&EY t
theorem JcR {r:Int} (h:0<=r) (h':r<8):TN (Vp r)=true:=by
 have:∀ k:Nat,k<8->TN (Vp (k:Int))=true:=by decide +kernel
 have e:=this r.toNat (by omega)
 rwa [Int.toNat_of_nonneg h] at e
def U8 (n:Int):Prop:=0<=n/\n<256
def Xh (x:Dc):Prop:=(∀ a∈x.P,U8 a)/\(∀ a∈x.C,U8 a)/\U8 x.L/\U8 x.R/\U8 x.W.a0/\U8 x.W.a1
theorem Ee {a m:Int} (h:0<=a) (hm:0<m):0<=Br a m/\Br a m<m:=(N9 h hm).2
theorem Md {α:Type} {l:List α} {i:Int} (h:0<=i) (h':i<l.length):∃ x,x∈l/\idx l i=some x:=by
 have hl:i.toNat<l.length:=by omega
 refine ⟨l[i.toNat],List.getElem_mem hl,?_⟩
 unfold idx
 rw [if_pos h]
 exact JiZ hl
theorem JcS {α:Type} {l:List α} {i:Int} (h:0<=i) (h':i<l.length):∃ z,z.length=1/\sub l i (i+1)=some z:=by
 refine ⟨(l.take (i+1).toNat).drop i.toNat,?_,?_⟩
 ·simp;omega
 ·unfold sub
  rw [if_pos (by omega)]
def Xi (a b:Av):Prop:=a.Left=b.Left/\a.Right=b.Right/\a.From=b.From/\a.To=b.To
theorem Jbn (x:Dc) (hx:∀ a∈x.P,U8 a) (r0:Av) (h0:r0.Print=[]):Tot (λ n=>whl (λ (y:(Av×Int))=>Fe n x y.1 y.2) n (r0,0)) (λ r=>r.Print.length<=3/\Xi r r0):=by
 refine Tot.upto (body:=λ n y=>Fe n x y.1 y.2) (min x.P.length 3) (λ i y=>y.2=(i:Int)/\y.1.Print.length=i/\Xi y.1 r0) ?_ ?_ (r0,0) ⟨rfl,by simp [h0],rfl,rfl,rfl,rfl⟩
 ·rintro i ⟨r,i'⟩ hi ⟨h1,h2,h3⟩
  simp only at h1 h2 h3
  subst h1
  obtain ⟨c,hcm,hci⟩:=Md (l:=x.P) (i:=(i:Int)) (by omega) (by omega)
  have hu:=hx c hcm
  have hr:=Ee (m:=9) hu.1 (by omega)
  have hw:IntKind.i64.wrap (Br c 9)=Br c 9:=Q7 (by omega) (by omega)
  obtain ⟨z,hz1,hz⟩:=JcS (l:=([97,98,99,65,66,49,50,45,46]:List UInt8)) (i:=Br c 9) hr.1 (by simpa using hr.2)
  unfold Fe
  refine Tot.iteT (by simp only [Ji0,decide_eq_true_eq];omega) (Tot.bindC hci ?_)
  simp only [hw]
  rw [Hu (by omega) (by omega)]
  refine Tot.bindC hz (Tot.bindC (Jbe (by omega)) (Tot.pure ⟨Ez (by omega),by simp [h2,hz1],h3⟩))
 ·rintro ⟨r,i'⟩ ⟨h1,h2,h3⟩
  simp only at h1 h2 h3
  subst h1
  unfold Fe
  exact Tot.iteF (by rw [← Bool.not_eq_true];simp only [Ji0,decide_eq_true_eq];omega) (Tot.pure ⟨by show r.Print.length<=3;omega,h3⟩)
theorem Jbo (x:Dc) (hx:∀ a∈x.C,U8 a) (r0:Av) (h0:r0.Cells.length=1):Tot (λ n=>whl (λ (y:(Av×Int))=>Ff n x y.1 y.2) n (r0,0)) (λ r=>(r.Cells.length<=3/\1<=r.Cells.length)/\r.Print=r0.Print/\Xi r r0):=by
 refine Tot.upto (body:=λ n y=>Ff n x y.1 y.2) (min x.C.length 2) (λ i y=>y.2=(i:Int)/\y.1.Cells.length=i+1/\y.1.Print=r0.Print/\Xi y.1 r0) ?_ ?_ (r0,0) ⟨rfl,by simp [h0],rfl,rfl,rfl,rfl,rfl⟩
 ·rintro i ⟨r,i'⟩ hi ⟨h1,h2,h3,h4⟩
  simp only at h1 h2 h3 h4
  subst h1
  obtain ⟨c,hcm,hci⟩:=Md (l:=x.C) (i:=(i:Int)) (by omega) (by omega)
  have hu:=hx c hcm
  have hr:=Ee (m:=8) hu.1 (by omega)
  obtain ⟨z,_,hz⟩:=Md (l:=([1,3,9,5,7,32,44,60]:List Int)) (i:=Br c 8) hr.1 (by simpa using hr.2)
  unfold Ff
  refine Tot.iteT (by simp only [Ji0,decide_eq_true_eq];omega) (Tot.bindC hci (Tot.bindC hz (Tot.bindC (Il (by simp;omega)) (Tot.pure ⟨Ez (by omega),by simp [h2],h3,h4⟩))))
 ·rintro ⟨r,i'⟩ ⟨h1,h2,h3,h4⟩
  simp only at h1 h2 h3 h4
  subst h1
  unfold Ff
  exact Tot.iteF (by rw [← Bool.not_eq_true];simp only [Ji0,decide_eq_true_eq];omega) (Tot.pure ⟨by show r.Cells.length<=3/\1<=r.Cells.length;omega,h3,h4⟩)
theorem JcT {x:Dc} (hx:Xh x) {m:Int} (hm:1<=m) (hm':m<=2):Tot (λ n=>MK n x m) (λ r=>Mc r/\(r.Cells.length<=3/\1<=r.Cells.length)/\0<=r.From/\r.From<m/\0<=r.To/\r.To<m):=by
 obtain ⟨hP,hC,hL,hR,hW0,hW1⟩:=hx
 have l8:=Ee (m:=8) hL.1 (by omega)
 have r8:=Ee (m:=8) hR.1 (by omega)
 obtain ⟨a,ham,ha⟩:=Md (l:=([63,63,2,8,17,62,4,1]:List Int)) (i:=Br x.L 8) l8.1 (by simpa using l8.2)
 obtain ⟨b,hbm,hb⟩:=Md (l:=([63,63,2,8,17,62,4,1]:List Int)) (i:=Br x.R 8) r8.1 (by simpa using r8.2)
 have hq:0<=Ze .u8 x.L 8:=by unfold Ze;exact (Vd _).1
 have q8:=Ee (m:=8) hq (by omega)
 obtain ⟨c,_,hc⟩:=Md (l:=([1,3,9,5,7,32,44,60]:List Int)) (i:=Br (Ze .u8 x.L 8) 8) q8.1 (by simpa using q8.2)
 have hg:CA (!(m==0))=some ():=DL (by simp;omega)
 have w0:IntKind.i64.wrap x.W.a0=x.W.a0:=Q7 (by have:=hW0.1;omega) (by have:=hW0.2;omega)
 have w1:IntKind.i64.wrap x.W.a1=x.W.a1:=Q7 (by have:=hW1.1;omega) (by have:=hW1.2;omega)
 have hfr:=Ee (a:=x.W.a0) (m:=m) hW0.1 (by omega)
 have hto:=Ee (a:=x.W.a1) (m:=m) hW1.1 (by omega)
 have hbr:0<=b/\b<=63:=by
  simp at hbm
  omega
 unfold MK
 refine Tot.bindC ha (Tot.bindC hb (Tot.bindC hg (Tot.bindC hg (Tot.bind (Jbn x hP _ rfl) ?_))))
 rintro r1 ⟨p1,p2,p3,p4,p5⟩
 refine Tot.bindC hc (Tot.bind (Jbo x hC _ rfl) ?_)
 rintro r2 ⟨q1,q2,q3,q4,q5,q6⟩
 simp only at q2 q3 q4 q5 q6
 rw [p3] at q4
 rw [p4] at q5
 rw [p5] at q6
 simp only [w0,w1] at q5 q6 q4
 refine Tot.pure ⟨⟨?_,?_,?_,?_,?_⟩,q1,?_,?_,?_,?_⟩
 all_goals first|(rw [q6];omega)|(rw [q4];omega)|(rw [q5];omega)|(rw [q2];exact p1)
def Nj (x:KB):Prop:=0<=x.Base/\∀ r∈x.More,Xh r
structure FG (t:Ac):Prop where
 tab:Hs t
 lo:1<=t.Modes
 hi:t.Modes<=2
 valid:EY t=true
theorem FG.sound {t:Ac} (h:FG t):∀ r∈t.Rules,Cw r t.Modes=true:=Ni h.valid
theorem Me {r:Av} {m:Int} (h:Cw r m=true):r.Print.length<=4/\1<=r.Cells.length/\r.Cells.length<=4:=by
 simp only [Cw,Ji0,decide_eq_true_eq] at h
 omega
theorem FG.small {t:Ac} (h:FG t):GG t:=⟨by have:=h.tab.1;omega,λ r hr=>by have:=Me (h.sound r hr);exact ⟨by omega,by omega⟩⟩
theorem Jbp (x:KB) (b:Ac) (hb:b.Rules.length<=8):Tot (λ n=>whl (λ (y:(Ac×Int))=>Fg n x b y.1 y.2) n (({ Modes:=b.Modes,Accept:=b.Accept,Rules:=[] }:Ac),0)) (λ t=>t.Modes=b.Modes/\t.Accept=b.Accept/\t.Rules.Sublist b.Rules):=by
 refine Tot.upto (body:=λ n y=>Fg n x b y.1 y.2) b.Rules.length (λ i y=>y.2=(i:Int)/\y.1.Modes=b.Modes/\y.1.Accept=b.Accept/\y.1.Rules.Sublist (b.Rules.take i)) ?_ ?_ _ ⟨rfl,rfl,rfl,by simp⟩
 ·rintro i ⟨t,i'⟩ hi ⟨h1,h2,h3,h4⟩
  simp only at h1 h2 h3 h4
  subst h1
  have ht:b.Rules.take (i+1)=b.Rules.take i++[b.Rules.getD i default]:=by rw [List.take_add_one,Cf hi,JiZ hi];rfl
  have hlen:=h4.length_le
  rw [List.length_take] at hlen
  unfold Fg
  refine Tot.iteT (Fp hi) (Tot.bindC (DL (by simp)) (Tot.ite (λ _=>Tot.bindC (Hv hi) (Tot.bindC (Il (by simp;omega)) ?_)) λ _=>?_))
  ·unfold Gu
   exact Tot.pure ⟨Ez (by omega),h2,h3,by rw [ht];exact h4.append (List.Sublist.refl _)⟩
  ·unfold Gu
   exact Tot.pure ⟨Ez (by omega),h2,h3,by rw [ht];exact h4.trans (List.sublist_append_left _ _)⟩
 ·rintro ⟨t,i'⟩ ⟨h1,h2,h3,h4⟩
  simp only at h1 h2 h3 h4
  subst h1
  rw [List.take_length] at h4
  unfold Fg
  exact Tot.iteF (by simp) (Tot.pure ⟨h2,h3,h4⟩)
structure JgH (b t:Ac):Prop where
 modes:t.Modes=b.Modes
 accept:t.Accept=b.Accept
 rules:∀ r∈t.Rules,Mc r/\r.Cells.length<=4
 valid:t.Rules=[]\/EY t=true
theorem Ys {t:Ac} (hl:t.Rules.length<=11) (h:∀ r∈t.Rules,Mc r/\r.Cells.length<=4):GG t:=⟨by omega,λ r hr=>⟨by have:=(h r hr).1.2.2.2.2;omega,by have:=(h r hr).2;omega⟩⟩
theorem Jbq (x:KB) (hx:∀ r∈x.More,Xh r) (b t0:Ac) (hlo:1<=b.Modes) (hhi:b.Modes<=2) (h0:JgH b t0) (hl0:t0.Rules.length<=8):Tot (λ n=>whl (λ (y:(Ac×Int))=>Fh n x b y.1 y.2) n (t0,0)) (λ t=>JgH b t/\t.Rules.length<=10):=by
 refine Tot.upto (body:=λ n y=>Fh n x b y.1 y.2) (min x.More.length 2) (λ i y=>y.2=(i:Int)/\JgH b y.1/\y.1.Rules.length<=8+i) ?_ ?_ _ ⟨rfl,h0,by simpa using hl0⟩
 ·rintro i ⟨t,i'⟩ hi ⟨h1,h2,h3⟩
  simp only at h1 h2 h3
  subst h1
  unfold Fh
  refine Tot.iteT (by simp only [Ji0,decide_eq_true_eq];omega) (Tot.bindC (KT (by omega)) ?_)
  rw [h2.modes]
  refine Tot.bind (JcT (hx _ (List.getElem_mem _)) hlo hhi) ?_
  rintro r ⟨hr1,hr2,-⟩
  refine Tot.bindC (Il (by simp;omega)) ?_
  have hall:∀ q∈t.Rules++[r],Mc q/\q.Cells.length<=4:=by
   intro q hq
   simp only [List.mem_append,List.mem_singleton] at hq
   rcases hq with hq|rfl
   ·exact h2.rules q hq
   ·exact ⟨hr1,by omega⟩
  refine Tot.bindE (Jbm (Ys (t:=⟨b.Modes,t.Accept,t.Rules++[r]⟩) (by simp;omega) hall)) ?_
  refine Tot.ite (λ _=>?_) λ hv=>?_
  ·have e:Jk .i64 ((List.length (t.Rules++[r]):Nat):Int) 1=(t.Rules.length:Nat):=by
    rw [Xe (by simp<;>omega) (by simp<;>omega)];simp
   rw [e]
   refine Tot.bindC (TI (by simp)) ?_
   unfold Gv
   rw [List.take_left' rfl]
   exact Tot.pure ⟨Ez (by omega),⟨rfl,h2.accept,h2.rules,by have:=h2.valid;have hm:=h2.modes;cases t;simp only at hm this ⊢;subst hm;exact this⟩,by simp only;omega⟩
  ·unfold Gv
   exact Tot.pure ⟨Ez (by omega),⟨rfl,h2.accept,hall,.inr (by simpa using hv)⟩,by simp;omega⟩
 ·rintro ⟨t,i'⟩ ⟨h1,h2,h3⟩
  simp only at h1 h2 h3
  subst h1
  unfold Fh
  exact Tot.iteF (by rw [← Bool.not_eq_true];simp only [Ji0,decide_eq_true_eq];omega) (Tot.pure ⟨h2,by show t.Rules.length<=10;omega⟩)
theorem Yt {x:KB} (hx:Nj x):∃ t,(FG t/\1<=t.Rules.length/\t.Rules.length<=10)/\Ev (λ n=>IE n x) t:=by
 have hb:∀ n,ID n x.Base=some (Vp (Br x.Base 8)):=λ n=>(TL n x.Base hx.1).1
 have hok:=JcR (TL 0 x.Base hx.1).2.1 (TL 0 x.Base hx.1).2.2
 generalize Vp (Br x.Base 8)=b at *
 unfold TN at hok
 simp only [Ji0,decide_eq_true_eq,List.all_eq_true] at hok
 obtain ⟨⟨⟨⟨o1,o2⟩,o3⟩,o4⟩,o5⟩:=hok
 have gb:∀ r∈b.Rules,Mc r/\r.Cells.length<=4:=λ r hr=>⟨WB (o2 r hr),(Me (Ni o5 r hr)).2.2⟩
 have hne:∀ t:Ac,EY t=true->1<=t.Rules.length:=λ t h=>by
  unfold EY Vo at h
  simp only [Ji0,Bool.not_eq_true',Bool.or_eq_false_iff,decide_eq_false_iff_not] at h
  omega
 have:Tot (λ n=>IE n x) (λ t=>FG t/\1<=t.Rules.length/\t.Rules.length<=10):=by
  unfold IE
  refine Tot.bindA hb (Tot.bind (Jbp x b o1) ?_)
  rintro t1 ⟨a1,a2,a3⟩
  refine Tot.bind (Jbq x hx.2 b t1 o3 o4 ⟨a1,a2,λ r hr=>gb r (a3.subset hr),?_⟩ (by have:=a3.length_le;omega)) ?_
  ·rcases Nat.eq_zero_or_pos t1.Rules.length with h|h
   ·exact .inl (List.length_eq_zero_iff.1 h)
   ·right
    have:=WA o5 a3 h
    cases t1
    simp only at a1 a2 this ⊢
    subst a1 a2
    exact this
  rintro t2 ⟨b1,b2⟩
  refine Tot.ite (λ h=>?_) λ h=>?_
  ·unfold Gw
   have e:(⟨t2.Modes,t2.Accept,b.Rules⟩:Ac)=b:=by rw [b1.modes,b1.accept]
   rw [e]
   exact Tot.pure ⟨⟨⟨by omega,λ r hr=>(gb r hr).1⟩,o3,o4,o5⟩,hne b o5,by omega⟩
  ·unfold Gw
   have hv:EY t2=true:=b1.valid.resolve_left λ e=>by rw [e] at h;cases h
   exact Tot.pure ⟨⟨⟨by omega,λ r hr=>(b1.rules r hr).1⟩,by rw [b1.modes];exact o3,by rw [b1.modes];exact o4,hv⟩,hne t2 hv,b2⟩
 obtain ⟨t,ht,hE⟩:=this
 exact ⟨t,ht,hE⟩
theorem JcU {x:KB} (hx:Nj x):∃ t,FG t/\Ev (λ n=>IE n x) t:=by
 obtain ⟨t,h,h'⟩:=Yt hx
 exact ⟨t,h.1,h'⟩
end Go.AI
end
section
namespace Go.AI
def BA (t:Ac) (k:Int):Av:=t.Rules[k.toNat]?.getD default
def Ph (t:Ac):List Int->List UInt8->List Int->Nat->Aa->Jex
 | [],tx,cs,a,s=>⟨tx,cs,a,s,Bw t s⟩
 | k::p,tx,cs,a,s=>if (Ap t s k).2=true then Ph t p (tx++(BA t k).Print) (cs++(BA t k).Cells) (a+1) (Ap t s k).1 else ⟨tx,cs,a,s,false⟩
theorem Ch {t:Ac} {s:Aa} {k:Int} (h:(Ap t s k).2=true):0<=k/\k<t.Rules.length:=by
 unfold Ap at h
 split at h
 ·cases h
 ·rename_i hk
  simp only [Jjj,decide_eq_true_eq,not_or] at hk
  omega
theorem EM {t:Ac} {k:Int} (h:0<=k) (h':k<t.Rules.length):idx t.Rules k=some (BA t k):=Q9 h h'
theorem EZ {t:Ac} {k:Int} (h:0<=k) (h':k<t.Rules.length):BA t k∈t.Rules:=by
 unfold BA
 rw [JiZ (by omega)]
 exact List.getElem_mem _
theorem FG.print {t:Ac} (ht:FG t) {r:Av} (hr:r∈t.Rules):r.Print.length<=4/\r.Cells.length<=4:=by
 have:=ht.sound r hr
 unfold Cw at this
 simp only [Ji0,decide_eq_true_eq] at this
 omega
theorem JS {α:Type} {l:List α} {i:Nat} (h:i<l.length):l.drop i=l[i]::l.drop (i+1):=List.drop_eq_getElem_cons h
structure TO (t:Ac) (p:List Int) (i:Nat) (tx:List UInt8) (cs:List Int) (s:Aa):Prop where
 eq:Ph t p [] [] 0 AD=Ph t (p.drop i) tx cs i s
 tl:tx.length<=4*i
 cl:cs.length<=4*i
theorem TO.start (t:Ac) (p:List Int):TO t p 0 [] [] AD:=⟨rfl,by simp,by simp⟩
theorem TO.next {t:Ac} (ht:FG t) {p:List Int} {i:Nat} {tx:List UInt8} {cs:List Int} {s:Aa} (h:TO t p i tx cs s) (hi:i<p.length) (hs:(Ap t s p[i]).2=true):TO t p (i+1) (tx++(BA t p[i]).Print) (cs++(BA t p[i]).Cells) (Ap t s p[i]).1:=by
 have hk:=Ch hs
 have:=ht.print (EZ hk.1 hk.2)
 refine ⟨?_,?_,?_⟩
 ·rw [h.eq,JS hi,Ph,if_pos hs]
 ·have:=h.tl;simp only [List.length_append];omega
 ·have:=h.cl;simp only [List.length_append];omega
theorem TO.stop {t:Ac} {p:List Int} {i:Nat} {tx:List UInt8} {cs:List Int} {s:Aa} (h:TO t p i tx cs s) (hi:i<p.length) (hs:(Ap t s p[i]).2=false):Ph t p [] [] 0 AD=⟨tx,cs,i,s,false⟩:=by
 rw [h.eq,JS hi,Ph,if_neg (by rw [hs];simp)]
theorem TO.last {t:Ac} {p:List Int} {tx:List UInt8} {cs:List Int} {s:Aa} (h:TO t p p.length tx cs s):Ph t p [] [] 0 AD=⟨tx,cs,p.length,s,Bw t s⟩:=by
 rw [h.eq,List.drop_length,Ph]
end Go.AI
end
section
namespace Go.AI
theorem Mf {st:List Aa} (hn:st.Nodup) {i:Nat} {s:Aa} (h:st[i]? = some s):BU st s=(i:Int):=by
 unfold BU
 rw [CE hn h]
theorem Lf {st:List Aa} (hn:st.Nodup) {i j:Nat} {s:Aa} (h:st[i]? = some s) (h':st[j]? = some s):i=j:=by
 have a:=CE hn h
 rw [CE hn h'] at a
 cases a;rfl
theorem Cy {i:Nat} (h:i<9223372036854775807):Az .i64 (i:Int) 1=((i+1:Nat):Int):=by
 rw [N8 (by omega) (by omega)];rfl
theorem Ca {st:List Aa} {s:Aa} (h:s∈st):∃ i:Nat,BU st s=i/\st[i]? = some s:=by
 unfold BU
 cases hf:st.findIdx? (λ x=>decide (x=s)) with
 | none=>
  rw [List.findIdx?_eq_none_iff] at hf
  have:=hf s h
  simp at this
 | some i=>
  rw [List.findIdx?_eq_some_iff_getElem] at hf
  obtain ⟨hi,h1,_⟩:=hf
  refine ⟨i,rfl,?_⟩
  rw [JiZ hi]
  simpa using h1
theorem WC {st:List Aa} {s:Aa} (h:s ∉ st):BU st s=-1:=by
 unfold BU
 rw [GX h]
theorem Rb {st:List Aa} {s:Aa}:BU st s<0↔s ∉ st:=by
 constructor
 ·intro h hm
  obtain ⟨i,e,_⟩:=Ca hm
  omega
 ·intro h
  rw [WC h];omega
theorem Vq {t:Ac} (ht:Hs t) {st:List Aa} (hF:FX t st) {i:Nat} {s:Aa} (hi:st[i]? = some s):Tot (λ n=>whl (λ (x:((List Aa)×Int))=>DK n t (i:Int) x.1 x.2) n (st,0)) (λ r=>r=IX t s t.Rules.length st):=by
 have hr:=ht.1
 refine Tot.upto (body:=λ n x=>DK n t (i:Int) x.1 x.2) t.Rules.length (λ k x=>x.2=(k:Int)/\x.1=IX t s k st) ?_ ?_ _ ⟨rfl,rfl⟩
 ·rintro k ⟨l,k'⟩ hk ⟨e1,e2⟩
  simp only at e1 e2
  subst e1 e2
  have hFk:=hF.exp ht hi k (by omega)
  have hik:=Ld (Gz t s st k) hi
  have hlen:=hFk.len
  unfold DK
  refine Tot.iteT (by simpa using hk) (Tot.bindC (CP hik) (Tot.bindA (λ n=>Nd ht.short n s k) (Tot.guard (R:=λ z=>z=BU (IX t s k st) (Ap t s k).1) (λ _=>(IW (by dsimp only;omega)).tot rfl) (λ z hz=>?_))))
  have hJ:∀ l',l'=IX t s (k+1) st->Tot (λ n=>EG n (k:Int) l') (Rd2 (λ x:List Aa×Int=>x.2=((k+1:Nat):Int)/\x.1=IX t s (k+1) st) (λ r=>r=IX t s t.Rules.length st)):=by
   intro l' hl'
   unfold EG
   exact Tot.pure ⟨Cy (by omega),hl'⟩
  have hx:IX t s (k+1) st=JO t s (IX t s k st) k:=IY t s k st
  refine Tot.ite (λ hc=>?_) (λ hc=>?_)
  ·simp only [Ji0,decide_eq_true_eq] at hc
   refine Tot.bindC (Il (by simp;omega)) (hJ _ ?_)
   rw [hx]
   unfold JO
   rw [if_pos ⟨hc.1,Rb.1 (by rw [← hz hc.1];exact hc.2)⟩]
  ·refine hJ _ ?_
   rw [hx]
   unfold JO
   rw [if_neg]
   rintro ⟨h1,h2⟩
   rw [h1,hz h1,decide_eq_true (Rb.2 h2)] at hc
   cases hc
 ·rintro ⟨l,k'⟩ ⟨e1,e2⟩
  simp only at e1 e2
  subst e1 e2
  unfold DK
  exact Tot.iteF (by simp) (Tot.pure rfl)
theorem JgI (t:Ac):FX t [AD]:=⟨by simp,λ s hs=>by simp at hs;subst hs;exact ⟨by decide,by decide,by decide,by decide,by decide,by decide⟩,rfl,λ j s hj h0=>by cases j with|zero=>omega|succ j=>simp at hj⟩
theorem KU {t:Ac} (ht:Hs t):Ev (λ n=>Ga n t) (Ae t):=by
 have loop:Tot (λ n=>whl (λ (x:((List Aa)×Int))=>EH n t x.1 x.2) n ([AD],0)) (λ r=>r=Ae t):=by
  refine Tot.whl (body:=λ n x=>EH n t x.1 x.2) (λ k x=>∃ i:Nat,i<=x.1.length/\k=800-i/\Ra t (800-i) i x.1=Ae t/\x.2=(i:Int)/\FX t x.1) ?_ 800 _ ⟨0,by simp,by omega,rfl,rfl,JgI t⟩
  rintro k ⟨st,i'⟩ ⟨i,hil,rfl,hb,hi',hF⟩
  simp only at hil hb hi' hF
  subst hi'
  have hlen:=hF.len
  unfold EH
  refine Tot.ite (λ hc=>?_) (λ hc=>?_)
  ·have hlt:i<st.length:=by simpa using hc
   have hi:st[i]? = some st[i]:=JiZ hlt
   have hexp:=hF.exp ht hi _ (Nat.le_refl _)
   refine Tot.bind (Vq ht hF hi) ?_
   rintro _ rfl
   refine Tot.pure ⟨800-(i+1),by omega,i+1,?_,rfl,?_,?_,hexp⟩
   ·have:=(Gz t st[i] st t.Rules.length).length_le
    dsimp only
    omega
   ·dsimp only
    rw [← hb]
    have e:800-i=(800-(i+1))+1:=by omega
    rw [e]
    simp only [Ra,hi]
   ·exact Cy (by omega)
  ·have hge:st.length<=i:=by simpa using hc
   have e:i=st.length:=by omega
   subst e
   refine Tot.pure ?_
   show st=Ae t
   rw [← hb]
   have e:800-st.length=(800-(st.length+1))+1:=by omega
   rw [e]
   simp [Ra]
 refine Tot.ev ?_
 unfold Ga
 exact Tot.bindA (y:=AD) (λ n=>rfl) (Tot.bind loop λ _ h=>Tot.pure h)
end Go.AI
end
section
namespace Go.AI
def Edge (t:Ac) (st:List Aa) (i:Nat) (k:Nat) (j:Nat):Prop:=∃ s s',st[i]? = some s/\k<t.Rules.length/\st[j]? = some s'/\Ap t s (k:Nat)=(s',true)
inductive Vr (t:Ac) (st:List Aa):Nat->Prop
 | acc (i:Nat) (s:Aa) (h:st[i]? = some s) (ha:Bw t s=true):Vr t st i
 | step (i k j:Nat) (h:Edge t st i k j) (hj:Vr t st j):Vr t st i
def Rc (t:Ac) (st:List Aa) (l:List Bool):Prop:=l.length=st.length/\∀ i:Nat,l[i]? = some true↔Vr t st i
theorem Vr.lt {t:Ac} {st:List Aa} {i:Nat} (h:Vr t st i):i<st.length:=by
 cases h with
 | acc _ s h ha=>exact Aj h
 | step _ k j h hj=>obtain ⟨s,s',h,_⟩:=h;exact Aj h
theorem Rc.uniq {t:Ac} {st:List Aa} {l m:List Bool} (h:Rc t st l) (h':Rc t st m):l=m:=by
 refine List.ext_getElem? λ i=>?_
 rcases Nat.lt_or_ge i st.length with hi|hi
 ·have h1:i<l.length:=by rw [h.1];exact hi
  have h2:i<m.length:=by rw [h'.1];exact hi
  have e:=(h.2 i).trans (h'.2 i).symm
  rw [JiZ h1,JiZ h2] at e ⊢
  cases ha:l[i]<;>cases hb:m[i]<;>simp_all
 ·rw [List.getElem?_eq_none_iff.2 (by rw [h.1];exact hi),List.getElem?_eq_none_iff.2 (by rw [h'.1];exact hi)]
theorem Rc.of {t:Ac} {st:List Aa} {l:List Bool} (hl:l.length=st.length) (hs:∀ i,l[i]? = some true->Vr t st i) (ha:∀ (i:Nat) s,st[i]? = some s->Bw t s=true->l[i]? = some true) (hc:∀ i k j,Edge t st i k j->l[j]? = some true->l[i]? = some true):Rc t st l:=by
 refine ⟨hl,λ i=>⟨hs i,λ h=>?_⟩⟩
 induction h with
 | acc i s h h'=>exact ha i s h h'
 | step i k j h _ ih=>exact hc i k j h ih
def Vs (l:List Bool):Nat:=l.count false
theorem Jbr {l:List Bool} {i:Nat} (h:l[i]? = some false):Vs (l.set i true)+1=Vs l:=by
 have hi:=Aj h
 rw [JiZ hi] at h
 have h':l[i]=false:=by simpa using h
 have hp:0<List.count false l:=List.count_pos_iff.2 (h'▸List.getElem_mem hi)
 unfold Vs
 rw [List.count_set hi,h']
 simp
 omega
structure Jbs (t:Ac) (st:List Aa) (out0 out:List Bool) (g:Bool) (i m:Nat):Prop where
 len:out.length=st.length
 snd:∀ j:Nat,out[j]? = some true->Vr t st j
 acc:∀ (j:Nat) s,st[j]? = some s->Bw t s=true->out[j]? = some true
 same:g=false->out=out0
 less:g=true->Vs out<Vs out0
 cl:g=false->∀ i' k j,(i'<i\/(i'=i/\k<m))->Edge t st i' k j->out[j]? = some true->out[i']? = some true
theorem Jbs.stop {t:Ac} {st:List Aa} {out0 out:List Bool} {g:Bool} {i m:Nat} (h:Jbs t st out0 out g i m) (hm:t.Rules.length<=m\/out[i]? = some true):Jbs t st out0 out g (i+1) 0:=by
 refine ⟨h.len,h.snd,h.acc,h.same,h.less,λ hg i' k j hi he hj=>?_⟩
 rcases Nat.lt_or_ge i' i with hlt|hge
 ·exact h.cl hg i' k j (.inl hlt) he hj
 ·have:i'=i:=by omega
  subst this
  rcases hm with hm|hm
  ·obtain ⟨s,s',_,hk,_⟩:=id he
   exact h.cl hg i' k j (.inr ⟨rfl,by omega⟩) he hj
  ·exact hm
end Go.AI
end
section
namespace Go.AI
def Jdw (t:Ac) (st:List Aa) (near:List Bool) (out:List Int) (D:Nat):Prop:=
 ∃ rk:Nat->Nat,∀ j:Nat,near[j]? = some true->rk j<=D/\((∃ s,st[j]? = some s/\Bw t s=true)\/∃ k j':Nat,out[j]? = some (k:Int)/\Edge t st j k j'/\near[j']? = some true/\rk j'<rk j)
structure Vt (t:Ac) (st:List Aa) (near ring:List Bool) (out:List Int) (D:Nat) (g:Bool) (i m:Nat):Prop where
 len:ring.length=st.length
 oln:out.length=st.length
 sub:∀ j:Nat,near[j]? = some true->ring[j]? = some true
 new:∀ j:Nat,ring[j]? = some true->near[j]? = some true\/∃ k j':Nat,out[j]? = some (k:Int)/\Edge t st j k j'/\near[j']? = some true
 hom:Jdw t st near out D
 same:g=false->ring=near
 less:g=true->Vs ring<Vs near
 cl:g=false->∀ i' k j,(i'<i\/(i'=i/\k<m))->Edge t st i' k j->near[j]? = some true->ring[i']? = some true
theorem Vt.stop {t:Ac} {st:List Aa} {near ring:List Bool} {out:List Int} {D:Nat} {g:Bool} {i m:Nat} (h:Vt t st near ring out D g i m) (hm:t.Rules.length<=m\/ring[i]? = some true):Vt t st near ring out D g (i+1) 0:=by
 refine ⟨h.len,h.oln,h.sub,h.new,h.hom,h.same,h.less,λ hg i' k j hi he hj=>?_⟩
 rcases Nat.lt_or_ge i' i with hlt|hge
 ·exact h.cl hg i' k j (.inl hlt) he hj
 ·have:i'=i:=by omega
  subst this
  rcases hm with hm|hm
  ·obtain ⟨s,s',_,hk,_⟩:=id he
   exact h.cl hg i' k j (.inr ⟨rfl,by omega⟩) he hj
  ·exact hm
theorem Vt.ring {t:Ac} {st:List Aa} {near ring:List Bool} {out:List Int} {D:Nat} {g:Bool} {i m:Nat} (h:Vt t st near ring out D g i m):Jdw t st ring out (D+1):=by
 obtain ⟨rk,hrk⟩:=h.hom
 refine ⟨λ j=>if near[j]? = some true then rk j else D+1,λ j hj=>?_⟩
 by_cases hn:near[j]? = some true
 ·simp only [hn,if_true]
  obtain ⟨h1,h2⟩:=hrk j hn
  refine ⟨by omega,h2.imp id ?_⟩
  rintro ⟨k,j',a,b,c,d⟩
  exact ⟨k,j',a,b,h.sub j' c,by rw [if_pos c];exact d⟩
 ·simp only [if_neg hn]
  refine ⟨by omega,?_⟩
  rcases h.new j hj with hh|⟨k,j',a,b,c⟩
  ·exact absurd hh hn
  ·exact .inr ⟨k,j',a,b,h.sub j' c,by rw [if_pos c];have:=(hrk j' c).1;omega⟩
end Go.AI
end
section
namespace Go.AI
def GH (t:Ac) (s:Aa):List Int->Aa->Prop
 | [],s'=>s=s'
 | k::p,s'=>(Ap t s k).2=true/\GH t (Ap t s k).1 p s'
theorem GH.snoc {t:Ac}:∀ {p:List Int} {s s':Aa} {k:Int},GH t s p s'->(Ap t s' k).2=true->GH t s (p++[k]) (Ap t s' k).1
 | [],s,s',k,h,h'=>by
  unfold GH at h
  subst h
  exact ⟨h',rfl⟩
 | a::p,s,s',k,h,h'=>⟨h.1,GH.snoc h.2 h'⟩
theorem GH.mem {t:Ac}:∀ {p:List Int} {s s':Aa},GH t s p s'->∀ k∈p,0<=k/\k<t.Rules.length
 | [],_,_,_,k,hk=>by cases hk
 | a::p,s,s',h,k,hk=>by
  rcases List.mem_cons.1 hk with rfl|hk
  ·exact Ch h.1
  ·exact GH.mem h.2 k hk
def Jbt (t:Ac) (p:List Int):Prop:=p.length<=1000/\∃ s,GH t AD p s/\Bw t s=true
def Da (t:Ac) (p:List Int):List UInt8:=p.flatMap λ k=>(BA t k).Print
def cellsOf (t:Ac) (p:List Int):List Int:=p.flatMap λ k=>(BA t k).Cells
theorem Sr {t:Ac}:∀ {p:List Int} {s s':Aa} (tx:List UInt8) (cs:List Int) (a:Nat),GH t s p s'->Ph t p tx cs a s=⟨tx++Da t p,cs++cellsOf t p,(a+p.length:Nat),s',Bw t s'⟩
 | [],s,s',tx,cs,a,h=>by
  unfold GH at h
  subst h
  simp [Ph,Da,cellsOf]
 | k::p,s,s',tx,cs,a,h=>by
  unfold Ph
  rw [if_pos h.1,Sr _ _ _ h.2]
  simp only [Da,cellsOf,List.flatMap_cons,List.append_assoc,List.length_cons]
  congr 1
  omega
theorem Jbt.run {t:Ac} {p:List Int} (h:Jbt t p):∃ s,GH t AD p s/\Bw t s=true/\Ph t p [] [] 0 AD=⟨Da t p,cellsOf t p,(p.length:Nat),s,true⟩:=by
 obtain ⟨_,s,h1,h2⟩:=h
 refine ⟨s,h1,h2,?_⟩
 rw [Sr [] [] 0 h1,h2]
 simp
end Go.AI
end
section
namespace Go.AI
def Way (t:Ac) (q:Aa) (x:List UInt8) (p:List Int):Prop:=(∃ q',GH t q p q'/\Bw t q'=true)/\Da t p=x
def CF (t:Ac) (p:List Int):Nat:=(cellsOf t p).length
def KW (t:Ac) (q:Aa) (x:List UInt8) (v:Int):Prop:=(v=-1/\∀ p,¬Way t q x p)\/∃ p,Way t q x p/\v=(CF t p:Nat)/\∀ p',Way t q x p'->CF t p<=CF t p'
theorem Xj (t:Ac) (q:Aa) (x:List UInt8):∃ v,KW t q x v:=by
 by_cases h:∃ p,Way t q x p
 ·obtain ⟨p,hp⟩:=h
  have key:∀ (n:Nat) (p:List Int),CF t p=n->Way t q x p->∃ v,KW t q x v:=by
   intro n
   induction n using Nat.strongRecOn with
   | _ n ih=>
    intro p hn hp
    by_cases hm:∃ p',Way t q x p'/\CF t p'<n
    ·obtain ⟨p',h1,h2⟩:=hm
     exact ih _ h2 p' rfl h1
    ·exact ⟨(CF t p:Nat),.inr ⟨p,hp,rfl,λ p' hp'=>Nat.le_of_not_lt λ hlt=>hm ⟨p',hp',by omega⟩⟩⟩
  exact key _ p rfl hp
 ·exact ⟨-1,.inl ⟨rfl,λ p hp=>h ⟨p,hp⟩⟩⟩
theorem KW.uniq {t:Ac} {q:Aa} {x:List UInt8} {v w:Int} (h:KW t q x v) (h':KW t q x w):v=w:=by
 rcases h with ⟨h1,h2⟩|⟨p,h1,h2,h3⟩
 ·rcases h' with ⟨g1,g2⟩|⟨p',g1,g2,g3⟩
  ·omega
  ·exact absurd g1 (h2 p')
 ·rcases h' with ⟨g1,g2⟩|⟨p',g1,g2,g3⟩
  ·exact absurd h1 (g2 p)
  ·have:=h3 p' g1
   have:=g3 p h1
   omega
noncomputable def As (t:Ac) (q:Aa) (x:List UInt8):Int:=Classical.choose (Xj t q x)
theorem Nk (t:Ac) (q:Aa) (x:List UInt8):KW t q x (As t q x):=Classical.choose_spec (Xj t q x)
theorem Jbu {t:Ac} {q:Aa} {x:List UInt8} {v:Int} (h:KW t q x v):As t q x=v:=(Nk t q x).uniq h
theorem Re {t:Ac} {q:Aa} {x:List UInt8} {p:List Int} (h:Way t q x p):0<=As t q x/\As t q x<=(CF t p:Nat):=by
 rcases Nk t q x with ⟨h1,h2⟩|⟨p',h1,h2,h3⟩
 ·exact absurd h (h2 p)
 ·have:=h3 p h
  omega
theorem I0 {t:Ac} {q:Aa} {x:List UInt8} (h:0<=As t q x):∃ p,Way t q x p/\As t q x=(CF t p:Nat):=by
 rcases Nk t q x with ⟨h1,h2⟩|⟨p',h1,h2,h3⟩
 ·omega
 ·exact ⟨p',h1,h2⟩
theorem Rf (t:Ac) (q:Aa) (x:List UInt8):-1<=As t q x:=by
 rcases Nk t q x with h1|⟨p',h1,h2,h3⟩<;>omega
abbrev prt (t:Ac) (k:Int):List UInt8:=(BA t k).Print
abbrev cls (t:Ac) (k:Int):List Int:=(BA t k).Cells
theorem Ic (t:Ac) (k:Int) (p:List Int):Da t (k::p)=prt t k++Da t p:=by simp [Da]
theorem DM (t:Ac) (k:Int) (p:List Int):CF t (k::p)=(cls t k).length+CF t p:=by simp [CF,cellsOf]
theorem Way.cons {t:Ac} {q:Aa} {x:List UInt8} {p:List Int} {k:Int} (hk:(Ap t q k).2=true) (h:Way t (Ap t q k).1 x p):Way t q (prt t k++x) (k::p):=by
 obtain ⟨⟨q',h1,h2⟩,h3⟩:=h
 exact ⟨⟨q',⟨hk,h1⟩,h2⟩,by rw [Ic,h3]⟩
theorem Way.uncons {t:Ac} {q:Aa} {x:List UInt8} {p:List Int} {k:Int} (h:Way t q x (k::p)):(Ap t q k).2=true/\∃ y,x=prt t k++y/\Way t (Ap t q k).1 y p:=by
 obtain ⟨⟨q',h1,h2⟩,h3⟩:=h
 exact ⟨h1.1,Da t p,by rw [← h3,Ic],⟨q',h1.2,h2⟩,rfl⟩
theorem Way.nil {t:Ac} {q:Aa} {x:List UInt8} (h:Way t q x []):x=[]/\Bw t q=true:=by
 obtain ⟨⟨q',h1,h2⟩,h3⟩:=h
 unfold GH at h1
 subst h1
 exact ⟨h3.symm,h2⟩
noncomputable def BK (t:Ac) (q:Aa) (x:List UInt8) (k:Int):Int:=
 if (Ap t q k).2=true/\prt t k <+: x/\0<=As t (Ap t q k).1 (x.drop (prt t k).length) then As t (Ap t q k).1 (x.drop (prt t k).length)+(cls t k).length else -1
theorem Jbv {t:Ac} {q:Aa} {x:List UInt8} {k:Int} (h:0<=BK t q x k):0<=As t q x/\As t q x<=BK t q x k:=by
 unfold BK at h ⊢
 split at h
 ·rename_i hc
  rw [if_pos hc]
  obtain ⟨h1,⟨y,rfl⟩,h3⟩:=hc
  rw [List.drop_left] at h3 h ⊢
  obtain ⟨p,hp,he⟩:=I0 h3
  have:=Re (hp.cons h1)
  rw [DM] at this
  omega
 ·omega
theorem Jbw {t:Ac} {S:Aa->Prop} {x:List UInt8} {f:Aa->Int}
  (ach:∀ q,S q->f q=-1\/∃ p,Way t q x p/\f q=(CF t p:Nat))
  (acc:∀ q,S q->x=[]->Bw t q=true->f q=0)
  (rel:∀ q k,S q->(Ap t q k).2=true->prt t k≠[]->∀ y,x=prt t k++y->0<=As t (Ap t q k).1 y->0<=f q/\f q<=As t (Ap t q k).1 y+(cls t k).length)
  (sil:∀ q k,S q->(Ap t q k).2=true->prt t k=[]->S (Ap t q k).1/\(0<=f (Ap t q k).1->0<=f q/\f q<=f (Ap t q k).1+(cls t k).length)) :
  ∀ q,S q->KW t q x (f q):=by
 have low:∀ (p:List Int) (q:Aa),S q->Way t q x p->0<=f q/\f q<=(CF t p:Nat):=by
  intro p
  induction p with
  | nil=>
   intro q hq h
   obtain ⟨h1,h2⟩:=h.nil
   rw [acc q hq h1 h2]
   omega
  | cons k p ih=>
   intro q hq h
   obtain ⟨h1,y,h2,h3⟩:=h.uncons
   rw [DM]
   by_cases he:prt t k=[]
   ·obtain ⟨g1,g2⟩:=sil q k hq h1 he
    rw [he,List.nil_append] at h2
    subst h2
    have h4:=ih _ g1 h3
    have:=g2 h4.1
    omega
   ·have h4:=Re h3
    have:=rel q k hq h1 he y h2 h4.1
    omega
 intro q hq
 rcases ach q hq with h|⟨p,h1,h2⟩
 ·exact .inl ⟨h,λ p hp=>by have:=low p q hq hp;omega⟩
 ·exact .inr ⟨p,h1,h2,λ p' hp'=>by have:=low p' q hq hp';omega⟩
inductive Dk (t:Ac):Aa->List UInt8->List Int->Prop
 | nil {q:Aa} {x:List UInt8} (h:As t q x<=0):Dk t q x []
 | cons {q:Aa} {x:List UInt8} {k:Nat} {p:List Int} (h:0<As t q x) (hk:BK t q x k=As t q x) (hm:∀ j:Nat,j<k->BK t q x j≠As t q x) (hp:Dk t (Ap t q k).1 (x.drop (prt t k).length) p):Dk t q x (k::p)
theorem Dk.uniq {t:Ac} {q:Aa} {x:List UInt8} {p p':List Int} (h:Dk t q x p) (h':Dk t q x p'):p=p':=by
 induction h generalizing p' with
 | nil h=>
  cases h' with
  | nil=>rfl
  | cons g=>omega
 | cons h hk hm _ ih=>
  cases h' with
  | nil g=>omega
  | cons g gk gm gp=>
   rename_i k _ _ k' _
   have:k=k':=by
    rcases Nat.lt_trichotomy k k' with hlt|he|hgt
    ·exact absurd hk (gm _ hlt)
    ·exact he
    ·exact absurd gk (hm _ hgt)
   subst this
   rw [ih gp]
theorem Eo {t:Ac} {q:Aa} {x:List UInt8} {k:Int} (h:0<=BK t q x k):(Ap t q k).2=true/\(∃ y,x=prt t k++y/\x.drop (prt t k).length=y)/\0<=As t (Ap t q k).1 (x.drop (prt t k).length)/\BK t q x k=As t (Ap t q k).1 (x.drop (prt t k).length)+(cls t k).length:=by
 unfold BK at h ⊢
 split at h
 ·rename_i hc
  rw [if_pos hc]
  obtain ⟨y,hy⟩:=hc.2.1
  exact ⟨hc.1,⟨y,hy.symm,by rw [← hy,List.drop_left]⟩,hc.2.2,rfl⟩
 ·omega
theorem Yu {t:Ac} (hc:∀ r∈t.Rules,1<=r.Cells.length) {q:Aa} {x:List UInt8} (h:As t q x=0):Way t q x []:=by
 obtain ⟨p,hp,he⟩:=I0 (t:=t) (q:=q) (x:=x) (by omega)
 cases p with
 | nil=>exact hp
 | cons k p=>
  obtain ⟨h1,_⟩:=hp.uncons
  have hk:=Ch h1
  have:=hc _ (EZ hk.1 hk.2)
  rw [DM] at he
  simp only [cls] at he
  omega
theorem Dk.way {t:Ac} (hc:∀ r∈t.Rules,1<=r.Cells.length) {q:Aa} {x:List UInt8} {p:List Int} (h:Dk t q x p) (h0:0<=As t q x):Way t q x p/\As t q x=(CF t p:Nat):=by
 induction h with
 | nil h=>exact ⟨Yu hc (by omega),by simp [CF,cellsOf];omega⟩
 | cons h hk hm _ ih=>
  obtain ⟨h1,⟨y,h2,h3⟩,h4,h5⟩:=Eo (by rw [hk];omega)
  obtain ⟨i1,i2⟩:=ih h4
  rw [h3] at i1 i2 h5
  refine ⟨by rw [h2];exact i1.cons h1,?_⟩
  rw [DM]
  omega
theorem Ss {t:Ac} {q:Aa} {x:List UInt8} (h:0<As t q x):∃ k:Nat,k<t.Rules.length/\BK t q x k=As t q x:=by
 obtain ⟨p,hp,he⟩:=I0 (t:=t) (q:=q) (x:=x) (by omega)
 cases p with
 | nil=>simp [CF,cellsOf] at he;omega
 | cons k p=>
  obtain ⟨h1,y,h2,h3⟩:=hp.uncons
  have hk:=Ch h1
  obtain ⟨k,rfl⟩:∃ n:Nat,k=n:=⟨k.toNat,by omega⟩
  refine ⟨k,by omega,?_⟩
  have h4:=Re h3
  have hn:BK t q x k=As t (Ap t q k).1 y+(cls t k).length:=by
   unfold BK
   subst h2
   rw [List.drop_left,if_pos ⟨h1,List.prefix_append _ _,h4.1⟩]
  have h5:=Jbv (t:=t) (q:=q) (x:=x) (k:=(k:Int)) (by omega)
  rw [DM] at he
  omega
theorem Su {t:Ac} (hc:∀ r∈t.Rules,1<=r.Cells.length):∀ (n:Nat) (q:Aa) (x:List UInt8),As t q x<=n->∃ p,Dk t q x p:=by
 intro n
 induction n with
 | zero=>intro q x h;exact ⟨[],.nil h⟩
 | succ n ih=>
  intro q x h
  rcases Int.lt_or_le 0 (As t q x) with h0|h0
  ·have hex:=Ss h0
   have key:∀ m,(∃ k,k<m/\BK t q x (k:Nat)=As t q x)->∃ k:Nat,BK t q x k=As t q x/\∀ j:Nat,j<k->BK t q x j≠As t q x:=by
    intro m
    induction m with
    | zero=>rintro ⟨k,hk,_⟩;omega
    | succ m ihm=>
     rintro ⟨k,hk,h1⟩
     by_cases hm:∃ k,k<m/\BK t q x (k:Nat)=As t q x
     ·exact ihm hm
     ·exact ⟨k,h1,λ j hj hh=>hm ⟨j,by omega,hh⟩⟩
   obtain ⟨k,h1,h2⟩:=key _ hex
   obtain ⟨g1,⟨y,g2,g3⟩,g4,g5⟩:=Eo (by rw [h1];omega)
   have hk:=Ch g1
   have:=hc _ (EZ hk.1 hk.2)
   obtain ⟨p,hp⟩:=ih (Ap t q k).1 (x.drop (prt t k).length) (by simp only [cls] at g5;omega)
   exact ⟨k::p,.cons h0 h1 h2 hp⟩
  ·exact ⟨[],.nil h0⟩
end Go.AI
end
section
namespace Go.AI
def TP (l:List Int):Nat:=l.countP λ v=>decide (0<=v)
def phi (B:Nat) (l:List Int):Nat:=(l.map λ v=>if v<0 then B else v.toNat).sum
theorem JcV {B:Nat} {l:List Int} {j:Nat} {v c:Int} (h:l[j]? = some v) (hc:0<=c) (hlt:c<if v<0 then (B:Int) else v):phi B (l.set j c)<phi B l:=by
 induction l generalizing j with
 | nil=>simp at h
 | cons a l ih=>
  cases j with
  | zero=>
   simp only [List.getElem?_cons_zero,Jja] at h
   subst h
   simp only [phi,List.set_cons_zero,List.map_cons,List.sum_cons]
   split at hlt
   ·rename_i h1;rw [if_pos h1,if_neg (by omega)];omega
   ·rename_i h1;rw [if_neg h1,if_neg (by omega)];omega
  | succ j=>
   simp only [List.getElem?_cons_succ] at h
   have:=ih h
   simp only [phi,List.set_cons_succ,List.map_cons,List.sum_cons] at this ⊢
   omega
theorem Jbx {l:List Int} {j:Nat} {v c:Int} (h:l[j]? = some v) (hc:0<=c):TP (l.set j c)=TP l+(if v<0 then 1 else 0):=by
 induction l generalizing j with
 | nil=>simp at h
 | cons a l ih=>
  cases j with
  | zero=>
   simp only [List.getElem?_cons_zero,Jja] at h
   subst h
   simp only [TP,List.set_cons_zero,List.countP_cons,decide_eq_true_eq]
   rw [if_pos hc]
   by_cases h0:a<0
   ·rw [if_pos h0,if_neg (by omega)]
   ·rw [if_neg h0,if_pos (by omega)]
  | succ j=>
   simp only [List.getElem?_cons_succ] at h
   have:=ih h
   simp only [TP,List.set_cons_succ,List.countP_cons] at this ⊢
   omega
theorem TQ (l:List Int):TP l<=l.length:=List.countP_le_length
structure Col (t:Ac) (x:List UInt8) (D:Nat) (qs:List Aa) (cur:List Int):Prop where
 len:cur.length=qs.length
 ach:∀ (j:Nat) q,qs[j]? = some q->∃ v,cur[j]? = some v/\(v=-1\/∃ p,Way t q x p/\v=(CF t p:Nat))
 acc:∀ (j:Nat) q,qs[j]? = some q->x=[]->Bw t q=true->cur[j]? = some 0
 bnd:∀ (j:Nat) v,cur[j]? = some v->v<=((D+4*TP cur:Nat):Int)
theorem Col.top {t:Ac} {x:List UInt8} {D:Nat} {qs:List Aa} {cur:List Int} (h:Col t x D qs cur) {j:Nat} {v:Int} (hv:cur[j]? = some v):-1<=v/\v<=((D+4*qs.length:Nat):Int):=by
 have h1:=h.bnd j v hv
 have h2:=TQ cur
 rw [h.len] at h2
 have hj:j<qs.length:=by rw [← h.len];exact Aj hv
 obtain ⟨w,hw,hd⟩:=h.ach j _ (JiZ hj)
 rw [hv] at hw
 cases hw
 refine ⟨?_,by omega⟩
 rcases hd with rfl|⟨p,_,rfl⟩<;>omega
theorem Col.get {t:Ac} {x:List UInt8} {D:Nat} {qs:List Aa} {cur:List Int} (h:Col t x D qs cur) {j:Nat} (hj:j<qs.length):∃ v,cur[j]? = some v:=⟨_,JiZ (by rw [h.len];exact hj)⟩
theorem Col.lower {t:Ac} {x:List UInt8} {D:Nat} {qs:List Aa} {cur:List Int} (h:Col t x D qs cur) {j:Nat} {q:Aa} {v c:Int} (hq:qs[j]? = some q) (hv:cur[j]? = some v)
  (hp:∃ p,Way t q x p/\c=(CF t p:Nat)) (hlt:v<0\/c<v) (hb:c<=((D+4*TP cur+4:Nat):Int)) {B:Nat} (hB:c<(B:Int)):Col t x D qs (cur.set j c)/\phi B (cur.set j c)<phi B cur:=by
 have hc:0<=c:=by obtain ⟨p,_,rfl⟩:=hp;omega
 have hjl:=Aj hv
 refine ⟨⟨by rw [Jjh];exact h.len,λ i q' hi=>?_,λ i q' hi hx ha=>?_,λ i w hw=>?_⟩,JcV hv hc (by split<;>omega)⟩
 ·by_cases e:j=i
  ·subst e
   rw [hq] at hi;cases hi
   exact ⟨c,Jjb hjl,.inr hp⟩
  ·rw [Jjg e];exact h.ach i q' hi
 ·by_cases e:j=i
  ·subst e
   rw [h.acc j q' hi hx ha] at hv
   cases hv
   omega
  ·rw [Jjg e];exact h.acc i q' hi hx ha
 ·rw [Jbx hv hc]
  by_cases e:j=i
  ·subst e
   rw [Jjb hjl] at hw
   cases hw
   have:=h.bnd j v hv
   split<;>omega
  ·rw [Jjg e] at hw
   have:=h.bnd i w hw
   omega
structure Xk (t:Ac) (x:List UInt8) (qs:List Aa) (cur:List Int):Prop where
 rel:∀ (j:Nat) q (k:Nat),qs[j]? = some q->(Ap t q k).2=true->prt t k≠[]->∀ y,x=prt t k++y->0<=As t (Ap t q k).1 y->∃ v,cur[j]? = some v/\0<=v/\v<=As t (Ap t q k).1 y+(cls t k).length
structure Jdx (t:Ac) (qs:List Aa) (cur:List Int):Prop where
 sil:∀ (j:Nat) q (k:Nat),qs[j]? = some q->(Ap t q k).2=true->prt t k=[]->∃ (i:Nat) (w:Int),qs[i]? = some (Ap t q k).1/\cur[i]? = some w/\(0<=w->∃ v,cur[j]? = some v/\0<=v/\v<=w+(cls t k).length)
theorem Col.exact {t:Ac} {x:List UInt8} {D:Nat} {qs:List Aa} {cur:List Int} (h:Col t x D qs cur) (hn:qs.Nodup) (h1:Xk t x qs cur) (h2:Jdx t qs cur) {j:Nat} {q:Aa} (hq:qs[j]? = some q):cur[j]? = some (As t q x):=by
 let f:Aa->Int:=λ q=>cur.getD ((qs.findIdx? λ x=>decide (x=q)).getD 0) (-1)
 have hf:∀ (j:Nat) q v,qs[j]? = some q->cur[j]? = some v->f q=v:=by
  intro j q v hj hv
  show cur.getD ((qs.findIdx? λ x=>decide (x=q)).getD 0) (-1)=v
  rw [CE hn hj,Option.getD_some,Ji8,hv];rfl
 have key:=Jbw (t:=t) (S:=λ q=>∃ j:Nat,qs[j]? = some q) (x:=x) (f:=f) ?_ ?_ ?_ ?_ q ⟨j,hq⟩
 ·obtain ⟨v,hv⟩:=h.get (Aj hq)
  rw [hf j q v hq hv] at key
  rw [hv,Jbu key]
 ·rintro q ⟨j,hj⟩
  obtain ⟨v,hv,hd⟩:=h.ach j q hj
  rw [hf j q v hj hv];exact hd
 ·rintro q ⟨j,hj⟩ hx ha
  exact hf j q 0 hj (h.acc j q hj hx ha)
 ·rintro q k ⟨j,hj⟩ hs hp y hy hc
  obtain ⟨k,rfl⟩:∃ n:Nat,k=n:=⟨k.toNat,by have:=Ch hs;omega⟩
  obtain ⟨v,hv,g1,g2⟩:=h1.rel j q k hj hs hp y hy hc
  rw [hf j q v hj hv];exact ⟨g1,g2⟩
 ·rintro q k ⟨j,hj⟩ hs hp
  obtain ⟨k,rfl⟩:∃ n:Nat,k=n:=⟨k.toNat,by have:=Ch hs;omega⟩
  obtain ⟨i,w,hi,hw,hh⟩:=h2.sil j q k hj hs hp
  refine ⟨⟨i,hi⟩,?_⟩
  rw [hf i _ w hi hw]
  intro h0
  obtain ⟨v,hv,g1,g2⟩:=hh h0
  rw [hf j q v hj hv];exact ⟨g1,g2⟩
theorem Nl {t:Ac} {q:Aa} {k:Int} {y:List UInt8} {c:Int} (hs:(Ap t q k).2=true) (h:∃ p,Way t (Ap t q k).1 y p/\c=(CF t p:Nat)):∃ p,Way t q (prt t k++y) p/\c+((cls t k).length:Nat)=(CF t p:Nat):=by
 obtain ⟨p,hp,rfl⟩:=h
 exact ⟨k::p,hp.cons hs,by rw [DM];omega⟩
end Go.AI
end
section
namespace Go.AI
structure JT (t:Ac):Prop where
 tab:Hs t
 cl:∀ r∈t.Rules,1<=r.Cells.length/\r.Cells.length<=4
theorem JT.one {t:Ac} (h:JT t):∀ r∈t.Rules,1<=r.Cells.length:=λ r hr=>(h.cl r hr).1
theorem JT.pr {t:Ac} (h:JT t) {k:Int} {q:Aa} (hk:(Ap t q k).2=true):(prt t k).length<=3/\1<=(cls t k).length/\(cls t k).length<=4:=by
 have h1:=Ch hk
 have hm:=EZ h1.1 h1.2
 exact ⟨(h.tab.2 _ hm).2.2.2.2,h.cl _ hm⟩
theorem DC {α:Type} (l:List α) (i:Nat) (d:α):l.set i (l.getD i d)=l:=by
 apply List.ext_getElem?
 intro j
 rw [List.getElem?_set]
 split
 ·rename_i e;subst e
  split
  ·rename_i hl;rw [Ji8,JiZ hl];rfl
  ·rename_i hl;rw [Jjl (by omega)]
 ·rfl
theorem CQ {α:Type} {l:List α} {i:Nat} (h:i<l.length) (y d:α):(l.set i y).getD i d=y:=by
 rw [Ji8,Jjb h];rfl
theorem CG {α:Type} {l:List α} {i j:Nat} (h:i≠j) (y d:α):(l.set i y).getD j d=l.getD j d:=by
 rw [Ji8,Jjg h,← Ji8]
theorem AX {α:Type} {l:List α} {i:Nat} (d:α) (h:i<l.length):idx l (i:Int)=some (l.getD i d):=by
 rw [KT h,Cf h]
theorem Sv {s pr:List UInt8} {i:Nat} (hi:i<=s.length) (hs:s.length<1000000) (hp:pr.length<1000000) (n:Nat):Hj n s (i:Int) pr=some (pr.isPrefixOf (s.drop i)):=by
 unfold Hj
 have e:Az .i64 (i:Int) ((pr.length:Nat):Int)=((i+pr.length:Nat):Int):=by rw [Hu]<;>omega
 rw [e]
 by_cases h:i+pr.length<=s.length
 ·rw [if_pos (by simp;omega),Jbf (by omega) (by omega) (by omega),Option.bind_some]
  congr 1
  rw [Bool.eq_iff_iff,Ji0,beq_iff_eq,List.isPrefixOf_iff_prefix]
  have e2:(s.take ((i+pr.length:Nat):Int).toNat).drop (i:Int).toNat=(s.drop i).take pr.length:=by
   rw [Ji9,Ji9,List.drop_take];congr 1;omega
  rw [e2]
  constructor
  ·rintro ⟨_,h2⟩;rw [← h2];exact List.take_prefix _ _
  ·intro h2;exact ⟨by simp;omega,(List.prefix_iff_eq_take.1 h2).symm⟩
 ·rw [if_neg (by simp;omega),Option.bind_some]
  congr 1
  have:decide (((i+pr.length:Nat):Int)<=((s.length:Nat):Int))=false:=by simp;omega
  rw [this,Bool.false_and,eq_comm,← Bool.not_eq_true,List.isPrefixOf_iff_prefix]
  intro hp'
  have:=hp'.length_le
  rw [List.length_drop] at this
  omega
theorem Cs {s pr:List UInt8} {i:Nat} (h:pr.isPrefixOf (s.drop i)=true):s.drop i=pr++s.drop (i+pr.length)/\(i<=s.length->i+pr.length<=s.length):=by
 rw [List.isPrefixOf_iff_prefix] at h
 obtain ⟨y,hy⟩:=h
 have:s.drop (i+pr.length)=y:=by rw [← List.drop_drop,← hy,List.drop_left]
 rw [this,hy]
 refine ⟨rfl,λ hi=>?_⟩
 have:=congrArg List.length hy
 rw [List.length_append,List.length_drop] at this
 omega
def Im (t:Ac) (s:List UInt8) (out:List (List Int)) (i:Nat) (q:Aa) (k:Nat):Int:=
 if (Ap t q k).2=true/\(prt t k).isPrefixOf (s.drop i)=true then
  (if (out.getD (i+(prt t k).length) []).getD (BU (Ae t) (Ap t q k).1).toNat 0<0 then -1 else (out.getD (i+(prt t k).length) []).getD (BU (Ae t) (Ap t q k).1).toNat 0+(cls t k).length) else -1
structure LJ (t:Ac) (s:List UInt8) (i:Nat) (row:List Int):Prop where
 len:row.length=(Ae t).length
 val:∀ (j:Nat) q,(Ae t)[j]? = some q->row[j]? = some (As t q (s.drop i))
 bnd:∀ (j:Nat) v,row[j]? = some v->v<=((3072*(s.length-i+1):Nat):Int)
structure Suf (t:Ac) (s:List UInt8) (i:Nat) (out:List (List Int)):Prop where
 len:out.length=s.length+1
 rows:∀ i',i<i'->i'<=s.length->LJ t s i' (out.getD i' [])
 col:Col t (s.drop i) (3072*(s.length-i)) (Ae t) (out.getD i [])
section
variable {t:Ac} (hT:JT t) {s:List UInt8} (hs:s.length<=4000)
include hT
theorem Ep {q:Aa} (hq:q∈Ae t) {k:Nat} (hk:(Ap t q k).2=true):(Ap t q k).1∈Ae t:=by
 obtain ⟨j,hj,e⟩:=List.getElem_of_mem hq
 have h:=Ch hk
 exact (B9 hT.tab).2 (j+1) j q (by omega) (by rw [← e];exact JiZ hj) k (by omega) hk
theorem Io:(Ae t).length<=768:=(B9 hT.tab).1.len
theorem Pi:(Ae t).Nodup:=(B9 hT.tab).1.nodup
include hs
theorem Rg {i:Nat} (hi:i<=s.length) {out:List (List Int)} (hol:out.length=s.length+1) (hR:∀ i',i<=i'->i'<=s.length->(out.getD i' []).length=(Ae t).length/\∀ (j:Nat) v,(out.getD i' [])[j]? = some v->-1<=v/\v<=13000000) {q:Aa} (hq:q∈Ae t) {k:Nat} (hk:k<t.Rules.length):Ev (λ n=>Gb n t ⟨s,i,q,Ae t⟩ k out) (Im t s out i q k):=by
 have hlen:=Io hT
 unfold Gb Im
 refine Ev.bind (Ev.all λ n=>Nd hT.tab.short n q k) ?_
 cases hst:(Ap t q k).2 with
 | false=>
  refine Ev.all λ n=>?_
  simp
 | true=>
  obtain ⟨p1,p2,p3⟩:=hT.pr hst
  have hr:=EM (t:=t) (k:=(k:Int)) (by omega) (by omega)
  refine Ev.all (f:=λ n=>_) (λ n=>?_) |>.bind (x:=BA t k) ?_
  ·simp [hr]
  refine Ev.bind (x:=(prt t k).isPrefixOf (s.drop i)) (Ev.all λ n=>?_) ?_
  ·rw [if_pos (by simp)]
   exact Sv hi (by omega) (by simp only [prt] at p1;omega) n
  cases hb:(prt t k).isPrefixOf (s.drop i) with
  | false=>exact Ev.iteT (by simp) (by simp;exact Ev.const)
  | true=>
   obtain ⟨q1,q2⟩:=Cs hb
   have q2:=q2 hi
   refine Ev.iteF (by simp) (Ev.bindC hr ?_)
   have e:Az .i64 (i:Int) ((List.length (BA t k).Print:Nat):Int)=((i+(prt t k).length:Nat):Int):=by rw [Hu]<;>simp only [prt] at*<;> omega
   rw [show (({ S:=s,I:=(i:Int),State:=q,L:=Ae t }:AO).I)=(i:Int) from rfl,e]
   refine Ev.bindC (AX [] (by omega)) ?_
   have hmem:=Ep hT hq hst
   obtain ⟨m,hm,hmg⟩:=Ca hmem
   refine Ev.bind (IW (l:=Ae t) (s:=(Ap t q k).1) (by omega)) ?_
   rw [hm]
   have hml:=Aj hmg
   obtain ⟨hrl,hrb⟩:=hR (i+(prt t k).length) (by omega) q2
   refine Ev.bindC (AX 0 (by rw [hrl];exact hml)) ?_
   simp only [Ji9,and_self,if_true]
   generalize hv:(out.getD (i+(prt t k).length) []).getD m 0=v
   have hvg:(out.getD (i+(prt t k).length) [])[m]? = some v:=by
    rw [← hv,Ji8 (l:=out.getD (i+(prt t k).length) []),JiZ (by rw [hrl];exact hml)];rfl
   have hvb:=hrb m v hvg
   by_cases hneg:v<0
   ·rw [if_pos hneg]
    exact Ev.iteT (by simpa using hneg) Ev.const
   ·rw [if_neg hneg]
    refine Ev.iteF (by simpa using hneg) (Ev.bindC hr (Ev.all λ n=>?_))
    rw [Hu (by simp only [cls] at *;omega) (by simp only [cls] at *;omega)]
theorem Nm {i:Nat} {row:List Int} (h:LJ t s i row):row.length=(Ae t).length/\∀ (j:Nat) v,row[j]? = some v->-1<=v/\v<=13000000:=by
 have _:=hT
 refine ⟨h.len,λ j v hv=>?_⟩
 have h1:=h.bnd j v hv
 have hj:j<(Ae t).length:=by rw [← h.len];exact Aj hv
 have h2:=h.val j _ (JiZ hj)
 rw [hv] at h2
 have:=Rf t (Ae t)[j] (s.drop i)
 simp only [Jja] at h2
 omega
theorem Jby {i:Nat} (hi:i<=s.length) {out:List (List Int)} (ho:Suf t s i out) {q:Aa} (hq:q∈Ae t) {k:Nat} (hk:k<t.Rules.length):Ev (λ n=>Gb n t ⟨s,i,q,Ae t⟩ k out) (Im t s out i q k):=by
 refine Rg hT hs hi ho.len (λ i' h1 h2=>?_) hq hk
 rcases Nat.eq_or_lt_of_le h1 with rfl|hlt
 ·refine ⟨ho.col.len,λ j v hv=>?_⟩
  have h1:=ho.col.top hv
  have:=Io hT
  omega
 ·exact Nm hT hs (ho.rows i' hlt h2)
omit hs in
theorem JcW {i:Nat} (hi:i<=s.length) {out:List (List Int)} (ho:Suf t s i out) {q:Aa} (hq:q∈Ae t) {k:Nat} (h:0<=Im t s out i q k) :
  (∃ p,Way t q (s.drop i) p/\Im t s out i q k=(CF t p:Nat))/\Im t s out i q k<=((3072*(s.length-i)+4*TP (out.getD i [])+4:Nat):Int):=by
 unfold Im at h ⊢
 split at h
 ·rename_i hc
  rw [if_pos hc]
  obtain ⟨hst,hb⟩:=hc
  obtain ⟨p1,p2,p3⟩:=hT.pr hst
  obtain ⟨q1,q2⟩:=Cs hb
  have q2:=q2 hi
  obtain ⟨m,hm,hmg⟩:=Ca (Ep hT hq hst)
  rw [hm,Ji9] at h ⊢
  split at h
  ·omega
  ·rename_i hneg
   rw [if_neg hneg]
   rcases Nat.eq_zero_or_pos (prt t k).length with h0|h0
   ·have hp0:prt t k=[]:=List.length_eq_zero_iff.1 h0
    rw [h0,Nat.add_zero] at h hneg ⊢
    obtain ⟨v,hv,hd⟩:=ho.col.ach m _ hmg
    have hvv:(out.getD i []).getD m 0=v:=by rw [Ji8 (l:=out.getD i []),hv];rfl
    rw [hvv] at h hneg ⊢
    have hbn:=ho.col.bnd m v hv
    refine ⟨?_,by omega⟩
    have:=Nl hst (hd.resolve_left (by omega))
    rw [hp0,List.nil_append] at this
    exact this
   ·have hR:=ho.rows _ (show i<i+(prt t k).length by omega) q2
    have hv:=hR.val m _ hmg
    have hvv:(out.getD (i+(prt t k).length) []).getD m 0=As t (Ap t q k).1 (s.drop (i+(prt t k).length)):=by
     rw [Ji8 (l:=out.getD (i+(prt t k).length) []),hv];rfl
    have hbn:=hR.bnd m _ hv
    rw [hvv] at h hneg ⊢
    refine ⟨?_,?_⟩
    ·have:=Nl hst (I0 (x:=s.drop (i+(prt t k).length)) (by omega))
     rwa [← q1] at this
    ·have:3072*(s.length-(i+(prt t k).length)+1)<=3072*(s.length-i):=by omega
     omega
 ·omega
def JgJ (t:Ac) (s:List UInt8) (i:Nat) (out:List (List Int)) (j k:Nat):Prop:=∀ q,(Ae t)[j]? = some q->0<=Im t s out i q k->∃ v,(out.getD i [])[j]? = some v/\0<=v/\v<=Im t s out i q k
omit hs in
theorem Jbz {i:Nat} (hi:i<=s.length) {out:List (List Int)} (ho:Suf t s i out) (h:∀ j k,j<(Ae t).length->k<t.Rules.length->JgJ t s i out j k):LJ t s i (out.getD i []):=by
 have hx:∀ (j:Nat) q,(Ae t)[j]? = some q->(out.getD i [])[j]? = some (As t q (s.drop i)):=by
  intro j q hq
  refine ho.col.exact (Pi hT) ⟨λ j q k hj hst hp y hy hc=>?_⟩ ⟨λ j q k hj hst hp=>?_⟩ hq
  ·have hk:=Ch hst
   have hb:(prt t k).isPrefixOf (s.drop i)=true:=by rw [List.isPrefixOf_iff_prefix,hy];exact List.prefix_append _ _
   obtain ⟨q1,q2⟩:=Cs hb
   have q2:=q2 hi
   have hyy:s.drop (i+(prt t k).length)=y:=by rw [q1] at hy;exact List.append_cancel_left hy
   have hlp:0<(prt t k).length:=List.length_pos_iff.2 hp
   obtain ⟨m,hm,hmg⟩:=Ca (Ep hT (Ji1 hj) hst)
   have hv:=(ho.rows _ (show i<i+(prt t k).length by omega) q2).val m _ hmg
   have ha:Im t s out i q k=As t (Ap t q k).1 y+(cls t k).length:=by
    unfold Im
    rw [if_pos ⟨hst,hb⟩,hm,Ji9,Ji8 (l:=out.getD (i+(prt t k).length) []),hv,Option.getD_some,hyy,if_neg (by omega)]
   have:=h j k (Aj hj) (by omega) q hj (by omega)
   rwa [ha] at this
  ·have hk:=Ch hst
   obtain ⟨m,hm,hmg⟩:=Ca (Ep hT (Ji1 hj) hst)
   obtain ⟨w,hw,_⟩:=ho.col.ach m _ hmg
   refine ⟨m,w,hmg,hw,λ h0=>?_⟩
   have ha:Im t s out i q k=w+(cls t k).length:=by
    unfold Im
    rw [if_pos ⟨hst,by rw [hp];rfl⟩,hm,Ji9,hp,List.length_nil,Nat.add_zero,Ji8 (l:=out.getD i []),hw,Option.getD_some,if_neg (by omega)]
   have:=h j k (Aj hj) (by omega) q hj (by omega)
   rwa [ha] at this
 refine ⟨ho.col.len,hx,λ j v hv=>?_⟩
 have h1:=(ho.col.top hv).2
 have:=Io hT
 omega
end
end Go.AI
end
section
namespace Go.AI
section
variable {t:Ac} (hT:JT t) {s:List UInt8} (hs:s.length<=4000)
include hT
def CS (t:Ac) (x:List UInt8) (q:Aa):Int:=if x=[]/\Bw t q=true then 0 else -1
omit hT in
theorem Sw (t:Ac) (x:List UInt8) (D:Nat) (qs:List Aa):Col t x D qs (qs.map (CS t x)):=by
 refine ⟨by simp,λ j q hj=>⟨CS t x q,by simp [hj],?_⟩,λ j q hj hx ha=>by simp [hj,CS,hx,ha],λ j v hv=>?_⟩
 ·unfold CS
  split
  ·rename_i h;exact .inr ⟨[],⟨⟨q,rfl,h.2⟩,by rw [h.1];rfl⟩,by simp [CF,cellsOf]⟩
  ·exact .inl rfl
 ·rw [Ji3,Ji2] at hv
  obtain ⟨q,_,rfl⟩:=hv
  unfold CS
  split<;>omega
include hs
omit hT in
theorem Vu {i:Nat} (hi:i<=s.length):(((i:Nat):Int)==((s.length:Nat):Int))=decide (s.drop i=[]):=by
 have _:=hs
 rw [Bool.eq_iff_iff]
 simp only [beq_iff_eq,decide_eq_true_eq,List.drop_eq_nil_iff]
 omega
theorem JcX {i:Nat} (hi:i<=s.length) (out0:List (List Int)) (hl:out0.length=s.length+1) (hr:(out0.getD i []).length=(Ae t).length) :
  Tot (λ n=>whl (λ (x:((List (List Int))×Int))=>CZ n t s (Ae t) (i:Int) x.1 x.2) n (out0,0)) (λ out=>out=out0.set i ((Ae t).map (CS t (s.drop i)))):=by
 have hlen:=Io hT
 refine Tot.upto (body:=λ n x=>CZ n t s (Ae t) (i:Int) x.1 x.2) (Ae t).length (λ k x=>x.2=(k:Int)/\∃ row,x.1=out0.set i row/\row.length=(Ae t).length/\∀ (j:Nat) q,j<k->(Ae t)[j]? = some q->row[j]? = some (CS t (s.drop i) q)) ?_ ?_ _ ⟨rfl,out0.getD i [],(DC _ _ _).symm,hr,by omega⟩
 ·rintro k ⟨out,k'⟩ hk ⟨e1,row,e2,e3,e4⟩
  simp only at e1 e2
  subst e1 e2
  have hJ:∀ v,v=CS t (s.drop i) (Ae t)[k]->∀ out',out'=out0.set i (row.set k v)->Tot (λ n=>Dy n (k:Int) out') (Rd2 (λ x:List (List Int)×Int=>x.2=((k+1:Nat):Int)/\∃ row,x.1=out0.set i row/\row.length=(Ae t).length/\∀ (j:Nat) q,j<k+1->(Ae t)[j]? = some q->row[j]? = some (CS t (s.drop i) q)) (λ out=>out=out0.set i ((Ae t).map (CS t (s.drop i))))):=by
   intro v hv out' ho'
   unfold Dy
   refine Tot.pure ⟨Cy (by omega),_,ho',by rw [Jjh];exact e3,λ j q hj hq=>?_⟩
   by_cases e:k=j
   ·subst e
    rw [Jjb (by omega),hv]
    rw [JiZ hk] at hq
    cases hq;rfl
   ·rw [Jjg e];exact e4 j q (by omega) hq
  unfold CZ
  have hil:i<(out0.set i row).length:=by rw [Jjh];omega
  have hg:(out0.set i row).getD i []=row:=CQ (by omega) _ _
  refine Tot.iteT (Fp hk) (Tot.bindC (AX [] hil) ?_)
  rw [hg]
  refine Tot.bindC (AX 0 (by omega)) (Tot.bindC (JR (by omega)) ?_)
  rw [Vu hs hi,Ji9,List.set_set]
  by_cases hd:s.drop i=[]
  ·refine Tot.gE (decide_eq_true hd) (Ev.all λ n=>KT hk) (Tot.gE (decide_eq_true hd) (Ev.all λ n=>Ve n t _) (Tot.ite (λ h=>?_) λ h=>?_))
   ·have ha:Bw t (Ae t)[k]=true:=by simpa [hd] using h
    refine Tot.bindC (AX [] (by rw [Jjh];omega)) ?_
    rw [CQ (by omega)]
    refine Tot.bindC (AX 0 (by rw [Jjh];omega)) (Tot.bindC (JR (by rw [Jjh];omega)) (hJ 0 ?_ _ ?_))
    ·unfold CS;rw [if_pos ⟨hd,ha⟩]
    ·rw [List.set_set,List.set_set]
   ·have ha:Bw t (Ae t)[k]=false:=by simpa [hd] using h
    refine hJ (-1) ?_ _ rfl
    unfold CS;rw [if_neg (by rw [ha];simp)]
  ·refine Tot.gF (decide_eq_false hd) (Tot.gF (decide_eq_false hd) (Tot.iteF (by simp [hd]) (hJ (-1) ?_ _ rfl)))
   unfold CS;rw [if_neg (λ h=>hd h.1)]
 ·rintro ⟨out,k'⟩ ⟨e1,row,e2,e3,e4⟩
  simp only at e1 e2
  subst e1 e2
  unfold CZ
  refine Tot.iteF (by simp) (Tot.pure ?_)
  refine congrArg (out0.set i) (List.ext_getElem? λ j=>?_)
  rcases Nat.lt_or_ge j (Ae t).length with h|h
  ·rw [e4 j _ h (JiZ h),Ji3,JiZ h];rfl
  ·rw [Jjl (by omega),Jjl (by simpa using h)]
structure Nn (t:Ac) (s:List UInt8) (i:Nat) (B:Nat) (out0 out:List (List Int)) (ch:Bool) (k r:Nat):Prop where
 suf:Suf t s i out
 same:ch=false->out=out0/\∀ j m,(j<k\/(j=k/\m<r))->m<t.Rules.length->JgJ t s i out0 j m
 less:ch=true->phi B (out.getD i [])<phi B (out0.getD i [])
omit hT hs in
theorem JbA (n:Nat) (a c:Int) (hc:0<=c):La n a c=some (if a<0\/c<a then c else a):=by
 unfold La
 by_cases h:a<0\/c<a
 ·rw [if_pos h,if_pos (by simp only [Jjj,Ji0,decide_eq_true_eq];omega)]
 ·rw [if_neg h,if_neg (by simp only [Jjj,Ji0,decide_eq_true_eq];omega)]
theorem JcY {i:Nat} (hi:i<=s.length) {B:Nat} (hB:13000000<=B) {out0 out1:List (List Int)} {ch1:Bool} {k:Nat} (hk:k<(Ae t).length) (h1:Nn t s i B out0 out1 ch1 k 0) :
  Tot (λ n=>whl (λ (x:((List (List Int))×Bool×Int))=>C0 n t s (Ae t) (i:Int) (k:Int) x.1 x.2.1 x.2.2) n (out1,ch1,0)) (λ y=>Nn t s i B out0 y.1 y.2 k t.Rules.length):=by
 have hlen:=Io hT
 have hrl:=hT.tab.1
 refine Tot.upto (body:=λ n x=>C0 n t s (Ae t) (i:Int) (k:Int) x.1 x.2.1 x.2.2) t.Rules.length (λ r x=>x.2.2=(r:Int)/\Nn t s i B out0 x.1 x.2.1 k r) ?_ ?_ _ ⟨rfl,h1⟩
 ·rintro r ⟨out,ch,r'⟩ hr ⟨e1,hP⟩
  simp only at e1 hP
  subst e1
  have hq:(Ae t)[k]? = some (Ae t)[k]:=JiZ hk
  have hqm:(Ae t)[k]∈Ae t:=List.getElem_mem hk
  have hA:=hP.suf
  have hJ:∀ out' ch',Nn t s i B out0 out' ch' k (r+1)->Tot (λ n=>Dz n (r:Int) out' ch') (Rd2 (λ x:List (List Int)×Bool×Int=>x.2.2=((r+1:Nat):Int)/\Nn t s i B out0 x.1 x.2.1 k (r+1)) (λ y=>Nn t s i B out0 y.1 y.2 k t.Rules.length)):=by
   intro out' ch' h
   unfold Dz
   exact Tot.pure ⟨Cy (by omega),h⟩
  have hskip:JgJ t s i out k r->Nn t s i B out0 out ch k (r+1):=by
   intro hrel
   refine ⟨hA,λ hc=>⟨(hP.same hc).1,λ j m hjm hm=>?_⟩,hP.less⟩
   by_cases e:j=k/\m=r
   ·obtain ⟨rfl,rfl⟩:=e
    rw [← (hP.same hc).1];exact hrel
   ·exact (hP.same hc).2 j m (by omega) hm
  unfold C0
  refine Tot.iteT (Fp hr) (Tot.bindC (CP hq) (Tot.bindE (Jby hT hs hi hA hqm hr) ?_))
  have hil:i<out.length:=by rw [hA.len];omega
  rw [Ji9]
  simp only [DC]
  have hcl:=hA.col.len
  obtain ⟨v,hv⟩:=hA.col.get hk
  have hvd:(out.getD i []).getD k 0=v:=by rw [Ji8 (l:=out.getD i []),hv];rfl
  by_cases hc:0<=Im t s out i (Ae t)[k] r
  ·obtain ⟨u1,u2⟩:=JcW hT hi hA hqm hc
   have hgd:decide (Im t s out i (Ae t)[k] r>=0)=true:=by simpa using hc
   refine Tot.gE hgd (Ev.all λ n=>AX [] hil) (Tot.gE hgd (Ev.all λ n=>AX 0 (by omega)) ?_)
   rw [hvd]
   refine Tot.gE hgd (Ev.all λ n=>JbA n v _ hc) (Tot.gE hgd (Ev.all λ n=>AX [] hil) (Tot.gE hgd (Ev.all λ n=>AX 0 (by omega)) ?_))
   rw [hvd]
   by_cases hlt:v<0\/Im t s out i (Ae t)[k] r<v
   ·rw [if_pos hlt]
    refine Tot.iteT (by simp only [Ji0,bne_iff_ne,ne_eq];exact ⟨hgd,by omega⟩) ?_
    have hfin:=TQ (out.getD i [])
    obtain ⟨g1,g2⟩:=hA.col.lower hq hv u1 (hlt.imp id id) u2 (B:=B) (by omega)
    refine Tot.bindC (AX [] hil) (Tot.bindC (AX 0 (by omega)) (Tot.bindC (JR (by omega)) (hJ _ _ ?_)))
    have hgs:(out.set i ((out.getD i []).set k (Im t s out i (Ae t)[k] r))).getD i []=(out.getD i []).set k (Im t s out i (Ae t)[k] r):=CQ hil _ _
    refine ⟨⟨by rw [Jjh];exact hA.len,λ i' h1 h2=>by rw [CG (by omega)];exact hA.rows i' h1 h2,by rw [hgs];exact g1⟩,(λ h=>by cases h),λ _=>?_⟩
    rw [hgs]
    cases hch:ch with
    | false=>rw [(hP.same hch).1] at g2 ⊢;exact g2
    | true=>have:=hP.less hch;omega
   ·rw [if_neg hlt]
    refine Tot.iteF (by simp) (hJ _ _ (hskip λ q hq' _=>?_))
    rw [hq] at hq'
    cases hq'
    exact ⟨v,hv,by omega,by omega⟩
  ·have hgd:decide (Im t s out i (Ae t)[k] r>=0)=false:=by simpa using hc
   refine Tot.gF hgd (Tot.gF hgd (Tot.gF hgd (Tot.gF hgd (Tot.gF hgd (Tot.iteF (by rw [hgd];rfl) (hJ _ _ (hskip λ q hq' h0=>?_)))))))
   rw [hq] at hq'
   cases hq'
   exact absurd h0 hc
 ·rintro ⟨out,ch,r'⟩ ⟨e1,hP⟩
  simp only at e1 hP
  subst e1
  unfold C0
  exact Tot.iteF (by simp) (Tot.pure hP)
theorem JcZ {i:Nat} (hi:i<=s.length) {B:Nat} (hB:13000000<=B) {out0:List (List Int)} (h1:Suf t s i out0) :
  Tot (λ n=>whl (λ (x:((List (List Int))×Bool×Int))=>C1 n t s (Ae t) (i:Int) x.1 x.2.1 x.2.2) n (out0,false,0)) (λ y=>Nn t s i B out0 y.1 y.2 (Ae t).length 0):=by
 have hlen:=Io hT
 refine Tot.upto (body:=λ n x=>C1 n t s (Ae t) (i:Int) x.1 x.2.1 x.2.2) (Ae t).length (λ k x=>x.2.2=(k:Int)/\Nn t s i B out0 x.1 x.2.1 k 0) ?_ ?_ _ ⟨rfl,h1,λ _=>⟨rfl,λ j m h=>by omega⟩,λ h=>by cases h⟩
 ·rintro k ⟨out,ch,k'⟩ hk ⟨e1,hP⟩
  simp only at e1 hP
  subst e1
  unfold C1
  refine Tot.iteT (Fp hk) (Tot.bind (JcY hT hs hi hB hk hP) ?_)
  rintro ⟨out',ch'⟩ hP'
  exact Tot.pure ⟨Cy (by omega),hP'.suf,λ hc=>⟨(hP'.same hc).1,λ j m hjm hm=>(hP'.same hc).2 j m (by omega) hm⟩,hP'.less⟩
 ·rintro ⟨out,ch,k'⟩ ⟨e1,hP⟩
  simp only at e1 hP
  subst e1
  unfold C1
  exact Tot.iteF (by simp) (Tot.pure hP)
theorem Jc0 {i:Nat} (hi:i<=s.length) {out0:List (List Int)} (h1:Suf t s i out0) :
  Tot (λ n=>whl (λ (x:((List (List Int))×Bool))=>DA n t s (Ae t) (i:Int) x.1 x.2) n (out0,true)) (λ out=>out.length=s.length+1/\∀ i',i<=i'->i'<=s.length->LJ t s i' (out.getD i' [])):=by
 refine Tot.whl (body:=λ n x=>DA n t s (Ae t) (i:Int) x.1 x.2) (λ m x=>Suf t s i x.1/\((x.2=true/\m=phi 13000000 (x.1.getD i [])+1)\/(x.2=false/\m=0/\LJ t s i (x.1.getD i [])))) ?_ (phi 13000000 (out0.getD i [])+1) (out0,true) ⟨h1,.inl ⟨rfl,rfl⟩⟩
 rintro m ⟨out,ch⟩ ⟨hS,hm⟩
 simp only at hS hm
 unfold DA
 rcases hm with ⟨rfl,rfl⟩|⟨rfl,rfl,hR⟩
 ·refine Tot.iteT rfl (Tot.bind (JcZ hT hs hi (Nat.le_refl _) hS) ?_)
  rintro ⟨out',ch'⟩ hP
  simp only at hP
  cases ch' with
  | false=>
   obtain ⟨e,hrel⟩:=hP.same rfl
   subst e
   exact Tot.pure ⟨0,by omega,hS,.inr ⟨rfl,rfl,Jbz hT hi hS λ j k hj hk=>hrel j k (by omega) hk⟩⟩
  | true=>
   have:=hP.less rfl
   exact Tot.pure ⟨phi 13000000 (out'.getD i [])+1,by omega,hP.suf,.inl ⟨rfl,rfl⟩⟩
 ·refine Tot.iteF rfl (Tot.pure ⟨hS.len,λ i' h1 h2=>?_⟩)
  rcases Nat.eq_or_lt_of_le h1 with rfl|h
  ·exact hR
  ·exact hS.rows i' h h2
theorem OR:Tot (λ n=>GQ n t s) (λ out=>out.length=s.length+1/\∀ i,i<=s.length->LJ t s i (out.getD i [])):=by
 have hlen:=Io hT
 unfold GQ
 have e1:Az .i64 ((s.length:Nat):Int) 1=((s.length+1:Nat):Int):=Cy (by omega)
 refine Tot.bindE (KU hT.tab) ?_
 rw [e1]
 refine Tot.bindC (OP (by omega) (by omega)) ?_
 rw [Ji9]
 refine Tot.bind (R:=λ out=>out.length=s.length+1/\∀ i,i<=s.length->LJ t s i (out.getD i [])) ?_ (λ out h=>Tot.pure h)
 refine Tot.whl (body:=λ n x=>EQ n t s (Ae t) x.1 x.2) (λ m x=>x.2=(m:Int)-1/\x.1.length=s.length+1/\m<=s.length+1/\∀ i',m<=i'->i'<=s.length->LJ t s i' (x.1.getD i' [])) ?_ (s.length+1) _ ⟨by simp,by simp,by omega,by omega⟩
 rintro m ⟨out,i'⟩ ⟨e2,e3,e4,e5⟩
 simp only at e2 e3 e5
 subst e2
 unfold EQ
 cases m with
 | zero=>exact Tot.iteF (by simp) (Tot.pure ⟨e3,λ i hi=>e5 i (by omega) hi⟩)
 | succ i=>
  have ei:((i+1:Nat):Int)-1=(i:Int):=by omega
  rw [ei]
  refine Tot.iteT (by simp) (Tot.bindC (AX [] (show i<out.length by omega)) (Tot.bindC (OP (by omega) (by omega)) ?_))
  rw [Ji9,Ji9]
  refine Tot.bind (JcX hT hs (show i<=s.length by omega) (out.set i (List.replicate (Ae t).length 0)) (by rw [Jjh];exact e3) (by rw [CQ (by omega),List.length_replicate])) ?_
  rintro out1 rfl
  rw [List.set_set]
  refine Tot.bind (Jc0 hT hs (show i<=s.length by omega) ⟨by rw [Jjh];exact e3,λ i' h1 h2=>?_,?_⟩) ?_
  ·rw [CG (by omega)];exact e5 i' (by omega) h2
  ·rw [CQ (by omega)];exact Sw t _ _ _
  ·rintro out2 ⟨h1,h2⟩
   refine Tot.pure ⟨i,by omega,?_,h1,by omega,h2⟩
   show Jk .i64 (i:Int) 1=(i:Int)-1
   rw [Xe (by omega) (by omega)]
end
end Go.AI
end
section
namespace Go.AI
def Rch (t:Ac) (s:List UInt8) (i:Nat) (q:Aa):Prop:=i<=s.length/\∃ p,GH t AD p q/\Da t p=s.take i
theorem Rch.start (t:Ac) (s:List UInt8):Rch t s 0 AD:=⟨by omega,[],rfl,by simp [Da]⟩
theorem KX (t:Ac) (p:List Int) (k:Int):Da t (p++[k])=Da t p++prt t k:=by simp [Da]
theorem Rch.next {t:Ac} {s:List UInt8} {i:Nat} {q:Aa} {k:Int} (h:Rch t s i q) (hk:(Ap t q k).2=true) (hb:(prt t k).isPrefixOf (s.drop i)=true):Rch t s (i+(prt t k).length) (Ap t q k).1:=by
 obtain ⟨h1,p,h2,h3⟩:=h
 obtain ⟨q1,q2⟩:=Cs hb
 refine ⟨q2 h1,p++[k],h2.snoc hk,?_⟩
 rw [KX,h3,List.take_add,q1,List.take_left' rfl]
theorem Rch.ind {t:Ac} {s:List UInt8} {A:Nat->Aa->Prop} (h0:A 0 AD) (h1:∀ i q (k:Nat),i<=s.length->A i q->(Ap t q k).2=true->(prt t k).isPrefixOf (s.drop i)=true->A (i+(prt t k).length) (Ap t q k).1):∀ {i:Nat} {q:Aa},Rch t s i q->A i q:=by
 have key:∀ (p:List Int) (i:Nat) (q q':Aa),A i q->i<=s.length->GH t q p q'->(∃ y,s.drop i=Da t p++y)->A (i+(Da t p).length) q':=by
  intro p
  induction p with
  | nil=>
   intro i q q' hA _ hg _
   unfold GH at hg
   subst hg
   simpa [Da] using hA
  | cons k p ih=>
   intro i q q' hA hi hg hy
   obtain ⟨g1,g2⟩:=hg
   obtain ⟨y,hy⟩:=hy
   obtain ⟨k,rfl⟩:∃ n:Nat,k=n:=⟨k.toNat,by have:=Ch g1;omega⟩
   rw [Ic,List.append_assoc] at hy
   have hb:(prt t k).isPrefixOf (s.drop i)=true:=by rw [List.isPrefixOf_iff_prefix];exact ⟨_,hy.symm⟩
   obtain ⟨q1,q2⟩:=Cs hb
   have:=ih _ _ q' (h1 i q k hi hA g1 hb) (q2 hi) g2 ⟨y,by rw [q1] at hy;exact List.append_cancel_left hy⟩
   rw [Ic,List.length_append,← Nat.add_assoc]
   exact this
 rintro i q ⟨hi,p,hg,ht⟩
 have:=key p 0 AD q h0 (by omega) hg ⟨s.drop i,by rw [ht,List.drop_zero,List.take_append_drop]⟩
 rw [ht,List.length_take,Jje,Nat.min_eq_left hi] at this
 exact this
def Dl (s:List UInt8) (i:Nat):Int:=if i<s.length then FF (OO s i) else 0
theorem OS (s:List UInt8) (i:Nat):0<=Dl s i/\Dl s i<=5:=by
 unfold Dl
 split
 ·have:=ON (OO s i);omega
 ·omega
def No (t:Ac) (s:List UInt8) (i:Nat):Prop:=∃ q,Rch t s i q/\Gf q.Need (Dl s i)=true
def KY (t:Ac) (s:List UInt8) (v:Int):Prop:=(∃ i:Nat,v=i/\No t s i)/\∀ i:Nat,No t s i->(i:Int)<=v
theorem KY.uniq {t:Ac} {s:List UInt8} {v w:Int} (h:KY t s v) (h':KY t s w):v=w:=by
 obtain ⟨⟨i,e1,h1⟩,h2⟩:=h
 obtain ⟨⟨j,e2,g1⟩,g2⟩:=h'
 have:=h2 j g1
 have:=g2 i h1
 omega
theorem Jig (t:Ac) (s:List UInt8):No t s 0:=by
 refine ⟨AD,.start t s,?_⟩
 have h:=OS s 0
 generalize Dl s 0=c at h
 have:c=0\/c=1\/c=2\/c=3\/c=4\/c=5:=by omega
 rcases this with rfl|rfl|rfl|rfl|rfl|rfl<;>decide +kernel
def GA (t:Ac) (s:List UInt8) (i:Nat) (v:Int):Prop:=(∃ j:Nat,v=j/\(j=0\/(j<i/\No t s j)))/\∀ j:Nat,j<i->No t s j->(j:Int)<=v
theorem GA.stop {t:Ac} {s:List UInt8} {i:Nat} (hs:No t s i):GA t s (i+1) (i:Nat):=⟨⟨i,rfl,.inr ⟨by omega,hs⟩⟩,λ j h _=>by omega⟩
theorem GA.skip {t:Ac} {s:List UInt8} {i:Nat} {v:Int} (h:GA t s i v) (hs:¬No t s i):GA t s (i+1) v:=by
 obtain ⟨⟨j,e,h1⟩,h2⟩:=h
 refine ⟨⟨j,e,h1.imp id λ h=>⟨by omega,h.2⟩⟩,λ k hk hS=>?_⟩
 by_cases e:k=i
 ·subst e;exact absurd hS hs
 ·exact h2 k (by omega) hS
theorem GA.all {t:Ac} {s:List UInt8} {v:Int} (h:GA t s (s.length+1) v):KY t s v:=by
 obtain ⟨⟨j,e,h1⟩,h2⟩:=h
 refine ⟨⟨j,e,?_⟩,λ i hi=>h2 i ?_ hi⟩
 ·rcases h1 with rfl|h1
  ·exact Jig t s
  ·exact h1.2
 ·obtain ⟨q,hq,_⟩:=hi
  have:=hq.1
  omega
section
variable {t:Ac} (hT:JT t) {s:List UInt8} (hs:s.length<=4000)
def TR (l:List (List Bool)):Nat:=(l.map λ r=>r.count false).sum
theorem JbB {l:List (List Bool)} {i j:Nat} {r:List Bool} (h:l[i]? = some r) (hj:r[j]? = some false):TR (l.set i (r.set j true))+1=TR l:=by
 induction l generalizing i with
 | nil=>simp at h
 | cons a l ih=>
  cases i with
  | zero=>
   simp only [List.getElem?_cons_zero,Jja] at h
   subst h
   have:=Jbr hj
   unfold Vs at this
   simp only [TR,List.set_cons_zero,List.map_cons,List.sum_cons]
   omega
  | succ i=>
   simp only [List.getElem?_cons_succ] at h
   have:=ih h
   simp only [TR,List.set_cons_succ,List.map_cons,List.sum_cons] at this ⊢
   omega
def Mk (m:List (List Bool)) (i j:Nat):Prop:=(m.getD i [])[j]? = some true
structure Rea (t:Ac) (s:List UInt8) (i:Nat) (m:List (List Bool)):Prop where
 len:m.length=s.length+1
 rows:∀ i,i<=s.length->(m.getD i []).length=(Ae t).length
 sound:∀ i j,i<=s.length->Mk m i j->∃ q,(Ae t)[j]? = some q/\Rch t s i q
 first:Mk m 0 0
 done:∀ i',i'<i->∀ j k:Nat,∀ q,Mk m i' j->(Ae t)[j]? = some q->(Ap t q k).2=true->(prt t k).isPrefixOf (s.drop i')=true->∃ j',(Ae t)[j']? = some (Ap t q k).1/\Mk m (i'+(prt t k).length) j'
def Jih (t:Ac) (s:List UInt8) (i:Nat) (m:List (List Bool)) (j k:Nat):Prop:=∀ q,Mk m i j->(Ae t)[j]? = some q->(Ap t q k).2=true->(prt t k).isPrefixOf (s.drop i)=true->∃ j',(Ae t)[j']? = some (Ap t q k).1/\Mk m (i+(prt t k).length) j'
structure Np (t:Ac) (s:List UInt8) (i:Nat) (m0 m:List (List Bool)) (ch:Bool) (k r:Nat):Prop where
 rea:Rea t s i m
 same:ch=false->m=m0/\∀ j x,(j<k\/(j=k/\x<r))->x<t.Rules.length->Jih t s i m0 j x
 less:ch=true->TR m<TR m0
theorem Mk.set {m:List (List Bool)} {i j:Nat} (hi:i<m.length) (hj:j<(m.getD i []).length) {i' j':Nat}:Mk (m.set i ((m.getD i []).set j true)) i' j'↔(i=i'/\j=j')\/Mk m i' j':=by
 unfold Mk
 by_cases e:i=i'
 ·subst e
  rw [CQ hi]
  by_cases e2:j=j'
  ·subst e2;rw [Jjb hj];simp
  ·rw [Jjg e2];simp [e2]
 ·rw [CG e];simp [e]
include hT hs
theorem Jc1 {i:Nat} (hi:i<=s.length) {m0 m1:List (List Bool)} {ch1:Bool} {k:Nat} (hk:k<(Ae t).length) (x0:Int) (h1:Np t s i m0 m1 ch1 k 0) :
  Tot (λ n=>whl (λ (x:((List (List Bool))×Bool×Int))=>Dg n t s (Ae t) x0 (i:Int) (k:Int) x.1 x.2.1 x.2.2) n (m1,ch1,0)) (λ y=>Np t s i m0 y.1 y.2 k t.Rules.length):=by
 have hlen:=Io hT
 have hrl:=hT.tab.1
 refine Tot.upto (body:=λ n x=>Dg n t s (Ae t) x0 (i:Int) (k:Int) x.1 x.2.1 x.2.2) t.Rules.length (λ r x=>x.2.2=(r:Int)/\Np t s i m0 x.1 x.2.1 k r) ?_ ?_ _ ⟨rfl,h1⟩
 ·rintro r ⟨m,ch,r'⟩ hr ⟨e1,hP⟩
  simp only at e1 hP
  subst e1
  have hq:(Ae t)[k]? = some (Ae t)[k]:=JiZ hk
  have hqm:(Ae t)[k]∈Ae t:=List.getElem_mem hk
  have hA:=hP.rea
  have hrow:=hA.rows i hi
  have hil:i<m.length:=by rw [hA.len];omega
  have hJ:∀ m' ch',Np t s i m0 m' ch' k (r+1)->Tot (λ n=>D9 n (r:Int) m' ch') (Rd2 (λ x:List (List Bool)×Bool×Int=>x.2.2=((r+1:Nat):Int)/\Np t s i m0 x.1 x.2.1 k (r+1)) (λ y=>Np t s i m0 y.1 y.2 k t.Rules.length)):=by
   intro m' ch' h
   unfold D9
   exact Tot.pure ⟨Cy (by omega),h⟩
  have hskip:∀ r1,r1<=t.Rules.length->(∀ x,r<=x->x<r1->Jih t s i m k x)->Np t s i m0 m ch k r1:=by
   intro r1 _ hrel
   refine ⟨hA,λ hc=>⟨(hP.same hc).1,λ j x hjx hx=>?_⟩,hP.less⟩
   by_cases e:j=k/\r<=x
   ·obtain ⟨rfl,h2⟩:=e
    rw [← (hP.same hc).1];exact hrel x h2 (by omega)
   ·exact (hP.same hc).2 j x (by omega) hx
  have hgr:decide ((r:Int)<((t.Rules.length:Nat):Int))=true:=Fp hr
  obtain ⟨b,hb⟩:∃ b,(m.getD i [])[k]? = some b:=⟨_,JiZ (by omega)⟩
  have hbd:(m.getD i []).getD k false=b:=by rw [Ji8 (l:=m.getD i []),hb];rfl
  unfold Dg
  simp only [Ji9,DC]
  refine Tot.gE hgr (Ev.all λ n=>AX [] hil) (Tot.gE hgr (Ev.all λ n=>AX false (by omega)) ?_)
  rw [hbd]
  cases b with
  | false=>
   refine Tot.iteF (by simp) (Tot.pure (hskip _ (Nat.le_refl _) λ x _ _ q hmk _ _ _=>?_))
   unfold Mk at hmk
   rw [hb] at hmk;cases hmk
  | true=>
   have hRr:=EM (t:=t) (k:=(r:Int)) (by omega) (by omega)
   refine Tot.iteT (by rw [hgr];rfl) (Tot.bindC (CP hq) (Tot.bindA (λ n=>Nd hT.tab.short n _ r) (Tot.bindC hRr ?_)))
   cases hst:(Ap t (Ae t)[k] r).2 with
   | false=>
    refine Tot.gF rfl (Tot.gF rfl (Tot.gF rfl (Tot.gF rfl (Tot.gF rfl (Tot.iteF rfl (hJ _ _ (hskip _ (by omega) λ x h1 h2 q _ hq' hs' _=>?_)))))))
    rw [hq] at hq';cases hq'
    have:x=r:=by omega
    subst this
    rw [hst] at hs';cases hs'
   | true=>
    obtain ⟨p1,p2,p3⟩:=hT.pr hst
    have hpl:(prt t r).length=(BA t r).Print.length:=rfl
    refine Tot.gE rfl (Ev.all λ n=>hRr) (Tot.gE rfl (Ev.all λ n=>Sv hi (by omega) (by omega) n) ?_)
    simp only [Bool.true_and]
    cases hpf:(BA t r).Print.isPrefixOf (s.drop i) with
    | false=>
     refine Tot.gF rfl (Tot.gF rfl (Tot.gF rfl (Tot.iteF rfl (hJ _ _ (hskip _ (by omega) λ x h1 h2 q _ hq' _ hb'=>?_)))))
     have:x=r:=by omega
     subst this
     rw [hpf] at hb';cases hb'
    | true=>
     obtain ⟨q1,q2⟩:=Cs hpf
     have q2:=q2 hi
     have e:Az .i64 (i:Int) ((List.length (BA t r).Print:Nat):Int)=((i+(prt t r).length:Nat):Int):=by rw [Hu (by omega) (by omega)];omega
     rw [e]
     have hto:i+(prt t r).length<m.length:=by rw [hA.len];omega
     have hrow2:=hA.rows _ q2
     have hrow3:(m.getD (i+(prt t r).length) []).length=(Ae t).length:=hrow2
     obtain ⟨d,hd,hdg⟩:=Ca (Ep hT hqm hst)
     have hdl:=Aj hdg
     refine Tot.gE rfl (Ev.all λ n=>AX [] hto) (Tot.gE rfl (IW (by omega)) ?_)
     rw [hd]
     refine Tot.gE rfl (Ev.all λ n=>AX false (by rw [Ji9];omega)) ?_
     simp only [Ji9,DC]
     obtain ⟨b2,hb2⟩:∃ b,(m.getD (i+(prt t r).length) [])[d]? = some b:=⟨_,JiZ (by omega)⟩
     have hbd2:(m.getD (i+(prt t r).length) []).getD d false=b2:=by rw [Ji8 (l:=m.getD (i+(prt t r).length) []),hb2];rfl
     rw [hbd2]
     cases b2 with
     | true=>
      refine Tot.iteF rfl (hJ _ _ (hskip _ (by omega) λ x h1 h2 q _ hq' _ _=>?_))
      have:x=r:=by omega
      subst this
      rw [hq] at hq';cases hq'
      exact ⟨d,hdg,hb2⟩
     | false=>
      refine Tot.iteT rfl (Tot.bindC (AX [] hto) (Tot.bindE (IW (by omega)) ?_))
      rw [hd]
      refine Tot.bindC (AX false (by omega)) (Tot.bindC (JR (by omega)) (hJ _ _ ?_))
      have hmk:∀ {i' j':Nat},Mk (m.set (i+(prt t r).length) ((m.getD (i+(prt t r).length) []).set d true)) i' j'↔(i+(prt t r).length=i'/\d=j')\/Mk m i' j':=Mk.set hto (by omega)
      refine ⟨⟨by rw [Jjh];exact hA.len,λ i' h=>?_,λ i' j h hm=>?_,hmk.2 (.inr hA.first),λ i' h j x q hm hq' hs' hb'=>?_⟩,(λ h=>by cases h),λ _=>?_⟩
      ·by_cases e2:i+(prt t r).length=i'
       ·subst e2;rw [CQ hto,Jjh];exact hrow2
       ·rw [CG e2];exact hA.rows i' h
      ·rcases hmk.1 hm with ⟨rfl,rfl⟩|hm
       ·obtain ⟨q,g1,g2⟩:=hA.sound i k hi hb
        rw [hq] at g1;cases g1
        exact ⟨_,hdg,g2.next hst hpf⟩
       ·exact hA.sound i' j h hm
      ·rcases hmk.1 hm with ⟨h1,_⟩|hm
       ·omega
       ·obtain ⟨j',g1,g2⟩:=hA.done i' h j x q hm hq' hs' hb'
        exact ⟨j',g1,hmk.2 (.inr g2)⟩
      ·have:=JbB (l:=m) (i:=i+(prt t r).length) (j:=d) (r:=m.getD (i+(prt t r).length) []) (by rw [Ji8,JiZ hto];rfl) hb2
       cases hch:ch with
       | false=>rw [(hP.same hch).1] at this ⊢;omega
       | true=>have:=hP.less hch;omega
 ·rintro ⟨m,ch,r'⟩ ⟨e1,hP⟩
  simp only at e1 hP
  subst e1
  unfold Dg
  simp only [Ji9,DC]
  exact Tot.gF (So _) (Tot.gF (So _) (Tot.iteF (by rw [So];rfl) (Tot.pure hP)))
theorem Jc2 {i:Nat} (hi:i<=s.length) {m0:List (List Bool)} (x0:Int) (h1:Rea t s i m0) :
  Tot (λ n=>whl (λ (x:((List (List Bool))×Bool×Int))=>Dh n t s (Ae t) x0 (i:Int) x.1 x.2.1 x.2.2) n (m0,false,0)) (λ y=>Np t s i m0 y.1 y.2 (Ae t).length 0):=by
 have hlen:=Io hT
 refine Tot.upto (body:=λ n x=>Dh n t s (Ae t) x0 (i:Int) x.1 x.2.1 x.2.2) (Ae t).length (λ k x=>x.2.2=(k:Int)/\Np t s i m0 x.1 x.2.1 k 0) ?_ ?_ _ ⟨rfl,h1,λ _=>⟨rfl,λ j m h=>by omega⟩,λ h=>by cases h⟩
 ·rintro k ⟨out,ch,k'⟩ hk ⟨e1,hP⟩
  simp only at e1 hP
  subst e1
  unfold Dh
  refine Tot.iteT (Fp hk) (Tot.bind (Jc1 hT hs hi hk x0 hP) ?_)
  rintro ⟨out',ch'⟩ hP'
  exact Tot.pure ⟨Cy (by omega),hP'.rea,λ hc=>⟨(hP'.same hc).1,λ j m hjm hm=>(hP'.same hc).2 j m (by omega) hm⟩,hP'.less⟩
 ·rintro ⟨out,ch,k'⟩ ⟨e1,hP⟩
  simp only at e1 hP
  subst e1
  unfold Dh
  exact Tot.iteF (by simp) (Tot.pure hP)
theorem Jc3 {i:Nat} (hi:i<=s.length) {m0:List (List Bool)} (x0:Int) (h1:Rea t s i m0) :
  Tot (λ n=>whl (λ (x:((List (List Bool))×Bool))=>Ea n t s (Ae t) x0 (i:Int) x.1 x.2) n (m0,true)) (Rea t s (i+1)):=by
 refine Tot.whl (body:=λ n x=>Ea n t s (Ae t) x0 (i:Int) x.1 x.2) (λ c x=>Rea t s i x.1/\((x.2=true/\c=TR x.1+1)\/(x.2=false/\c=0/\Rea t s (i+1) x.1))) ?_ (TR m0+1) (m0,true) ⟨h1,.inl ⟨rfl,rfl⟩⟩
 rintro c ⟨m,ch⟩ ⟨hS,hm⟩
 simp only at hS hm
 unfold Ea
 rcases hm with ⟨rfl,rfl⟩|⟨rfl,rfl,hR⟩
 ·refine Tot.iteT rfl (Tot.bind (Jc2 hT hs hi x0 hS) ?_)
  rintro ⟨m',ch'⟩ hP
  simp only at hP
  cases ch' with
  | false=>
   obtain ⟨e,hrel⟩:=hP.same rfl
   subst e
   refine Tot.pure ⟨0,by omega,hS,.inr ⟨rfl,rfl,hS.len,hS.rows,hS.sound,hS.first,λ i' hi' j k q hmk hq hst hpf=>?_⟩⟩
   by_cases e:i'=i
   ·subst e
    exact hrel j k (.inl (Aj hq)) (by have:=Ch hst;omega) q hmk hq hst hpf
   ·exact hS.done i' (by omega) j k q hmk hq hst hpf
  | true=>
   have:=hP.less rfl
   exact Tot.pure ⟨TR m'+1,by omega,hP.rea,.inl ⟨rfl,rfl⟩⟩
 ·exact Tot.iteF rfl (Tot.pure hR)
omit hs in
theorem Rea.all {i:Nat} {m:List (List Bool)} (h:Rea t s (i+1) m) {j:Nat} {q:Aa} (hq:(Ae t)[j]? = some q):Rch t s i q↔i<=s.length/\Mk m i j:=by
 constructor
 ·intro hr
  refine ⟨hr.1,?_⟩
  have key:∀ {i' q},Rch t s i' q->i'<=i->∃ j,(Ae t)[j]? = some q/\Mk m i' j:=λ {i' q} hr=>Rch.ind (A:=λ i' q=>i'<=i->∃ j,(Ae t)[j]? = some q/\Mk m i' j) (λ _=>⟨0,(B9 hT.tab).1.first,h.first⟩) (λ i' q k hi' hA hst hpf hle=>by
   obtain ⟨j,h1,h2⟩:=hA (by omega)
   exact h.done i' (by omega) j k q h2 h1 hst hpf) hr
  obtain ⟨j',h1,h2⟩:=key hr (Nat.le_refl _)
  rwa [Lf (Pi hT) hq h1]
 ·rintro ⟨h1,h2⟩
  obtain ⟨q',g1,g2⟩:=h.sound i j h1 h2
  rw [hq] at g1;cases g1
  exact g2
theorem Jc4 {i:Nat} (hi:i<=s.length) {m:List (List Bool)} (h:Rea t s (i+1) m) {v0:Int} (h0:GA t s i v0) :
  Tot (λ n=>whl (λ (x:((List (List Bool))×Int×Int))=>Di n t s (Ae t) (i:Int) (Dl s i) x.1 x.2.1 x.2.2) n (m,v0,0)) (λ y=>y.1=m/\GA t s (i+1) y.2):=by
 have _:=hs
 have hlen:=Io hT
 refine Tot.upto (body:=λ n x=>Di n t s (Ae t) (i:Int) (Dl s i) x.1 x.2.1 x.2.2) (Ae t).length (λ k x=>x.2.2=(k:Int)/\x.1=m/\(GA t s (i+1) x.2.1/\No t s i\/(x.2.1=v0/\∀ j q,j<k->(Ae t)[j]? = some q->¬(Rch t s i q/\Gf q.Need (Dl s i)=true)))) ?_ ?_ _ ⟨rfl,rfl,.inr ⟨rfl,λ j q h=>by omega⟩⟩
 ·rintro k ⟨m',v,k'⟩ hk ⟨e1,e2,hv⟩
  simp only at e1 e2 hv
  subst e1 e2
  have hq:(Ae t)[k]? = some (Ae t)[k]:=JiZ hk
  have hil:i<m'.length:=by rw [h.len];omega
  have hrow:=h.rows i hi
  obtain ⟨b,hb⟩:∃ b,(m'.getD i [])[k]? = some b:=⟨_,JiZ (by omega)⟩
  have hbd:(m'.getD i []).getD k false=b:=by rw [Ji8 (l:=m'.getD i []),hb];rfl
  have hJ:∀ v',(GA t s (i+1) v'/\No t s i\/(v'=v0/\∀ j q,j<k+1->(Ae t)[j]? = some q->¬(Rch t s i q/\Gf q.Need (Dl s i)=true)))->Tot (λ n=>Eb n (k:Int) m' v') (Rd2 (λ x:List (List Bool)×Int×Int=>x.2.2=((k+1:Nat):Int)/\x.1=m'/\(GA t s (i+1) x.2.1/\No t s i\/(x.2.1=v0/\∀ j q,j<k+1->(Ae t)[j]? = some q->¬(Rch t s i q/\Gf q.Need (Dl s i)=true)))) (λ y=>y.1=m'/\GA t s (i+1) y.2)):=by
   intro v' hh
   unfold Eb
   exact Tot.pure ⟨Cy (by omega),rfl,hh⟩
  have hno:¬(Rch t s i (Ae t)[k]/\Gf (Ae t)[k].Need (Dl s i)=true)->(GA t s (i+1) v/\No t s i\/(v=v0/\∀ j q,j<k+1->(Ae t)[j]? = some q->¬(Rch t s i q/\Gf q.Need (Dl s i)=true))):=by
   intro hn
   refine hv.imp id λ ⟨g1,g2⟩=>⟨g1,λ j q hj hjq=>?_⟩
   by_cases e:j=k
   ·subst e;rw [hq] at hjq;cases hjq;exact hn
   ·exact g2 j q (by omega) hjq
  unfold Di
  simp only [Ji9]
  refine Tot.iteT (Fp hk) (Tot.bindC (AX [] hil) (Tot.bindC (AX false (by omega)) ?_))
  rw [hbd]
  simp only [DC]
  cases b with
  | false=>
   refine Tot.gF rfl (Tot.gF rfl (Tot.iteF rfl (hJ v (hno λ hh=>?_))))
   have:=((Rea.all hT h hq).1 hh.1).2
   unfold Mk at this
   rw [hb] at this;cases this
  | true=>
   refine Tot.gE rfl (Ev.all λ n=>CP hq) (Tot.gE rfl (Ev.all λ n=>Ws n _ _) (Tot.ite (λ hc=>?_) λ hc=>?_))
   ·have hst:No t s i:=⟨_,(Rea.all hT h hq).2 ⟨hi,hb⟩,by simpa using hc⟩
    exact hJ _ (.inl ⟨.stop hst,hst⟩)
   ·exact hJ v (hno λ hh=>by rw [hh.2] at hc;cases hc)
 ·rintro ⟨m',v,k'⟩ ⟨e1,e2,hv⟩
  simp only at e1 e2 hv
  subst e1 e2
  unfold Di
  refine Tot.iteF (by simp) (Tot.pure ⟨rfl,?_⟩)
  rcases hv with hv|⟨rfl,hv⟩
  ·exact hv.1
  ·refine h0.skip ?_
   rintro ⟨q,h1,h2⟩
   have hmem:q∈Ae t:=by
    obtain ⟨j,hj,_⟩:=Rch.ind (A:=λ _ q=>∃ j,(Ae t)[j]? = some q/\True) ⟨0,(B9 hT.tab).1.first,trivial⟩ (λ i' q k _ hA hst _=>by
     obtain ⟨j,hj,_⟩:=hA
     obtain ⟨d,_,hd⟩:=Ca (Ep hT (Ji1 hj) hst)
     exact ⟨d,hd,trivial⟩) h1
    exact Ji1 hj
   obtain ⟨j,hj,e⟩:=List.getElem_of_mem hmem
   exact hv j q hj (by rw [← e];exact JiZ hj) ⟨h1,h2⟩
theorem WD:Tot (λ n=>HS n t s) (KY t s):=by
 have hlen:=Io hT
 have hf:=(B9 hT.tab).1.first
 have hpos:=Aj hf
 unfold HS
 have e1:Az .i64 ((s.length:Nat):Int) 1=((s.length+1:Nat):Int):=Cy (by omega)
 refine Tot.bindE (KU hT.tab) ?_
 rw [e1]
 refine Tot.bindC (OP (by omega) (by omega)) ?_
 rw [Ji9]
 refine Tot.bind (R:=λ m=>m.length=s.length+1/\∀ i,i<=s.length->m.getD i []=List.replicate (Ae t).length false) ?_ ?_
 ·refine Tot.upto (body:=λ n x=>D8 n t s (Ae t) x.1 x.2) (s.length+1) (λ k x=>x.2=(k:Int)/\x.1.length=s.length+1/\∀ i,i<k->x.1.getD i []=List.replicate (Ae t).length false) ?_ ?_ _ ⟨rfl,by simp,by omega⟩
  ·rintro k ⟨m,k'⟩ hk ⟨g1,g2,g3⟩
   simp only at g1 g2 g3
   subst g1
   unfold D8
   refine Tot.iteT (by simp;omega) (Tot.bindC (AX [] (show k<m.length by omega)) (Tot.bindC (OP (by omega) (by omega)) ?_))
   rw [Ji9,Ji9]
   refine Tot.pure ⟨Cy (by omega),by rw [Jjh];exact g2,λ i hi=>?_⟩
   by_cases e:k=i
   ·subst e;exact CQ (show k<m.length by omega) _ _
   ·show (m.set k _).getD i []=_
    rw [CG e];exact g3 i (by omega)
  ·rintro ⟨m,k'⟩ ⟨g1,g2,g3⟩
   simp only at g1 g2 g3
   subst g1
   unfold D8
   exact Tot.iteF (by simp;omega) (Tot.pure ⟨g2,λ i hi=>g3 i (by omega)⟩)
 ·rintro m ⟨g2,g3⟩
  have g0:=g3 0 (by omega)
  have h0l:(m.getD 0 []).length=(Ae t).length:=by rw [g0,List.length_replicate]
  refine Tot.bindC (AX (i:=0) [] (by omega)) (Tot.bindC (AX (i:=0) false (by omega)) (Tot.bindC (JR (i:=0) (by omega)) ?_))
  have hmk:∀ {i' j':Nat},Mk (m.set 0 ((m.getD 0 []).set 0 true)) i' j'↔(0=i'/\0=j')\/Mk m i' j':=Mk.set (by omega) (by omega)
  have hnm:∀ i j,i<=s.length->¬Mk m i j:=by
   intro i j hi hm
   unfold Mk at hm
   rw [g3 i hi,List.getElem?_replicate] at hm
   split at hm<;>cases hm
  have hR:Rea t s 0 (m.set 0 ((m.getD 0 []).set 0 true)):=by
   refine ⟨by rw [Jjh];exact g2,λ i hi=>?_,λ i j hi hm=>?_,hmk.2 (.inl ⟨rfl,rfl⟩),λ i' h=>by omega⟩
   ·by_cases e:0=i
    ·subst e;rw [CQ (by omega),Jjh];exact h0l
    ·rw [CG e,g3 i hi,List.length_replicate]
   ·rcases hmk.1 hm with ⟨rfl,rfl⟩|hm
    ·exact ⟨_,hf,.start t s⟩
    ·exact absurd hm (hnm i j hi)
  refine Tot.bind (R:=KY t s) ?_ (λ v hv=>Tot.pure hv)
  refine Tot.upto (body:=λ n x=>Ed n t s (Ae t) x.1 x.2.1 x.2.2) (s.length+1) (λ i x=>x.2.2=(i:Int)/\Rea t s i x.1/\GA t s i x.2.1) ?_ ?_ _ ⟨rfl,hR,⟨0,rfl,.inl rfl⟩,by omega⟩
  ·rintro i ⟨m',v,i'⟩ hi ⟨k1,k2,k3⟩
   simp only at k1 k2 k3
   subst k1
   unfold Ed
   refine Tot.iteT (by simp;omega) (Tot.bind (Jc3 hT hs (show i<=s.length by omega) v k2) ?_)
   intro m2 hm2
   have hJ:∀ c,c=Dl s i->Tot (λ n=>Ec n t s (Ae t) v (i:Int) m2 c) (Rd2 (λ x:List (List Bool)×Int×Int=>x.2.2=((i+1:Nat):Int)/\Rea t s (i+1) x.1/\GA t s (i+1) x.2.1) (KY t s)):=by
    rintro c rfl
    unfold Ec
    refine Tot.bind (Jc4 hT hs (show i<=s.length by omega) hm2 k3) ?_
    rintro ⟨m3,v3⟩ ⟨rfl,hv3⟩
    exact Tot.pure ⟨Cy (by omega),hm2,hv3⟩
   refine Tot.ite (λ h=>?_) λ h=>?_
   ·have hlt:i<s.length:=by simpa using h
    refine Tot.bindC (JN hlt) (Tot.bindA (λ n=>Sn n _) (hJ _ ?_))
    unfold Dl;rw [if_pos hlt]
   ·have hlt:¬i<s.length:=by simpa using h
    refine hJ 0 ?_
    unfold Dl;rw [if_neg hlt]
  ·rintro ⟨m',v,i'⟩ ⟨k1,k2,k3⟩
   simp only at k1 k2 k3
   subst k1
   unfold Ed
   exact Tot.iteF (by simp;omega) (Tot.pure k3.all)
end
end Go.AI
end
section
namespace Go.AI
def I1 (t:Ac) (q:Aa) (k:Nat):Option Fu:=if (Ap t q k).2=true then some ⟨k,BU (Ae t) (Ap t q k).1⟩ else none
def A4 (t:Ac) (q:Aa):List Fu:=(List.range t.Rules.length).filterMap (I1 t q)
theorem Hx {t:Ac} {q:Aa} {a:Fu}:a∈A4 t q↔∃ k:Nat,k<t.Rules.length/\(Ap t q k).2=true/\a=⟨k,BU (Ae t) (Ap t q k).1⟩:=by
 unfold A4
 rw [List.mem_filterMap]
 constructor
 ·rintro ⟨k,hk,h⟩
  unfold I1 at h
  split at h
  ·rename_i hs;cases h;exact ⟨k,List.mem_range.1 hk,hs,rfl⟩
  ·cases h
 ·rintro ⟨k,hk,hs,rfl⟩
  exact ⟨k,List.mem_range.2 hk,by unfold I1;rw [if_pos hs]⟩
structure OU (t:Ac) (s:List UInt8) (w:Ad):Prop where
 tt:w.T=t
 ss:w.S=s
 st:w.States=Ae t
 al:w.Arcs.length=(Ae t).length
 arc:∀ (j:Nat) q,(Ae t)[j]? = some q->w.Arcs[j]? = some (A4 t q)
section
variable {t:Ac} (hT:JT t) {s:List UInt8} (hs:s.length<=4000)
include hT hs
theorem Jc5 (x:List Aw):Tot (λ n=>whl (λ (x_1:((List (Aa×Int))×Int))=>BV n t s (Ae t) x x_1.1 x_1.2) n ([],0)) (Ia (Ae t)):=by
 have _:=hs
 have hlen:=Io hT
 refine Tot.upto (body:=λ n y=>BV n t s (Ae t) x y.1 y.2) (Ae t).length (λ k y=>y.2=(k:Int)/\Ia ((Ae t).take k) y.1) ?_ ?_ _ ⟨rfl,λ q=>rfl⟩
 ·rintro k ⟨nb,k'⟩ hk ⟨e1,hN⟩
  simp only at e1 hN
  subst e1
  unfold BV
  refine Tot.iteT (Fp hk) (Tot.bindC (KT hk) (Tot.pure ⟨Cy (by omega),?_⟩))
  have hn:=Pi hT
  have e:(Ae t).take (k+1)=(Ae t).take k++[(Ae t)[k]]:=by rw [List.take_add_one,JiZ hk];rfl
  have hnd:((Ae t).take (k+1)).Nodup:=(List.take_sublist _ _).nodup hn
  rw [e] at hnd
  have hp:(Ae t)[k] ∉ (Ae t).take k:=by
   intro hm
   exact (List.nodup_append.1 hnd).2.2 _ hm _ (by simp) rfl
  have:=Ia.snoc hN ((List.take_sublist _ _).nodup hn) hp
  rw [← e,List.length_take,Nat.min_eq_left (by omega)] at this
  exact this
 ·rintro ⟨nb,k'⟩ ⟨e1,hN⟩
  simp only at e1 hN
  subst e1
  rw [List.take_length] at hN
  unfold BV
  exact Tot.iteF (by simp) (Tot.pure hN)
omit hs in
theorem Jc6 {nb:List (Aa×Int)} (hN:Ia (Ae t) nb) {q:Aa} (hq:q∈Ae t):Option.getD (F9 q nb) 0=BU (Ae t) q:=by
 obtain ⟨j,hj,hg⟩:=Ca hq
 rw [hN q,CE (Pi hT) hg,hj];rfl
omit hs in
theorem Jc7 {nb:List (Aa×Int)} (hN:Ia (Ae t) nb) {j:Nat} {q:Aa} (hq:(Ae t)[j]? = some q) (w0:Ad) (hl:w0.Arcs.length=(Ae t).length) (h0:w0.Arcs[j]? = some []) :
  Tot (λ n=>whl (λ (x:(Ad×Int))=>BW n t (Ae t) nb (j:Int) q x.1 x.2) n (w0,0)) (λ w=>w={ w0 with Arcs:=w0.Arcs.set j (A4 t q) }):=by
 have hrl:=hT.tab.1
 have hjl:=Aj hq
 refine Tot.upto (body:=λ n x=>BW n t (Ae t) nb (j:Int) q x.1 x.2) t.Rules.length (λ k x=>x.2=(k:Int)/\x.1={ w0 with Arcs:=w0.Arcs.set j ((List.range k).filterMap (I1 t q)) }/\((List.range k).filterMap (I1 t q)).length<=k) ?_ ?_ _ ⟨rfl,?_,by simp⟩
 ·rintro k ⟨w,k'⟩ hk ⟨e1,e2,e3⟩
  simp only at e1 e2 e3
  subst e1
  have hJ:∀ w',w'={ w0 with Arcs:=w0.Arcs.set j ((List.range (k+1)).filterMap (I1 t q)) }->Tot (λ n=>Cj n (k:Int) w') (Rd2 (λ x:Ad×Int=>x.2=((k+1:Nat):Int)/\x.1={ w0 with Arcs:=w0.Arcs.set j ((List.range (k+1)).filterMap (I1 t q)) }/\((List.range (k+1)).filterMap (I1 t q)).length<=k+1) (λ w=>w={ w0 with Arcs:=w0.Arcs.set j (A4 t q) })):=by
   intro w' hw
   unfold Cj
   refine Tot.pure ⟨Cy (by omega),hw,?_⟩
   exact Nat.le_trans (List.length_filterMap_le _ _) (by simp)
  unfold BW
  refine Tot.iteT (Fp hk) (Tot.bindA (λ n=>Pt hT.tab.short n q k) (Tot.ite (λ h=>?_) λ h=>?_))
  ·subst e2
   refine Tot.bindC (AX [] (by rw [Jjh];omega)) ?_
   rw [CQ (by omega)]
   refine Tot.bindC (Il (by simp;omega)) (hJ _ ?_)
   rw [Jc6 hT hN (Ep hT (Ji1 hq) h)]
   simp only [Ji9,List.set_set,List.range_succ,List.filterMap_append]
   have:(List.filterMap (I1 t q) [k])=[⟨k,BU (Ae t) (Ap t q k).1⟩]:=by
    simp only [List.filterMap_cons,I1,h,if_true,List.filterMap_nil]
   rw [this]
  ·refine hJ _ ?_
   rw [e2]
   simp only [List.range_succ,List.filterMap_append]
   have:(List.filterMap (I1 t q) [k])=[]:=by
    simp only [List.filterMap_cons,I1,h,Jjc,if_false,List.filterMap_nil]
   rw [this,List.append_nil]
 ·rintro ⟨w,k'⟩ ⟨e1,e2,e3⟩
  simp only at e1 e2
  subst e1
  unfold BW
  exact Tot.iteF (by simp) (Tot.pure e2)
 ·show w0={ w0 with Arcs:=w0.Arcs.set j [] }
  have:w0.Arcs.set j []=w0.Arcs:=by
   have:=DC w0.Arcs j []
   rwa [Ji8,h0] at this
  rw [this]
theorem JgK:Tot (λ n=>DH n t s) (λ w=>OU t s w/\w.Columns=List.replicate (s.length+1) ⟨[],[]⟩/\w.Last=0):=by
 have hlen:=Io hT
 unfold DH
 have e1:Az .i64 ((s.length:Nat):Int) 1=((s.length+1:Nat):Int):=Cy (by omega)
 refine Tot.bindE (Ww hT.tab) ?_
 rw [e1]
 refine Tot.bindC (OP (by omega) (by omega)) (Tot.bind (Jc5 hT hs _) ?_)
 intro nb hN
 refine Tot.bindC (OP (by omega) (by omega)) ?_
 simp only [Ji9]
 refine Tot.bind (R:=λ w=>OU t s w/\w.Columns=List.replicate (s.length+1) ⟨[],[]⟩/\w.Last=0) ?_ (λ w h=>Tot.pure h)
 refine Tot.upto (body:=λ n x=>Ck n t (Ae t) nb x.1 x.2) (Ae t).length (λ k x=>x.2=(k:Int)/\∃ A,x.1=({ T:=t,S:=s,States:=Ae t,Arcs:=A,Columns:=List.replicate (s.length+1) ⟨[],[]⟩,Last:=0 }:Ad)/\A.length=(Ae t).length/\(∀ (j:Nat) q,j<k->(Ae t)[j]? = some q->A[j]? = some (A4 t q))/\∀ j,k<=j->j<(Ae t).length->A[j]? = some []) ?_ ?_ _ ⟨rfl,_,rfl,by simp,by omega,λ j _ h=>by rw [List.getElem?_replicate,if_pos h]⟩
 ·rintro k ⟨w,k'⟩ hk ⟨e1,A,e2,a1,a2,a3⟩
  simp only at e1 e2
  subst e1 e2
  have hq:(Ae t)[k]? = some (Ae t)[k]:=JiZ hk
  unfold Ck
  refine Tot.iteT (Fp hk) (Tot.bindC (CP hq) (Tot.bind (Jc7 hT hN hq _ a1 (a3 k (Nat.le_refl _) hk)) ?_))
  rintro w' rfl
  refine Tot.pure ⟨Cy (by omega),_,rfl,by rw [Jjh];exact a1,λ j q hj hjq=>?_,λ j h1 h2=>?_⟩
  ·by_cases e:k=j
   ·subst e
    rw [hq] at hjq;cases hjq
    exact Jjb (show k<A.length by omega)
   ·rw [Jjg e];exact a2 j q (by omega) hjq
  ·rw [Jjg (by omega)];exact a3 j (by omega) h2
 ·rintro ⟨w,k'⟩ ⟨e1,A,e2,a1,a2,a3⟩
  simp only at e1 e2
  subst e1 e2
  unfold Ck
  exact Tot.iteF (by simp) (Tot.pure ⟨⟨rfl,rfl,rfl,a1,λ j q hq=>a2 j q (Aj hq) hq⟩,rfl,rfl⟩)
theorem Oc {w:Ad} (hw:OU t s w) {i:Nat} (hi:i<=s.length) {q:Aa} {k:Nat} (hk:(Ap t q k).2=true) (n:Nat) :
  Bv n (i:Int) (k:Int) w=some (((i+(prt t k).length:Nat):Int),(prt t k).isPrefixOf (s.drop i)):=by
 have h:=Ch hk
 obtain ⟨p1,p2,p3⟩:=hT.pr hk
 have hpl:(prt t k).length=(BA t k).Print.length:=rfl
 unfold Bv EE ED
 rw [hw.tt,hw.ss,EM h.1 h.2,Option.bind_some,Jbf (by omega) (by omega) (by omega),Option.bind_some]
 simp only [Ji9,List.take_length]
 have e1:Az .i64 (i:Int) ((List.length (BA t k).Print:Nat):Int)=((i+(prt t k).length:Nat):Int):=by rw [Hu (by omega) (by omega)];omega
 rw [e1]
 by_cases hle:(prt t k).length<=(s.drop i).length
 ·have hd:decide (((List.length (s.drop i):Nat):Int)>=((List.length (BA t k).Print:Nat):Int))=true:=by simp only [ge_iff_le,decide_eq_true_eq];omega
  rw [if_pos hd,TI (by omega),Option.bind_some,hd,Bool.true_and,Option.bind_some,Option.bind_some]
  congr 2
  rw [Bool.eq_iff_iff,beq_iff_eq,List.isPrefixOf_iff_prefix]
  constructor
  ·intro h2
   have:=List.take_prefix (BA t k).Print.length (s.drop i)
   rw [h2] at this;exact this
  ·intro h2;exact (List.prefix_iff_eq_take.1 h2).symm
 ·have hd:decide (((List.length (s.drop i):Nat):Int)>=((List.length (BA t k).Print:Nat):Int))=false:=by simp only [ge_iff_le,decide_eq_false_iff_not];omega
  rw [if_neg (by rw [hd];simp),Option.bind_some,hd,Bool.false_and,Option.bind_some,Option.bind_some]
  congr 2
  rw [eq_comm,← Bool.not_eq_true,List.isPrefixOf_iff_prefix]
  intro hp'
  exact hle hp'.length_le
end
end Go.AI
end
section
namespace Go.AI
def A2 (w:Ad) (p:Nat):List Int:=(w.Columns.getD p default).States
def InC (w:Ad) (p:Nat) (v:Int):Prop:=v∈A2 w p
structure Kn (t:Ac) (s:List UInt8) (place:Nat) (w:Ad) (kn:List (List Bool)):Prop where
 base:OU t s w
 clen:w.Columns.length=s.length+1
 cost:∀ p,(w.Columns.getD p default).Costs=[]
 klen:kn.length=5
 rows:∀ c,c<5->(kn.getD c []).length=(Ae t).length
 nod:∀ p,(A2 w p).Nodup
 ok:∀ p v,InC w p v->∃ (j:Nat) (q:Aa),v=(j:Int)/\(Ae t)[j]? = some q/\Rch t s p q
 row:∀ p,place<=p->p<place+5->∀ j:Nat,(kn.getD (p % 5) [])[j]? = some true↔InC w p (j:Int)
 far:∀ p,place+5<=p->A2 w p=[]
structure Hy (w w':Ad):Prop where
 last:w'.Last=w.Last
 pre:∀ p,A2 w p <+: A2 w' p
theorem Hy.refl (w:Ad):Hy w w:=⟨rfl,λ _=>List.prefix_rfl⟩
theorem Hy.trans {w w' w'':Ad} (h:Hy w w') (h':Hy w' w''):Hy w w'':=⟨h'.last.trans h.last,λ p=>(h.pre p).trans (h'.pre p)⟩
theorem Hy.inc {w w':Ad} (h:Hy w w') {p:Nat} {v:Int} (hv:InC w p v):InC w' p v:=(h.pre p).subset hv
theorem Rh {w:Ad} {p:Nat} (hp:p<w.Columns.length) (c:Aw) (p':Nat) (a b d:Int) (x:List Av):((w.Columns.set p c).getD p' default)=if p=p' then c else w.Columns.getD p' default:=by
 split
 ·rename_i e;subst e;exact CQ hp _ _
 ·rename_i e;exact CG e _ _
section
variable {t:Ac} (hT:JT t) {s:List UInt8} (hs:s.length<=4000)
include hT hs
omit hs in
theorem Kn.len {place:Nat} {w:Ad} {kn:List (List Bool)} (h:Kn t s place w kn) (p:Nat):(A2 w p).length<=(Ae t).length:=by
 have _:=hT
 have hsub:∀ v∈A2 w p,v∈(List.range (Ae t).length).map (λ j:Nat=>(j:Int)):=by
  intro v hv
  obtain ⟨j,q,rfl,hq,_⟩:=h.ok p v hv
  exact List.mem_map.2 ⟨j,List.mem_range.2 (Aj hq),rfl⟩
 have:=(h.nod p).length_le_of_subset hsub
 simpa using this
omit hs in
theorem JbC {place:Nat} {w:Ad} {kn:List (List Bool)} (h:Kn t s place w kn) {p:Nat} (h1:place<=p) (h2:p<place+5) (hp:p<=s.length) {j:Nat} {q:Aa} (hq:(Ae t)[j]? = some q) (hr:Rch t s p q) :
  Tot (λ n=>BS n (p:Int) (j:Int) w kn) (λ y=>Kn t s place y.1 y.2/\Hy w y.1/\InC y.1 p (j:Int)):=by
 have hlen:=Io hT
 have hc5:p % 5<5:=Nat.mod_lt _ (by omega)
 have hjl:=Aj hq
 have hrl:=h.rows _ hc5
 obtain ⟨b,hb⟩:∃ b,(kn.getD (p % 5) [])[j]? = some b:=⟨_,JiZ (by omega)⟩
 have hbd:(kn.getD (p % 5) []).getD j false=b:=by rw [Ji8 (l:=kn.getD (p % 5) []),hb];rfl
 have e5:Br (p:Int) 5=((p % 5:Nat):Int):=by
  have:=(N9 (a:=(p:Int)) (m:=5) (by omega) (by omega)).1
  rw [this];omega
 unfold BS
 rw [e5]
 simp only [Ji9]
 refine Tot.bindC (AX [] (by rw [h.klen];exact hc5)) (Tot.bindC (DL (by simp;omega)) (Tot.bindC (AX false (by omega)) ?_))
 rw [hbd]
 cases b with
 | true=>
  refine Tot.iteF rfl (Tot.pure ?_)
  rw [DC]
  exact ⟨h,.refl w,(h.row p h1 h2 j).1 hb⟩
 | false=>
  have hcl:p<w.Columns.length:=by rw [h.clen];omega
  have hnl:=h.len hT p
  refine Tot.iteT rfl (Tot.bindC (AX false (by omega)) (Tot.bindC (JR (by omega)) (Tot.bindC (AX default hcl) (Tot.bindC (Il (by show ((A2 w p).length+1)*8<=70368744177664;omega)) (Tot.pure ?_)))))
  have hni:¬InC w p (j:Int):=λ hin=>by have:=(h.row p h1 h2 j).2 hin;rw [hb] at this;cases this
  generalize hw':(⟨w.T,w.S,w.States,w.Arcs,w.Columns.set p ⟨(w.Columns.getD p default).States++[(j:Int)],(w.Columns.getD p default).Costs⟩,w.Last⟩:Ad)=w'
  have hcol:∀ p',w'.Columns.getD p' default=if p=p' then ⟨(w.Columns.getD p default).States++[(j:Int)],(w.Columns.getD p default).Costs⟩ else w.Columns.getD p' default:=by
   intro p'
   subst hw'
   exact Rh hcl _ p' 0 0 0 []
  have hcS:∀ p',A2 w' p'=if p=p' then A2 w p++[(j:Int)] else A2 w p':=by
   intro p'
   unfold A2
   rw [hcol]
   split<;>rfl
  have hin:∀ p' v,InC w' p' v↔InC w p' v\/(p=p'/\v=(j:Int)):=by
   intro p' v
   unfold InC
   rw [hcS]
   by_cases e:p=p'
   ·subst e;rw [if_pos rfl,List.mem_append,List.mem_singleton];simp
   ·rw [if_neg e];simp [e]
  have hkn:∀ c,(kn.set (p % 5) ((kn.getD (p % 5) []).set j true)).getD c []=if p % 5=c then (kn.getD (p % 5) []).set j true else kn.getD c []:=by
   intro c
   split
   ·rename_i e;subst e;exact CQ (by rw [h.klen];exact hc5) _ _
   ·rename_i e;exact CG e _ _
  refine ⟨⟨?_,?_,λ p'=>?_,by rw [Jjh];exact h.klen,λ c hc=>?_,λ p'=>?_,λ p' v hv=>?_,λ p' g1 g2 j'=>?_,λ p' g=>?_⟩,⟨?_,λ p'=>?_⟩,(hin _ _).2 (.inr ⟨rfl,rfl⟩)⟩
  ·subst hw';exact ⟨h.base.tt,h.base.ss,h.base.st,h.base.al,h.base.arc⟩
  ·subst hw';simp only [Jjh];exact h.clen
  ·rw [hcol]
   split
   ·exact h.cost p
   ·exact h.cost p'
  ·rw [hkn]
   split
   ·rw [Jjh];exact hrl
   ·exact h.rows c hc
  ·rw [hcS]
   split
   ·rw [List.nodup_append]
    exact ⟨h.nod p,by simp,λ a ha b hb e=>by simp at hb;subst hb;subst e;exact hni ha⟩
   ·exact h.nod p'
  ·rcases (hin p' v).1 hv with hv|⟨rfl,rfl⟩
   ·exact h.ok p' v hv
   ·exact ⟨j,q,rfl,hq,hr⟩
  ·rw [hkn,hin]
   by_cases e:p=p'
   ·subst e
    rw [if_pos rfl]
    by_cases e2:j=j'
    ·subst e2;rw [Jjb (by omega)];simp
    ·rw [Jjg e2,h.row p h1 h2 j']
     exact ⟨.inl,λ hh=>hh.resolve_right λ hh=>e2 (by have:=hh.2;omega)⟩
   ·rw [if_neg (by omega),h.row p' g1 g2 j']
    exact ⟨.inl,λ hh=>hh.resolve_right λ hh=>e hh.1⟩
  ·rw [hcS,if_neg (by omega)];exact h.far p' g
  ·subst hw';rfl
  ·rw [hcS]
   split
   ·rename_i e;subst e;exact List.prefix_append _ _
   ·exact List.prefix_rfl
def Clo (t:Ac) (s:List UInt8) (w:Ad) (p:Nat) (q:Aa):Prop:=∀ k:Nat,(Ap t q k).2=true->(prt t k).isPrefixOf (s.drop p)=true->∃ j:Nat,(Ae t)[j]? = some (Ap t q k).1/\InC w (p+(prt t k).length) (j:Int)
omit hT hs in
theorem Clo.ext {w w':Ad} {p:Nat} {q:Aa} (h:Clo t s w p q) (he:Hy w w'):Clo t s w' p q:=λ k h1 h2=>by
 obtain ⟨j,g1,g2⟩:=h k h1 h2
 exact ⟨j,g1,he.inc g2⟩
theorem Yv {place:Nat} (hpl:place<=s.length) {w:Ad} {kn:List (List Bool)} (h:Kn t s place w kn) {j:Nat} {q:Aa} (hq:(Ae t)[j]? = some q) (hr:Rch t s place q) (x0:Ad×List (List Bool)) (x1 x2:Int) :
  Tot (λ n=>whl (λ (x:(Ad×(List (List Bool))×Int))=>Bl n x0 (place:Int) x1 x2 (A4 t q) x.1 x.2.1 x.2.2) n (w,kn,0)) (λ y=>Kn t s place y.1 y.2/\Hy w y.1/\Clo t s y.1 place q):=by
 have hrl:=hT.tab.1
 have hal:(A4 t q).length<=t.Rules.length:=by unfold A4;exact Nat.le_trans (List.length_filterMap_le _ _) (by simp)
 refine Tot.upto (body:=λ n x=>Bl n x0 (place:Int) x1 x2 (A4 t q) x.1 x.2.1 x.2.2) (A4 t q).length (λ i x=>x.2.2=(i:Int)/\Kn t s place x.1 x.2.1/\Hy w x.1/\∀ (k:Nat) a,(∃ i',i'<i/\(A4 t q)[i']? = some a)->a.Rule=(k:Int)->(prt t k).isPrefixOf (s.drop place)=true->InC x.1 (place+(prt t k).length) a.To) ?_ ?_ _ ⟨rfl,h,.refl w,λ k a ⟨i',hi',_⟩=>by omega⟩
 ·rintro i ⟨w1,kn1,i'⟩ hi ⟨e1,hK,hE,hC⟩
  simp only at e1 hK hE hC
  subst e1
  have ha:(A4 t q)[i]? = some (A4 t q)[i]:=JiZ hi
  obtain ⟨k,hk,hst,hae⟩:=Hx.1 (List.getElem_mem hi)
  have hJ:∀ w2 kn2,Kn t s place w2 kn2->Hy w1 w2->((prt t k).isPrefixOf (s.drop place)=true->InC w2 (place+(prt t k).length) (BU (Ae t) (Ap t q k).1))->Tot (λ n=>BE n (i:Int) w2 kn2) (Rd2 (λ x:Ad×(List (List Bool))×Int=>x.2.2=((i+1:Nat):Int)/\Kn t s place x.1 x.2.1/\Hy w x.1/\∀ (k:Nat) a,(∃ i',i'<i+1/\(A4 t q)[i']? = some a)->a.Rule=(k:Int)->(prt t k).isPrefixOf (s.drop place)=true->InC x.1 (place+(prt t k).length) a.To) (λ y=>Kn t s place y.1 y.2/\Hy w y.1/\Clo t s y.1 place q)):=by
   intro w2 kn2 g1 g2 g3
   unfold BE
   refine Tot.pure ⟨Cy (by omega),g1,hE.trans g2,?_⟩
   rintro k' a ⟨i',hi',hia⟩ hak hpf
   by_cases e:i'=i
   ·subst e
    rw [ha,hae] at hia
    cases hia
    simp only at hak
    have:k=k':=by omega
    subst this
    exact g3 hpf
   ·exact g2.inc (hC k' a ⟨i',by omega,hia⟩ hak hpf)
  unfold Bl
  refine Tot.iteT (Fp hi) (Tot.bindC (CP ha) ?_)
  rw [hae]
  refine Tot.bindA (λ n=>Oc hT hs hK.base hpl hst n) (Tot.ite (λ hpf=>?_) λ hpf=>?_)
  ·obtain ⟨d,hd,hdg⟩:=Ca (Ep hT (Ji1 hq) hst)
   obtain ⟨p1,_,_⟩:=hT.pr hst
   have hle:=(Cs hpf).2 hpl
   simp only
   rw [hd]
   refine Tot.bind (JbC hT hK (p:=place+(prt t k).length) (by omega) (by omega) hle hdg (hr.next hst hpf)) ?_
   rintro ⟨w2,kn2⟩ ⟨g1,g2,g3⟩
   exact hJ w2 kn2 g1 g2 λ _=>by rw [hd];exact g3
  ·exact hJ w1 kn1 hK (.refl w1) λ hh=>by
    have:(prt t k).isPrefixOf (s.drop place)=false:=hpf
    rw [hh] at this;cases this
 ·rintro ⟨w1,kn1,i'⟩ ⟨e1,hK,hE,hC⟩
  simp only at e1 hK hE hC
  subst e1
  unfold Bl
  refine Tot.iteF (by simp) (Tot.pure ⟨hK,hE,λ k hst hpf=>?_⟩)
  obtain ⟨d,hd,hdg⟩:=Ca (Ep hT (Ji1 hq) hst)
  have hm:(⟨k,BU (Ae t) (Ap t q k).1⟩:Fu)∈A4 t q:=Hx.2 ⟨k,by have:=Ch hst;omega,hst,rfl⟩
  obtain ⟨i',hi',e⟩:=List.getElem_of_mem hm
  have:=hC k _ ⟨i',hi',by rw [JiZ hi',e]⟩ rfl hpf
  simp only [hd] at this
  exact ⟨d,hdg,this⟩
omit hT hs in
theorem JbD {m c:Int} (h:0<=c) (h':c<=5):((Cm .u8 (Qd .u8 m c) 1)==1)=Gf m c:=by
 unfold Gf
 rw [decide_eq_true h,decide_eq_true (show c<8 by omega)];rfl
omit hT hs in
theorem GB (w:Ad) (p:Nat) (d:Aw):(⟨w.T,w.S,w.States,w.Arcs,w.Columns.set p (w.Columns.getD p d),w.Last⟩:Ad)=w:=by rw [DC]
omit hT hs in
theorem Kn.last {place:Nat} {w:Ad} {kn:List (List Bool)} (h:Kn t s place w kn) (v:Int):Kn t s place { w with Last:=v } kn:=⟨⟨h.base.tt,h.base.ss,h.base.st,h.base.al,h.base.arc⟩,h.clen,h.cost,h.klen,h.rows,h.nod,h.ok,h.row,h.far⟩
structure R3 (t:Ac) (s:List UInt8) (place:Nat) (v0:Int) (w0 w:Ad) (kn:List (List Bool)) (i:Nat):Prop where
 kn:Kn t s place w kn
 pre:∀ p,A2 w0 p <+: A2 w p
 le:i<=(A2 w place).length
 clo:∀ i' v,i'<i->(A2 w place)[i']? = some v->∀ (j:Nat) q,v=(j:Int)->(Ae t)[j]? = some q->Clo t s w place q
 last:(w.Last=(place:Int)/\No t s place)\/(w.Last=v0/\∀ i' v,i'<i->(A2 w place)[i']? = some v->∀ (j:Nat) q,v=(j:Int)->(Ae t)[j]? = some q->Gf q.Need (Dl s place)=false)
theorem Yw {place:Nat} (hpl:place<=s.length) {w0:Ad} {kn:List (List Bool)} (h:Kn t s place w0 kn) (x0:Ad×List (List Bool)) :
  Tot (λ n=>whl (λ (x:(Ad×(List (List Bool))×Int))=>BG n x0 (place:Int) (Dl s place) x.1 x.2.1 x.2.2) n (w0,kn,0)) (λ y=>R3 t s place w0.Last w0 y.1 y.2 (A2 y.1 place).length):=by
 have hlen:=Io hT
 refine Tot.whl (body:=λ n x=>BG n x0 (place:Int) (Dl s place) x.1 x.2.1 x.2.2) (λ m x=>∃ i:Nat,m=1000-i/\x.2.2=(i:Int)/\R3 t s place w0.Last w0 x.1 x.2.1 i) ?_ 1000 _ ⟨0,rfl,rfl,h,λ _=>List.prefix_rfl,by omega,λ i' v h=>by omega,.inr ⟨rfl,λ i' v h=>by omega⟩⟩
 rintro m ⟨w,kn,i'⟩ ⟨i,rfl,e1,hR⟩
 simp only at e1 hR
 subst e1
 have hK:=hR.kn
 have hcl:place<w.Columns.length:=by rw [hK.clen];omega
 have hll:=hK.len hT place
 unfold BG
 simp only [Ji9]
 refine Tot.bindC (AX default hcl) ?_
 simp only [GB,DC]
 rcases Nat.lt_or_ge i (A2 w place).length with hi|hi
 ·refine Tot.iteT (Fp hi) (Tot.bindC (AX default hcl) ?_)
  simp only [DC]
  have hv:(A2 w place)[i]? = some (A2 w place)[i]:=JiZ hi
  obtain ⟨j,q,hvj,hq,hr⟩:=hK.ok place _ (Ji1 hv)
  refine Tot.bindC (CP hv) ?_
  rw [hvj]
  have hcr:=OS s place
  refine Tot.bindC (show idx w.States (j:Int)=some q by rw [hK.base.st];exact CP hq) (Tot.bindC (DL (by simp;exact hcr.1)) ?_)
  rw [JbD hcr.1 hcr.2]
  have hJ:∀ w1,Kn t s place w1 kn->(∀ p,A2 w1 p=A2 w p)->((w1.Last=(place:Int)/\No t s place)\/(w1.Last=w0.Last/\(∀ i' v,i'<i->(A2 w place)[i']? = some v->∀ (j:Nat) q,v=(j:Int)->(Ae t)[j]? = some q->Gf q.Need (Dl s place)=false)/\Gf q.Need (Dl s place)=false)) ->
    Tot (λ n=>BF n x0 (place:Int) (Dl s place) kn (i:Int) (j:Int) w1) (Rd2 (λ y:Ad×(List (List Bool))×Int=>∃ m',m'<1000-i/\∃ i:Nat,m'=1000-i/\y.2.2=(i:Int)/\R3 t s place w0.Last w0 y.1 y.2.1 i) (λ y=>R3 t s place w0.Last w0 y.1 y.2 (A2 y.1 place).length)):=by
   intro w1 hK1 hc1 hl1
   unfold BF
   refine Tot.bindC (CP (hK1.base.arc j q hq)) (Tot.bind (Yv hT hs hpl hK1 hq hr x0 (Dl s place) (i:Int)) ?_)
   rintro ⟨w2,kn2⟩ ⟨g1,g2,g3⟩
   simp only at g1 g2 g3
   have hpre:∀ p,A2 w p <+: A2 w2 p:=λ p=>by rw [← hc1 p];exact g2.pre p
   have hgetp:∀ i' v,i'<(A2 w place).length->((A2 w2 place)[i']? = some v↔(A2 w place)[i']? = some v):=by
    intro i' v hi'
    have:=Ld (hpre place) (JiZ hi')
    rw [this,JiZ hi']
   refine Tot.pure ⟨1000-(i+1),by omega,i+1,rfl,Cy (by omega),g1,λ p=>(hR.pre p).trans (hpre p),Nat.le_trans hi (hpre place).length_le,λ i' v hi' hv' j' q' hj' hq'=>?_,?_⟩
   ·rw [hgetp i' v (by omega)] at hv'
    by_cases e:i'=i
    ·subst e
     rw [hv] at hv'
     cases hv'
     have:j=j':=by omega
     subst this
     rw [hq] at hq';cases hq'
     exact g3
    ·have:=hR.clo i' v (by omega) hv' j' q' hj' hq'
     exact λ k h1 h2=>by
      obtain ⟨d,d1,d2⟩:=this k h1 h2
      exact ⟨d,d1,(hpre _).subset d2⟩
   ·rw [g2.last]
    refine hl1.imp id λ ⟨l1,l2,l3⟩=>⟨l1,λ i' v hi' hv' j' q' hj' hq'=>?_⟩
    rw [hgetp i' v (by omega)] at hv'
    by_cases e:i'=i
    ·subst e
     rw [hv] at hv'
     cases hv'
     have:j=j':=by omega
     subst this
     rw [hq] at hq';cases hq'
     exact l3
    ·exact l2 i' v (by omega) hv' j' q' hj' hq'
  refine Tot.ite (λ hc=>?_) λ hc=>?_
  ·exact hJ { w with Last:=(place:Int) } (hK.last _) (λ p=>rfl) (.inl ⟨rfl,q,hr,hc⟩)
  ·exact hJ w hK (λ p=>rfl) (hR.last.imp id λ ⟨l1,l2⟩=>⟨l1,l2,hc⟩)
 ·have:i=(A2 w place).length:=by have:=hR.le;omega
  refine Tot.iteF (by simp only [decide_eq_false_iff_not];show ¬((i:Int)<(((A2 w place).length:Nat):Int));omega) (Tot.pure ?_)
  show R3 t s place w0.Last w0 w kn (A2 w place).length
  rw [← this];exact hR
end
end Go.AI
end
section
namespace Go.AI
structure WR (t:Ac) (s:List UInt8) (w:Ad):Prop where
 base:OU t s w
 clen:w.Columns.length=s.length+1
 cost:∀ p,(w.Columns.getD p default).Costs=[]
 nod:∀ p,(A2 w p).Nodup
 ok:∀ p v,InC w p v->∃ (j:Nat) (q:Aa),v=(j:Int)/\(Ae t)[j]? = some q/\Rch t s p q
 all:∀ p (j:Nat) q,(Ae t)[j]? = some q->Rch t s p q->InC w p (j:Int)
 sort:∀ p,p<=s.length->(A2 w p).Pairwise (·<=·)
 last:KY t s w.Last
structure R2 (t:Ac) (s:List UInt8) (place:Nat) (w:Ad) (kn:List (List Bool)):Prop where
 kn:Kn t s place w kn
 sort:∀ p,p<place->(A2 w p).Pairwise (·<=·)
 clo:∀ p,p<place->∀ v,InC w p v->∀ (j:Nat) q,v=(j:Int)->(Ae t)[j]? = some q->Clo t s w p q
 last:GA t s place w.Last
 first:InC w 0 0
section
variable {t:Ac} (hT:JT t) {s:List UInt8} (hs:s.length<=4000)
include hT hs
theorem Yx {place:Nat} (hpl:place<=s.length) {w:Ad} {kn:List (List Bool)} (h:R2 t s place w kn) (x0:Ad×List (List Bool)) :
  Tot (λ n=>Bm n x0 w kn (place:Int) (Dl s place)) (Rd2 (λ y:Ad×(List (List Bool))×Int=>y.2.2=((place+1:Nat):Int)/\R2 t s (place+1) y.1 y.2.1) (λ _=>False)):=by
 have hlen:=Io hT
 have e5:Br (place:Int) 5=((place % 5:Nat):Int):=by
  have:=(N9 (a:=(place:Int)) (m:=5) (by omega) (by omega)).1
  rw [this];omega
 have hc5:place % 5<5:=Nat.mod_lt _ (by omega)
 unfold Bm
 refine Tot.bind (Yw hT hs hpl h.kn x0) ?_
 rintro ⟨w1,kn1⟩ hR
 simp only at hR
 have hK:=hR.kn
 have hcl:place<w1.Columns.length:=by rw [hK.clen];omega
 have hll:=hK.len hT place
 refine Tot.bindC (AX default hcl) ?_
 have hsort:Sk 0 (w1.Columns.getD place default).States=some (Jl (A2 w1 place)):=by
  unfold Sk WW
  rw [if_pos (show (w1.Columns.getD place default).States.length<4611686018427387904 from (show (A2 w1 place).length<4611686018427387904 by omega))];rfl
 have hperm:=KA (A2 w1 place)
 refine Tot.bindA (λ n=>hsort) (Tot.bindC (DL (by rw [decide_eq_true_eq];exact hperm.length_eq.symm)) ?_)
 rw [e5]
 refine Tot.bindC (AX [] (by rw [hK.klen];exact hc5)) (Tot.bindC (DL (by simp;omega)) (Tot.pure ⟨Cy (by omega),?_⟩))
 simp only [Ji9]
 generalize hw':(⟨w1.T,w1.S,w1.States,w1.Arcs,w1.Columns.set place ⟨Jl (A2 w1 place),(w1.Columns.getD place default).Costs⟩,w1.Last⟩:Ad)=w'
 have hcol:∀ p',w'.Columns.getD p' default=if place=p' then ⟨Jl (A2 w1 place),(w1.Columns.getD place default).Costs⟩ else w1.Columns.getD p' default:=by
  intro p'
  subst hw'
  exact Rh hcl _ p' 0 0 0 []
 have hcS:∀ p',A2 w' p'=if place=p' then Jl (A2 w1 place) else A2 w1 p':=by
  intro p'
  show (w'.Columns.getD p' default).States=_
  rw [hcol]
  split<;>rfl
 have hin:∀ p' v,InC w' p' v↔InC w1 p' v:=by
  intro p' v
  unfold InC
  rw [hcS]
  split
  ·rename_i e;subst e;exact hperm.mem_iff
  ·exact Iff.rfl
 have hkn:∀ c,(kn1.set (place % 5) (List.replicate (kn1.getD (place % 5) []).length false)).getD c []=if place % 5=c then List.replicate (kn1.getD (place % 5) []).length false else kn1.getD c []:=by
  intro c
  split
  ·rename_i e;subst e;exact CQ (by rw [hK.klen];exact hc5) _ _
  ·rename_i e;exact CG e _ _
 have hclo:∀ {p q},Clo t s w1 p q->Clo t s w' p q:=λ {p q} hh k h1 h2=>by
  obtain ⟨j,g1,g2⟩:=hh k h1 h2
  exact ⟨j,g1,(hin _ _).2 g2⟩
 refine ⟨⟨?_,?_,λ p'=>?_,by rw [Jjh];exact hK.klen,λ c hc=>?_,λ p'=>?_,λ p' v hv=>hK.ok p' v ((hin _ _).1 hv),λ p' g1 g2 j'=>?_,λ p' g=>?_⟩,λ p' g=>?_,λ p' g v hv j q hj hq=>hclo ?_,?_,(hin _ _).2 ((hR.pre 0).subset h.first)⟩
 ·subst hw';exact ⟨hK.base.tt,hK.base.ss,hK.base.st,hK.base.al,hK.base.arc⟩
 ·subst hw';simp only [Jjh];exact hK.clen
 ·rw [hcol]
  split
  ·exact hK.cost place
  ·exact hK.cost p'
 ·rw [hkn]
  split
  ·rename_i e;rw [List.length_replicate,e];exact hK.rows c hc
  ·exact hK.rows c hc
 ·rw [hcS]
  split
  ·exact hperm.nodup_iff.2 (hK.nod place)
  ·exact hK.nod p'
 ·rw [hkn,hin]
  by_cases e:place % 5=p' % 5
  ·rw [if_pos e]
   have hp5:p'=place+5:=by omega
   have hf:=hK.far p' (by omega)
   unfold InC
   rw [hf,List.getElem?_replicate]
   constructor
   ·intro hh
    split at hh<;>cases hh
   ·intro hh;cases hh
  ·rw [if_neg e,hK.row p' (by omega) (by omega) j']
 ·rw [hcS,if_neg (by omega)];exact hK.far p' (by omega)
 ·rw [hcS]
  split
  ·exact Ie _
  ·rename_i e
   have:A2 w1 p'=A2 w p':=by
    have h1:=hR.pre p'
    obtain ⟨l,hl⟩:=h1
    have hp':p'<place:=by omega
    cases l with
    | nil=>rw [← hl,List.append_nil]
    | cons a l=>
     exfalso
     have ha:InC w1 p' a:=by unfold InC;rw [← hl];simp
     obtain ⟨j,q,e1,e2,e3⟩:=hK.ok p' a ha
     have hin0:InC w p' a:=by
      have key:∀ {i' q},Rch t s i' q->i'<place->∃ j:Nat,(Ae t)[j]? = some q/\InC w i' (j:Int):=λ {i' q} hr=>Rch.ind (A:=λ i' q=>i'<place->∃ j:Nat,(Ae t)[j]? = some q/\InC w i' (j:Int)) (λ _=>⟨0,(B9 hT.tab).1.first,h.first⟩) (λ i' q k hi' hA hst hpf hlt=>by
       obtain ⟨j,h1,h2⟩:=hA (by omega)
       exact h.clo i' (by omega) _ h2 j q rfl h1 k hst hpf) hr
      obtain ⟨j',g1,g2⟩:=key e3 hp'
      rw [e1,Lf (Pi hT) e2 g1];exact g2
     have hnd:=hK.nod p'
     rw [← hl,List.nodup_append] at hnd
     exact hnd.2.2 a hin0 a (by simp) rfl
   rw [this];exact h.sort p' (by omega)
 ·by_cases e:p'=place
  ·subst e
   obtain ⟨i',hi',e1⟩:=List.getElem_of_mem ((hin _ _).1 hv)
   exact hR.clo i' v hi' (by rw [← e1];exact JiZ hi') j q hj hq
  ·have hp':p'<place:=by omega
   obtain ⟨j2,q2,e1,e2,e3⟩:=hK.ok p' v ((hin _ _).1 hv)
   have hin0:InC w p' v:=by
    have key:∀ {i' q},Rch t s i' q->i'<place->∃ j:Nat,(Ae t)[j]? = some q/\InC w i' (j:Int):=λ {i' q} hr=>Rch.ind (A:=λ i' q=>i'<place->∃ j:Nat,(Ae t)[j]? = some q/\InC w i' (j:Int)) (λ _=>⟨0,(B9 hT.tab).1.first,h.first⟩) (λ i' q k hi' hA hst hpf hlt=>by
     obtain ⟨j,h1,h2⟩:=hA (by omega)
     exact h.clo i' (by omega) _ h2 j q rfl h1 k hst hpf) hr
    obtain ⟨j',g1,g2⟩:=key e3 hp'
    rw [e1,Lf (Pi hT) e2 g1];exact g2
   exact λ k h1 h2=>by
    obtain ⟨d,d1,d2⟩:=h.clo p' hp' v hin0 j q hj hq k h1 h2
    exact ⟨d,d1,(hR.pre _).subset d2⟩
 ·have hl':w'.Last=w1.Last:=by subst hw';rfl
  rw [hl']
  rcases hR.last with ⟨l1,l2⟩|⟨l1,l2⟩
  ·rw [l1];exact .stop l2
  ·rw [l1]
   refine h.last.skip ?_
   rintro ⟨q,hr,hn⟩
   have hA:∃ j:Nat,(Ae t)[j]? = some q/\InC w1 place (j:Int):=by
    have key:∀ {i' q},Rch t s i' q->i'<=place->∃ j:Nat,(Ae t)[j]? = some q/\InC w1 i' (j:Int):=λ {i' q} hr=>Rch.ind (A:=λ i' q=>i'<=place->∃ j:Nat,(Ae t)[j]? = some q/\InC w1 i' (j:Int)) (λ _=>⟨0,(B9 hT.tab).1.first,(hR.pre 0).subset h.first⟩) (λ i' q k hi' hA hst hpf hle=>by
     obtain ⟨j,h1,h2⟩:=hA (by omega)
     by_cases e:i'=place
     ·subst e
      obtain ⟨x,hx,e1⟩:=List.getElem_of_mem h2
      exact hR.clo x _ hx (by rw [← e1];exact JiZ hx) j q rfl h1 k hst hpf
     ·have hin0:InC w i' (j:Int):=by
       have key2:∀ {i' q},Rch t s i' q->i'<place->∃ j:Nat,(Ae t)[j]? = some q/\InC w i' (j:Int):=λ {i' q} hr=>Rch.ind (A:=λ i' q=>i'<place->∃ j:Nat,(Ae t)[j]? = some q/\InC w i' (j:Int)) (λ _=>⟨0,(B9 hT.tab).1.first,h.first⟩) (λ i' q k hi' hA hst hpf hlt=>by
        obtain ⟨j,h1,h2⟩:=hA (by omega)
        exact h.clo i' (by omega) _ h2 j q rfl h1 k hst hpf) hr
       obtain ⟨j2,q2,e1,e2,e3⟩:=hK.ok i' _ h2
       obtain ⟨j',g1,g2⟩:=key2 e3 (by omega)
       rw [e1,Lf (Pi hT) e2 g1];exact g2
      obtain ⟨d,d1,d2⟩:=h.clo i' (by omega) _ hin0 j q rfl h1 k hst hpf
      exact ⟨d,d1,(hR.pre _).subset d2⟩) hr
    exact key hr (Nat.le_refl _)
   obtain ⟨j,h1,h2⟩:=hA
   obtain ⟨x,hx,e1⟩:=List.getElem_of_mem h2
   have:=l2 x _ hx (by rw [← e1];exact JiZ hx) j q rfl h1
   rw [hn] at this;cases this
theorem JbE {w:Ad} (hw:OU t s w) (hc:w.Columns=List.replicate (s.length+1) ⟨[],[]⟩) (hl:w.Last=0):Tot (λ n=>CI n w) (WR t s):=by
 have hlen:=Io hT
 have hf:=(B9 hT.tab).1.first
 have hcg:∀ p,w.Columns.getD p default=⟨[],[]⟩:=by
  intro p
  rw [hc,Ji8,List.getElem?_replicate]
  split<;>rfl
 have hcS:∀ p,A2 w p=[]:=λ p=>by show (w.Columns.getD p default).States=[];rw [hcg]
 unfold CI
 refine Tot.bind (R:=λ kn=>kn.length=5/\∀ c,c<5->kn.getD c []=List.replicate (Ae t).length false) ?_ ?_
 ·refine Tot.upto (body:=λ n x=>BD n w x.1 x.2) 5 (λ k x=>x.2=(k:Int)/\x.1.length=5/\∀ c,c<k->x.1.getD c []=List.replicate (Ae t).length false) ?_ ?_ _ ⟨rfl,rfl,by omega⟩
  ·rintro k ⟨m,k'⟩ hk ⟨g1,g2,g3⟩
   simp only at g1 g2 g3
   subst g1
   unfold BD
   refine Tot.iteT (by simp;omega) (Tot.bindC (AX [] (show k<m.length by omega)) (Tot.bindC (OP (by omega) (by rw [hw.st];omega)) (Tot.bindC (DL (by simp;omega)) ?_)))
   rw [hw.st,Ji9,Ji9]
   refine Tot.pure ⟨Cy (by omega),by rw [Jjh];exact g2,λ c hc=>?_⟩
   by_cases e:k=c
   ·subst e;exact CQ (show k<m.length by omega) _ _
   ·show (m.set k _).getD c []=_
    rw [CG e];exact g3 c (by omega)
  ·rintro ⟨m,k'⟩ ⟨g1,g2,g3⟩
   simp only at g1 g2 g3
   subst g1
   unfold BD
   exact Tot.iteF (by simp) (Tot.pure ⟨g2,g3⟩)
 ·rintro kn ⟨k1,k2⟩
  have hK:Kn t s 0 w kn:=by
   refine ⟨hw,by rw [hc,List.length_replicate],λ p=>by rw [hcg],k1,λ c hc=>by rw [k2 c hc,List.length_replicate],λ p=>by rw [hcS];exact List.nodup_nil,λ p v hv=>?_,λ p _ h2 j=>?_,λ p _=>hcS p⟩
   ·unfold InC at hv;rw [hcS] at hv;cases hv
   ·unfold InC
    rw [hcS,k2 _ (Nat.mod_lt _ (by omega)),List.getElem?_replicate]
    constructor
    ·intro hh;split at hh<;>cases hh
    ·intro hh;cases hh
  refine Tot.bind (JbC hT hK (p:=0) (j:=0) (by omega) (by omega) (by omega) hf (.start t s)) ?_
  rintro ⟨w1,kn1⟩ ⟨g1,g2,g3⟩
  simp only at g1 g2 g3 ⊢
  have hR:R2 t s 0 w1 kn1:=⟨g1,by omega,by omega,by rw [g2.last,hl];exact ⟨⟨0,rfl,.inl rfl⟩,by omega⟩,g3⟩
  refine Tot.bind (R:=WR t s) ?_ (λ w h=>Tot.pure h)
  refine Tot.upto (body:=λ n x=>BH n (w1,kn1) x.1 x.2.1 x.2.2) (s.length+1) (λ i x=>x.2.2=(i:Int)/\R2 t s i x.1 x.2.1) ?_ ?_ _ ⟨rfl,hR⟩
  ·rintro i ⟨w2,kn2,i'⟩ hi ⟨e1,h2⟩
   simp only at e1 h2
   subst e1
   unfold BH
   refine Tot.iteT (by simp only [decide_eq_true_eq];rw [g1.clen];omega) ?_
   have hJ:=Yx hT hs (show i<=s.length by omega) h2 (w1,kn1)
   have hJ':∀ c,c=Dl s i->Tot (λ n=>Bm n (w1,kn1) w2 kn2 (i:Int) c) (Rd2 (λ x:Ad×(List (List Bool))×Int=>x.2.2=((i+1:Nat):Int)/\R2 t s (i+1) x.1 x.2.1) (WR t s)):=by
    rintro c rfl
    exact hJ.mono λ z hz=>by
     cases z with
     | inl y=>exact hz
     | inr y=>exact hz.elim
   rw [h2.kn.base.ss]
   refine Tot.ite (λ h=>?_) λ h=>?_
   ·have hlt:i<s.length:=by simpa using h
    refine Tot.bindC (JN hlt) (Tot.bindA (λ n=>Q8 n _) (hJ' _ ?_))
    unfold Dl;rw [if_pos hlt]
   ·have hlt:¬i<s.length:=by simpa using h
    refine hJ' 0 ?_
    unfold Dl;rw [if_neg hlt]
  ·rintro ⟨w2,kn2,i'⟩ ⟨e1,h2⟩
   simp only at e1 h2
   subst e1
   unfold BH
   refine Tot.iteF (by simp only [decide_eq_false_iff_not];rw [g1.clen];omega) (Tot.pure ⟨h2.kn.base,h2.kn.clen,h2.kn.cost,h2.kn.nod,h2.kn.ok,λ p j q hq hr=>?_,λ p hp=>h2.sort p (by omega),h2.last.all⟩)
   have key:∀ {i' q},Rch t s i' q->∃ j:Nat,(Ae t)[j]? = some q/\InC w2 i' (j:Int):=λ {i' q} hr=>Rch.ind (A:=λ i' q=>∃ j:Nat,(Ae t)[j]? = some q/\InC w2 i' (j:Int)) ⟨0,hf,h2.first⟩ (λ i' q k hi' hA hst hpf=>by
    obtain ⟨j,h1,h3⟩:=hA
    exact h2.clo i' (by omega) _ h3 j q rfl h1 k hst hpf) hr
   obtain ⟨j',g4,g5⟩:=key hr
   rw [Lf (Pi hT) hq g4];exact g5
end
end Go.AI
end
section
namespace Go.AI
theorem Ri {α:Type} {l:List α} (h:l.Nodup) {a b:Nat} {x:α} (ha:l[a]? = some x) (hb:l[b]? = some x):a=b:=by
 have ha':=Aj ha
 have hb':=Aj hb
 rw [JiZ ha'] at ha
 rw [JiZ hb'] at hb
 have e:l[a]=l[b]:=by injection ha with ha;injection hb with hb;rw [ha,hb]
 rw [List.Nodup,List.pairwise_iff_getElem] at h
 rcases Nat.lt_trichotomy a b with hlt|he|hgt
 ·exact absurd e (h a b ha' hb' hlt)
 ·exact he
 ·exact absurd e.symm (h b a hb' ha' hgt)
theorem JgL {i j:Nat} (h:i+j<1000000):IntKind.i64.wrap (Qd .u64 (IntKind.u64.wrap (Az .i64 (i:Int) (j:Int))) 1)=(((i+j) / 2:Nat):Int):=by
 rw [Hu (by omega) (by omega)]
 have h1:IntKind.u64.wrap ((i:Int)+(j:Int))=(i:Int)+(j:Int):=by
  have:IntKind.u64.wrap ((i:Int)+(j:Int))=((i:Int)+(j:Int)) % 18446744073709551616:=rfl
  rw [this];omega
 have h2:∀ a:Int,Qd .u64 a 1=a.fdiv 2:=λ a=>rfl
 rw [h1,h2,Int.fdiv_eq_ediv_of_nonneg _ (by omega),w64 (by omega) (by omega)]
 omega
theorem Jc8 (n:Nat) (a b:Int):DG n a b=some (decide (a<b)):=by
 unfold DG Dd
 simp
theorem JgM {l:List Int} (hl:l.length<=1000) (hs:l.Pairwise (·<=·)) (hn:l.Nodup) {d:Nat} {v:Int} (hd:l[d]? = some v):Ev (λ n=>Bk n l v) ((d:Int),true):=by
 have hdl:=Aj hd
 have hmono:∀ a b:Nat,a<=b->∀ x y,l[a]? = some x->l[b]? = some y->x<=y:=by
  intro a b hab x y hx hy
  rcases Nat.eq_or_lt_of_le hab with rfl|hlt
  ·rw [hx] at hy;cases hy;omega
  ·have ha:=Aj hx
   have hb:=Aj hy
   have:=(List.pairwise_iff_getElem.1 hs) a b ha hb hlt
   rw [JiZ ha] at hx
   rw [JiZ hb] at hy
   cases hx;cases hy;exact this
 refine Tot.ev ?_
 unfold Bk
 refine Tot.bind (R:=λ i=>i=(d:Int)) ?_ ?_
 ·refine Tot.whl (body:=λ n x=>A5 n l v x.1 x.2) (λ m x=>∃ i j:Nat,x=((i:Int),(j:Int))/\m=j-i/\i<=d/\d<=j/\j<=l.length/\(∀ k x,k<i->l[k]? = some x->x<v)/\∀ k x,j<=k->l[k]? = some x->v<=x) ?_ l.length _ ⟨0,l.length,rfl,by omega,by omega,by omega,by omega,by omega,λ k x h1 h2=>by have:=Aj h2;omega⟩
  rintro m x ⟨i,j,rfl,rfl,h1,h2,h3,h4,h5⟩
  unfold A5
  simp only
  rw [JgL (by omega)]
  rcases Nat.lt_or_ge i j with hij|hij
  ·have hm:(i+j) / 2<l.length:=by omega
   refine Tot.iteT (by simpa using hij) (Tot.bindC (KT hm) (Tot.bindA (λ n=>Jc8 n _ _) (Tot.ite (λ hc=>?_) λ hc=>?_)))
   ·have hlt:l[(i+j) / 2]<v:=by simpa using hc
    refine Tot.pure ⟨j-((i+j) / 2+1),by omega,(i+j) / 2+1,j,by rw [Cy (by omega)],rfl,?_,h2,h3,λ k x hk hx=>?_,h5⟩
    ·apply Classical.byContradiction
     intro hh
     have:=hmono d ((i+j) / 2) (by omega) _ _ hd (JiZ hm)
     omega
    ·have:=hmono k ((i+j) / 2) (by omega) _ _ hx (JiZ hm)
     omega
   ·have hge:v<=l[(i+j) / 2]:=by simpa using hc
    refine Tot.pure ⟨(i+j) / 2-i,by omega,i,(i+j) / 2,rfl,rfl,h1,?_,by omega,h4,λ k x hk hx=>?_⟩
    ·apply Classical.byContradiction
     intro hh
     have h6:=hmono ((i+j) / 2) d (by omega) _ _ (JiZ hm) hd
     have:=Ri hn (show l[(i+j) / 2]? = some v by rw [JiZ hm];congr 1;omega) hd
     omega
    ·have:=hmono ((i+j) / 2) k hk _ _ (JiZ hm) hx
     omega
  ·refine Tot.iteF (by simp;omega) (Tot.pure ?_)
   show (i:Int)=(d:Int)
   omega
 ·rintro i rfl
  have hg:decide ((d:Int)<((l.length:Nat):Int))=true:=Fp hdl
  refine Tot.gE hg (Ev.all λ n=>CP hd) ?_
  have hf:((decide ((d:Int)<((l.length:Nat):Int)))&&!(v==v))=false:=by simp
  refine Tot.gF hf (Tot.gF hf (Tot.gF (by rw [hf];rfl) (Tot.pure ?_)))
  rw [hg];simp
theorem TT {c:Aw} (hl:c.States.length<=1000) (hs:c.States.Pairwise (·<=·)) (hn:c.States.Nodup) {d:Nat} {v x:Int} (hd:c.States[d]? = some v) (hx:c.Costs[d]? = some x):Ev (λ n=>Bx n c v) x:=by
 unfold Bx
 refine Ev.bind (JgM hl hs hn hd) (Ev.iteF rfl (Ev.bindC (CP hx) Ev.const))
def B0 (t:Ac) (w:Ad) (p:Nat):List Aa:=(A2 w p).map λ v=>(Ae t).getD v.toNat default
abbrev Bq (w:Ad) (p:Nat):List Int:=(w.Columns.getD p default).Costs
structure PI (t:Ac) (s:List UInt8) (place:Nat) (w:Ad):Prop where
 base:OU t s w
 clen:w.Columns.length=s.length+1
 nod:∀ p,(A2 w p).Nodup
 ok:∀ p v,InC w p v->∃ (j:Nat) (q:Aa),v=(j:Int)/\(Ae t)[j]? = some q/\Rch t s p q
 all:∀ p (j:Nat) q,(Ae t)[j]? = some q->Rch t s p q->InC w p (j:Int)
 sort:∀ p,p<=s.length->(A2 w p).Pairwise (·<=·)
 later:∀ p,place<p->p<=s.length->(∀ (i:Nat) q,(B0 t w p)[i]? = some q->(Bq w p)[i]? = some (As t q (s.drop p)))/\∀ (i:Nat) v,(Bq w p)[i]? = some v->v<=((3072*(s.length-p+1):Nat):Int)
 col:Col t (s.drop place) (3072*(s.length-place)) (B0 t w place) (Bq w place)
section
variable {t:Ac} (hT:JT t) {s:List UInt8} (hs:s.length<=4000)
include hT
omit hT in
theorem KZ {w:Ad} {p:Nat} (hok:∀ v,InC w p v->∃ (j:Nat) (q:Aa),v=(j:Int)/\(Ae t)[j]? = some q/\Rch t s p q) {i:Nat} {q:Aa}:(B0 t w p)[i]? = some q↔∃ j:Nat,(A2 w p)[i]? = some (j:Int)/\(Ae t)[j]? = some q:=by
 unfold B0
 rw [Ji3,Ji2]
 constructor
 ·rintro ⟨v,hv,rfl⟩
  obtain ⟨j,q,rfl,hq,_⟩:=hok v (Ji1 hv)
  refine ⟨j,hv,?_⟩
  rw [Ji9,Ji8,hq];rfl
 ·rintro ⟨j,hv,hq⟩
  refine ⟨_,hv,?_⟩
  rw [Ji9,Ji8,hq];rfl
theorem PI.qn {place:Nat} {w:Ad} (h:PI t s place w) (p:Nat):(B0 t w p).Nodup:=by
 rw [List.nodup_iff_pairwise_ne,List.pairwise_iff_getElem]
 intro a b ha hb hlt he
 have h1:=JiZ ha
 have h2:=JiZ hb
 rw [he] at h1
 obtain ⟨j,e1,g1⟩:=(KZ (h.ok p)).1 h1
 obtain ⟨j',e2,g2⟩:=(KZ (h.ok p)).1 h2
 have:=Lf (Pi hT) g1 g2
 subst this
 have:=Ri (h.nod p) e1 e2
 omega
theorem PI.qlen {place:Nat} {w:Ad} (h:PI t s place w) (p:Nat):(B0 t w p).length=(A2 w p).length/\(A2 w p).length<=768:=by
 refine ⟨by simp [B0],?_⟩
 have hsub:∀ v∈A2 w p,v∈(List.range (Ae t).length).map (λ j:Nat=>(j:Int)):=by
  intro v hv
  obtain ⟨j,q,rfl,hq,_⟩:=h.ok p v hv
  exact List.mem_map.2 ⟨j,List.mem_range.2 (Aj hq),rfl⟩
 have:=(h.nod p).length_le_of_subset hsub
 have:=Io hT
 simp at *
 omega
theorem PI.pos {place:Nat} {w:Ad} (h:PI t s place w) {p:Nat} {q:Aa} (hr:Rch t s p q) (hq:q∈Ae t):∃ d:Nat,(A2 w p)[d]? = some (BU (Ae t) q)/\(B0 t w p)[d]? = some q:=by
 have _:=hT
 obtain ⟨j,hj,hg⟩:=Ca hq
 obtain ⟨d,hd,e⟩:=List.getElem_of_mem (h.all p j q hg hr)
 have:(A2 w p)[d]? = some (j:Int):=by rw [← e];exact JiZ hd
 exact ⟨d,by rw [hj];exact this,(KZ (h.ok p)).2 ⟨j,this,hg⟩⟩
include hs in
theorem PI.find {place:Nat} (hpl:place<=s.length) {w:Ad} (h:PI t s place w) {p:Nat} (h1:place<=p) (h2:p<=s.length) {q:Aa} (hr:Rch t s p q) (hq:q∈Ae t):∃ (d:Nat) (x:Int),(B0 t w p)[d]? = some q/\(Bq w p)[d]? = some x/\Ev (λ n=>Bx n (w.Columns.getD p default) (BU (Ae t) q)) x/\(-1<=x/\x<=13000000)/\(place<p->x=As t q (s.drop p)/\x<=((3072*(s.length-p+1):Nat):Int)):=by
 obtain ⟨d,g1,g2⟩:=h.pos hT hr hq
 have hql:=h.qlen hT p
 rcases Nat.eq_or_lt_of_le h1 with rfl|hlt
 ·obtain ⟨x,hx⟩:=h.col.get (Aj g2)
  have hb:=h.col.top hx
  exact ⟨d,x,g2,hx,TT (by show (A2 w place).length<=1000;omega) (h.sort place hpl) (h.nod place) g1 hx,⟨hb.1,by omega⟩,by omega⟩
 ·obtain ⟨k1,k2⟩:=h.later p hlt h2
  have hx:=k1 d q g2
  have hb:=k2 d _ hx
  exact ⟨d,_,g2,hx,TT (by show (A2 w p).length<=1000;omega) (h.sort p h2) (h.nod p) g1 hx,⟨Rf _ _ _,by omega⟩,λ _=>⟨rfl,hb⟩⟩
end
end Go.AI
end
section
namespace Go.AI
def Od (w:Ad) (p:Nat) (cs:List Int):Ad:={ w with Columns:=w.Columns.set p ⟨(w.Columns.getD p default).States,cs⟩ }
theorem C7 {w:Ad} {p:Nat} (hp:p<w.Columns.length) (cs:List Int) (p':Nat):A2 (Od w p cs) p'=A2 w p'/\Bq (Od w p cs) p'=if p=p' then cs else Bq w p':=by
 have h:=Rh hp ⟨(w.Columns.getD p default).States,cs⟩ p' 0 0 0 []
 unfold A2 Bq Od
 simp only
 rw [h]
 split
 ·rename_i e;subst e;exact ⟨rfl,rfl⟩
 ·exact ⟨rfl,rfl⟩
theorem Pu {t:Ac} {w:Ad} {p:Nat} (hp:p<w.Columns.length) (cs:List Int) (p':Nat):B0 t (Od w p cs) p'=B0 t w p':=by
 unfold B0
 rw [(C7 hp cs p').1]
theorem PI.set {t:Ac} {s:List UInt8} {place:Nat} {w:Ad} (h:PI t s place w) (hpl:place<=s.length) {cs:List Int} (hc:Col t (s.drop place) (3072*(s.length-place)) (B0 t w place) cs):PI t s place (Od w place cs):=by
 have hp:place<w.Columns.length:=by rw [h.clen];omega
 refine ⟨⟨h.base.tt,h.base.ss,h.base.st,h.base.al,h.base.arc⟩,?_,λ p=>?_,λ p v hv=>?_,λ p j q h1 h2=>?_,λ p hp'=>?_,λ p h1 h2=>?_,?_⟩
 ·show (w.Columns.set _ _).length=_
  rw [Jjh];exact h.clen
 ·rw [(C7 hp cs p).1];exact h.nod p
 ·unfold InC at hv;rw [(C7 hp cs p).1] at hv;exact h.ok p v hv
 ·unfold InC;rw [(C7 hp cs p).1];exact h.all p j q h1 h2
 ·rw [(C7 hp cs p).1];exact h.sort p hp'
 ·rw [Pu hp,(C7 hp cs p).2,if_neg (by omega)];exact h.later p h1 h2
 ·rw [Pu hp,(C7 hp cs place).2,if_pos rfl];exact hc
structure Imp (t:Ac) (s:List UInt8) (place:Nat) (sl:Bool) (B:Nat) (i:Nat) (q:Aa) (P:Nat->Prop) (w1 w2:Ad) (b:Bool):Prop where
 pi:PI t s place w2
 cols:∀ p,A2 w2 p=A2 w1 p
 last:w2.Last=w1.Last
 low:∀ (j:Nat) v,(Bq w1 place)[j]? = some v->0<=v->∃ v',(Bq w2 place)[j]? = some v'/\0<=v'/\v'<=v
 fls:b=false->w2=w1
 less:b=true->phi B (Bq w2 place)<phi B (Bq w1 place)
 rel:sl=false->∀ k:Nat,P k->(Ap t q k).2=true->prt t k≠[]->∀ y,s.drop place=prt t k++y->0<=As t (Ap t q k).1 y->∃ v,(Bq w2 place)[i]? = some v/\0<=v/\v<=As t (Ap t q k).1 y+(cls t k).length
 sil:sl=true->b=false->∀ k:Nat,P k->(Ap t q k).2=true->prt t k=[]->∃ (i':Nat) (w':Int),(B0 t w1 place)[i']? = some (Ap t q k).1/\(Bq w1 place)[i']? = some w'/\(0<=w'->∃ v,(Bq w1 place)[i]? = some v/\0<=v/\v<=w'+(cls t k).length)
section
variable {t:Ac} (hT:JT t) {s:List UInt8} (hs:s.length<=4000)
include hT hs
theorem WE (sl:Bool) {place:Nat} (hpl:place<=s.length) {B:Nat} (hB:13000000<=B) {w1:Ad} (h:PI t s place w1) {i:Nat} {q:Aa} (hq:(B0 t w1 place)[i]? = some q) :
  Tot (λ n=>whl (λ (x:(Ad×Bool×Int))=>Bc n (i:Int) sl (place:Int) (place:Int) (A4 t q) x.1 x.2.1 x.2.2) n (w1,false,0)) (λ y=>Imp t s place sl B i q (λ _=>True) w1 y.1 y.2):=by
 have hrl:=hT.tab.1
 have hal:(A4 t q).length<=t.Rules.length:=by unfold A4;exact Nat.le_trans (List.length_filterMap_le _ _) (by simp)
 obtain ⟨jq,hjq1,hjq2⟩:=(KZ (h.ok place)).1 hq
 obtain ⟨j2,qq,e1,e2,hr⟩:=h.ok place _ (Ji1 hjq1)
 have e3:j2=jq:=by omega
 subst e3
 rw [hjq2] at e2
 cases e2
 have hqm:q∈Ae t:=Ji1 hjq2
 refine Tot.upto (body:=λ n x=>Bc n (i:Int) sl (place:Int) (place:Int) (A4 t q) x.1 x.2.1 x.2.2) (A4 t q).length (λ m x=>x.2.2=(m:Int)/\Imp t s place sl B i q (λ k=>∃ (m':Nat) (a:Fu),m'<m/\(A4 t q)[m']? = some a/\a.Rule=(k:Int)) w1 x.1 x.2.1) ?_ ?_ _ ⟨rfl,h,λ _=>rfl,rfl,λ j v hv h0=>⟨v,hv,h0,Int.le_refl v⟩,λ _=>rfl,(λ h=>by cases h),λ _ k ⟨m',_,hm,_⟩=>by omega,λ _ _ k ⟨m',_,hm,_⟩=>by omega⟩
 ·rintro m ⟨w,b,m'⟩ hm ⟨e1,hI⟩
  simp only at e1 hI
  subst e1
  have ha:(A4 t q)[m]? = some (A4 t q)[m]:=JiZ hm
  obtain ⟨k,hk,hst,hae⟩:=Hx.1 (List.getElem_mem hm)
  have hW:=hI.pi
  have hqs:B0 t w place=B0 t w1 place:=by unfold B0;rw [hI.cols]
  have hq':(B0 t w place)[i]? = some q:=by rw [hqs];exact hq
  obtain ⟨p1,p2,p3⟩:=hT.pr hst
  have hcl:place<w.Columns.length:=by rw [hW.clen];omega
  obtain ⟨v,hv⟩:=hW.col.get (Aj hq')
  have hvd:(w.Columns.getD place default).Costs.getD i 0=v:=by rw [Ji8 (l:=(w.Columns.getD place default).Costs),show (w.Columns.getD place default).Costs[i]? = some v from hv];rfl
  have hil:i<(w.Columns.getD place default).Costs.length:=Aj (show (w.Columns.getD place default).Costs[i]? = some v from hv)
  have hP:∀ k':Nat,(∃ (m':Nat) (a:Fu),m'<m+1/\(A4 t q)[m']? = some a/\a.Rule=(k':Int))->k'=k\/∃ (m':Nat) (a:Fu),m'<m/\(A4 t q)[m']? = some a/\a.Rule=(k':Int):=by
   rintro k' ⟨m',a,h1,h2,h3⟩
   by_cases e:m'=m
   ·subst e
    rw [ha,hae] at h2
    cases h2
    simp only at h3
    left;omega
   ·exact .inr ⟨m',a,by omega,h2,h3⟩
  have hJ:∀ w2 b2,Imp t s place sl B i q (λ k=>∃ (m':Nat) (a:Fu),m'<m+1/\(A4 t q)[m']? = some a/\a.Rule=(k:Int)) w1 w2 b2->Tot (λ n=>Bb n (m:Int) w2 b2) (Rd2 (λ x:Ad×Bool×Int=>x.2.2=((m+1:Nat):Int)/\Imp t s place sl B i q (λ k=>∃ (m':Nat) (a:Fu),m'<m+1/\(A4 t q)[m']? = some a/\a.Rule=(k:Int)) w1 x.1 x.2.1) (λ y=>Imp t s place sl B i q (λ _=>True) w1 y.1 y.2)):=by
   intro w2 b2 h2
   unfold Bb
   exact Tot.pure ⟨Cy (by omega),h2⟩
  have hskip:(sl=false->prt t k≠[]->∀ y,s.drop place=prt t k++y->0<=As t (Ap t q k).1 y->∃ v,(Bq w place)[i]? = some v/\0<=v/\v<=As t (Ap t q k).1 y+(cls t k).length) ->
    (sl=true->prt t k=[]->∃ (i':Nat) (w':Int),(B0 t w place)[i']? = some (Ap t q k).1/\(Bq w place)[i']? = some w'/\(0<=w'->∃ v,(Bq w place)[i]? = some v/\0<=v/\v<=w'+(cls t k).length)) ->
    Imp t s place sl B i q (λ k=>∃ (m':Nat) (a:Fu),m'<m+1/\(A4 t q)[m']? = some a/\a.Rule=(k:Int)) w1 w b:=by
   intro g1 g2
   refine ⟨hI.pi,hI.cols,hI.last,hI.low,hI.fls,hI.less,λ hsl k' hk' hst' hp' y hy hc=>?_,λ hsl hb k' hk' hst' hp'=>?_⟩
   ·rcases hP k' hk' with rfl|hk'
    ·exact g1 hsl hp' y hy hc
    ·exact hI.rel hsl k' hk' hst' hp' y hy hc
   ·rcases hP k' hk' with rfl|hk'
    ·have:=g2 hsl hp'
     rw [hI.fls hb] at this
     exact this
    ·exact hI.sil hsl hb k' hk' hst' hp'
  unfold Bc
  refine Tot.iteT (Fp hm) (Tot.bindC (CP ha) ?_)
  rw [hae]
  refine Tot.bindA (λ n=>Oc hT hs hW.base hpl hst n) (Tot.ite (λ hc=>?_) λ hc=>?_)
  ·
   have hcc:(prt t k).isPrefixOf (s.drop place)=false\/(((((place+(prt t k).length:Nat):Int))==(place:Int))==sl)=false:=by
    simp only [Jjj,Bool.not_eq_true'] at hc
    exact hc
   have hz:((((place+(prt t k).length:Nat):Int))==(place:Int))=decide (prt t k=[]):=by
    rw [Bool.eq_iff_iff,beq_iff_eq,decide_eq_true_eq,← List.length_eq_zero_iff];omega
   rw [hz] at hcc
   refine hJ w b (hskip (λ hsl hp y hy _=>?_) (λ hsl hp=>?_))
   ·exfalso
    rcases hcc with h1|h1
    ·rw [← Bool.not_eq_true,List.isPrefixOf_iff_prefix,hy] at h1
     exact h1 (List.prefix_append _ _)
    ·rw [hsl,decide_eq_false hp] at h1;cases h1
   ·exfalso
    rcases hcc with h1|h1
    ·rw [hp] at h1;cases h1
    ·rw [hsl,decide_eq_true hp] at h1;cases h1
  ·have hcc:(prt t k).isPrefixOf (s.drop place)=true/\(((((place+(prt t k).length:Nat):Int))==(place:Int))==sl)=true:=by
    simp only [Bool.or_eq_false_iff,Bool.not_eq_false'] at hc
    exact hc
   obtain ⟨hpf,hsl⟩:=hcc
   have hz:((((place+(prt t k).length:Nat):Int))==(place:Int))=decide (prt t k=[]):=by
    rw [Bool.eq_iff_iff,beq_iff_eq,decide_eq_true_eq,← List.length_eq_zero_iff];omega
   rw [hz,beq_iff_eq] at hsl
   obtain ⟨q1,q2⟩:=Cs hpf
   have q2:=q2 hpl
   have hnm:=Ep hT hqm hst
   obtain ⟨d,x,f1,f2,f3,f4,f5⟩:=hW.find hT hs hpl (p:=place+(prt t k).length) (by omega) q2 (hr.next hst hpf) hnm
   have hrule:=EM (t:=t) (k:=(k:Int)) (by omega) (by omega)
   refine Tot.bindC (AX default (by rw [hW.clen];omega)) (Tot.bindE f3 ?_)
   rw [hW.base.tt]
   refine Tot.bindC hrule (Tot.bindC (AX default hcl) ?_)
   simp only [Ji9,DC]
   have hclen:(cls t k).length=(BA t k).Cells.length:=rfl
   have hsum:Az .i64 x ((List.length (BA t k).Cells:Nat):Int)=x+((cls t k).length:Nat):=by rw [Hu (by omega) (by omega)]
   rw [hsum]
   have hway:0<=x->(∃ p,Way t q (s.drop place) p/\x+((cls t k).length:Nat)=(CF t p:Nat))/\x+((cls t k).length:Nat)<=((3072*(s.length-place)+4*TP (Bq w place)+4:Nat):Int):=by
    intro h0
    rcases Nat.eq_zero_or_pos (prt t k).length with hz|hz
    ·have hp0:prt t k=[]:=List.length_eq_zero_iff.1 hz
     rw [hz,Nat.add_zero] at f1 f2
     obtain ⟨v',hv',hd⟩:=hW.col.ach d _ f1
     rw [f2] at hv'
     cases hv'
     have hb:=hW.col.bnd d x f2
     refine ⟨?_,by omega⟩
     have:=Nl hst (hd.resolve_left (by omega))
     rwa [hp0,List.nil_append] at this
    ·obtain ⟨g1,g2⟩:=f5 (by omega)
     refine ⟨?_,?_⟩
     ·have:=Nl hst (I0 (t:=t) (q:=(Ap t q k).1) (x:=s.drop (place+(prt t k).length)) (by omega))
      rw [g1]
      rwa [← q1] at this
     ·have:3072*(s.length-(place+(prt t k).length)+1)<=3072*(s.length-place):=by omega
      omega
   by_cases h0:0<=x
   ·have hg:decide (x>=0)=true:=by simpa using h0
    obtain ⟨u1,u2⟩:=hway h0
    refine Tot.gE hg (Ev.all λ n=>AX 0 hil) ?_
    rw [hvd]
    have hv2:∀ (c:Bool),(if ((decide (x>=0))&&c)=true then idx (w.Columns.getD place default).Costs (i:Int) else some default)=some (if c=true then v else default):=by
     intro c
     rw [hg,Bool.true_and,AX 0 hil,hvd]
     cases c<;>rfl
    refine Tot.bindC (hv2 _) ?_
    by_cases hlt:v<0\/x+((cls t k).length:Nat)<v
    ·refine Tot.iteT ?_ ?_
     ·rw [hg,Bool.true_and,Jjj,decide_eq_true_eq,decide_eq_true_eq]
      by_cases hv0:v<0
      ·exact .inl hv0
      ·right
       rw [if_pos (by simpa using hv0)]
       exact hlt.resolve_left hv0
     ·have hfin:=TQ (Bq w place)
      rw [hW.col.len] at hfin
      have hql:=hW.qlen hT place
      obtain ⟨g1,g2⟩:=hW.col.lower hq' hv u1 hlt u2 (B:=B) (by omega)
      refine Tot.bindC (AX default hcl) (Tot.bindC (AX 0 hil) (Tot.bindC (JR hil) (hJ _ _ ?_)))
      have hw2:(⟨t,w.S,w.States,w.Arcs,w.Columns.set place ⟨(w.Columns.getD place default).States,(w.Columns.getD place default).Costs.set i (x+((cls t k).length:Nat))⟩,w.Last⟩:Ad)=Od w place ((Bq w place).set i (x+((cls t k).length:Nat))):=by
       unfold Od Bq
       rw [← hW.base.tt]
      rw [hw2]
      have hc0:=λ p=>C7 hcl ((Bq w place).set i (x+((cls t k).length:Nat))) p
      have hcp:Bq (Od w place ((Bq w place).set i (x+((cls t k).length:Nat)))) place=(Bq w place).set i (x+((cls t k).length:Nat)):=by rw [(hc0 place).2,if_pos rfl]
      have hlow:∀ (j:Nat) v0,(Bq w place)[j]? = some v0->0<=v0->∃ v',((Bq w place).set i (x+((cls t k).length:Nat)))[j]? = some v'/\0<=v'/\v'<=v0:=by
       intro j v0 hv0 h00
       by_cases e:i=j
       ·subst e
        rw [hv] at hv0
        cases hv0
        exact ⟨_,Jjb hil,by omega,by omega⟩
       ·exact ⟨v0,by rw [Jjg e];exact hv0,h00,Int.le_refl _⟩
      refine ⟨hW.set hpl g1,λ p=>(hc0 p).1.trans (hI.cols p),hI.last,λ j v0 hv0 h00=>?_,(λ hb=>by cases hb),λ _=>?_,λ hsl' k' hk' hst' hp' y hy hc=>?_,(λ _ hb=>by cases hb)⟩
      ·obtain ⟨v1,a1,a2,a3⟩:=hI.low j v0 hv0 h00
       obtain ⟨v2,b1,b2,b3⟩:=hlow j v1 a1 a2
       rw [hcp]
       exact ⟨v2,b1,b2,by omega⟩
      ·rw [hcp]
       cases hb:b with
       | false=>rw [hI.fls hb] at g2 ⊢;exact g2
       | true=>have:=hI.less hb;omega
      ·rw [hcp]
       rcases hP k' hk' with rfl|hk'
       ·have hyy:s.drop (place+(prt t k').length)=y:=by rw [q1] at hy;exact List.append_cancel_left hy
        have hlp:0<(prt t k').length:=List.length_pos_iff.2 hp'
        obtain ⟨g3,_⟩:=f5 (by omega)
        rw [hyy] at g3
        exact ⟨_,Jjb hil,by omega,by omega⟩
       ·obtain ⟨v1,a1,a2,a3⟩:=hI.rel hsl' k' hk' hst' hp' y hy hc
        obtain ⟨v2,b1,b2,b3⟩:=hlow i v1 a1 a2
        exact ⟨v2,b1,b2,by omega⟩
    ·refine Tot.iteF ?_ ?_
     ·rw [hg,Bool.true_and,← Bool.not_eq_true,Jjj,decide_eq_true_eq,decide_eq_true_eq]
      have hv0:¬v<0:=λ hh=>hlt (.inl hh)
      rw [if_pos (by simpa using hv0)]
      exact hlt
     ·have hws:(⟨t,w.S,w.States,w.Arcs,w.Columns,w.Last⟩:Ad)=w:=by rw [← hW.base.tt]
      rw [hws]
      refine hJ w b (hskip (λ _ hp' y hy hc=>?_) λ _ hp'=>?_)
      ·have hyy:s.drop (place+(prt t k).length)=y:=by rw [q1] at hy;exact List.append_cancel_left hy
       have hlp:0<(prt t k).length:=List.length_pos_iff.2 hp'
       obtain ⟨g3,_⟩:=f5 (by omega)
       rw [hyy] at g3
       exact ⟨v,hv,by omega,by omega⟩
      ·rw [hp',List.length_nil,Nat.add_zero] at f1 f2
       exact ⟨d,x,f1,f2,λ _=>⟨v,hv,by omega,by omega⟩⟩
   ·have hg:decide (x>=0)=false:=by simpa using h0
    refine Tot.gF hg (Tot.gF (by rw [hg];rfl) (Tot.iteF (by rw [hg];rfl) ?_))
    have hws:(⟨t,w.S,w.States,w.Arcs,w.Columns,w.Last⟩:Ad)=w:=by rw [← hW.base.tt]
    rw [hws]
    refine hJ w b (hskip (λ _ hp' y hy hc=>?_) λ _ hp'=>?_)
    ·have hyy:s.drop (place+(prt t k).length)=y:=by rw [q1] at hy;exact List.append_cancel_left hy
     have hlp:0<(prt t k).length:=List.length_pos_iff.2 hp'
     obtain ⟨g3,_⟩:=f5 (by omega)
     rw [hyy] at g3
     omega
    ·rw [hp',List.length_nil,Nat.add_zero] at f1 f2
     exact ⟨d,x,f1,f2,λ h1=>absurd h1 h0⟩
 ·rintro ⟨w,b,m'⟩ ⟨e1,hI⟩
  simp only at e1 hI
  subst e1
  have hall:∀ k:Nat,(Ap t q k).2=true->∃ (m':Nat) (a:Fu),m'<(A4 t q).length/\(A4 t q)[m']? = some a/\a.Rule=(k:Int):=by
   intro k hst
   obtain ⟨m',hm',e⟩:=List.getElem_of_mem (Hx.2 ⟨k,by have:=Ch hst;omega,hst,rfl⟩:(⟨k,BU (Ae t) (Ap t q k).1⟩:Fu)∈A4 t q)
   exact ⟨m',_,hm',by rw [JiZ hm',e],rfl⟩
  unfold Bc
  exact Tot.iteF (by simp) (Tot.pure ⟨hI.pi,hI.cols,hI.last,hI.low,hI.fls,hI.less,λ hsl k _ hst=>hI.rel hsl k (hall k hst) hst,λ hsl hb k _ hst=>hI.sil hsl hb k (hall k hst) hst⟩)
theorem Sx (sl:Bool) {place:Nat} (hpl:place<=s.length) {B:Nat} (hB:13000000<=B) {w1:Ad} (h:PI t s place w1) {i:Nat} {q:Aa} (hq:(B0 t w1 place)[i]? = some q) :
  Tot (λ n=>BT n (i:Int) sl (place:Int) (place:Int) w1) (λ y=>Imp t s place sl B i q (λ _=>True) w1 y.1 y.2):=by
 have hcl:place<w1.Columns.length:=by rw [h.clen];omega
 obtain ⟨j,g1,g2⟩:=(KZ (h.ok place)).1 hq
 unfold BT
 refine Tot.bindC (AX default hcl) (Tot.bindC (CP g1) (Tot.bindC (CP (h.base.arc j q g2)) ?_))
 simp only [Ji9,GB]
 exact Tot.bind (WE hT hs sl hpl hB h hq) (λ y hy=>Tot.pure hy)
end
end Go.AI
end
section
namespace Go.AI
structure PB (t:Ac) (s:List UInt8) (m:Nat) (w:Ad):Prop where
 base:OU t s w
 clen:w.Columns.length=s.length+1
 nod:∀ p,(A2 w p).Nodup
 ok:∀ p v,InC w p v->∃ (j:Nat) (q:Aa),v=(j:Int)/\(Ae t)[j]? = some q/\Rch t s p q
 all:∀ p (j:Nat) q,(Ae t)[j]? = some q->Rch t s p q->InC w p (j:Int)
 sort:∀ p,p<=s.length->(A2 w p).Pairwise (·<=·)
 later:∀ p,m<=p->p<=s.length->(∀ (i:Nat) q,(B0 t w p)[i]? = some q->(Bq w p)[i]? = some (As t q (s.drop p)))/\∀ (i:Nat) v,(Bq w p)[i]? = some v->v<=((3072*(s.length-p+1):Nat):Int)
theorem PI.pb {t:Ac} {s:List UInt8} {place:Nat} {w:Ad} (h:PI t s place w):PB t s (place+1) w:=⟨h.base,h.clen,h.nod,h.ok,h.all,h.sort,λ p hp=>h.later p (by omega)⟩
theorem PB.pi {t:Ac} {s:List UInt8} {place:Nat} {w:Ad} (h:PB t s (place+1) w) (hc:Col t (s.drop place) (3072*(s.length-place)) (B0 t w place) (Bq w place)):PI t s place w:=⟨h.base,h.clen,h.nod,h.ok,h.all,h.sort,λ p hp=>h.later p (by omega),hc⟩
theorem WR.pb {t:Ac} {s:List UInt8} {w:Ad} (h:WR t s w):PB t s (s.length+1) w:=⟨h.base,h.clen,h.nod,h.ok,h.all,h.sort,λ p hp hp'=>by omega⟩
theorem PB.set {t:Ac} {s:List UInt8} {place:Nat} {w:Ad} (h:PB t s (place+1) w) (hpl:place<=s.length) {cs:List Int} (hc:Col t (s.drop place) (3072*(s.length-place)) (B0 t w place) cs):PI t s place (Od w place cs):=by
 have hp:place<w.Columns.length:=by rw [h.clen];omega
 refine ⟨⟨h.base.tt,h.base.ss,h.base.st,h.base.al,h.base.arc⟩,?_,λ p=>?_,λ p v hv=>?_,λ p j q h1 h2=>?_,λ p hp'=>?_,λ p h1 h2=>?_,?_⟩
 ·show (w.Columns.set _ _).length=_
  rw [Jjh];exact h.clen
 ·rw [(C7 hp cs p).1];exact h.nod p
 ·unfold InC at hv;rw [(C7 hp cs p).1] at hv;exact h.ok p v hv
 ·unfold InC;rw [(C7 hp cs p).1];exact h.all p j q h1 h2
 ·rw [(C7 hp cs p).1];exact h.sort p hp'
 ·rw [Pu hp,(C7 hp cs p).2,if_neg (by omega)];exact h.later p (by omega) h2
 ·rw [Pu hp,(C7 hp cs place).2,if_pos rfl];exact hc
section
variable {t:Ac} (hT:JT t) {s:List UInt8} (hs:s.length<=4000)
include hT hs
omit hT in
theorem Yy {place:Nat} (hpl:place<=s.length) {w:Ad} (h:PB t s (place+1) w) (hl7:(A2 w place).length<=768) (l0:List Int) (hl0:l0.length=(A2 w place).length) :
  Tot (λ n=>whl (λ (x:((List Int)×Int))=>Bn n w (place:Int) (w.Columns.getD place default) l0 ⟨A2 w place,l0⟩ x.1 x.2) n (l0,0)) (λ w'=>w'=Od w place ((B0 t w place).map (CS t (s.drop place)))):=by
 have hcl:place<w.Columns.length:=by rw [h.clen];omega
 refine Tot.upto (body:=λ n x=>Bn n w (place:Int) (w.Columns.getD place default) l0 ⟨A2 w place,l0⟩ x.1 x.2) (A2 w place).length (λ k x=>x.2=(k:Int)/\x.1.length=(A2 w place).length/\∀ (j:Nat) q,j<k->(B0 t w place)[j]? = some q->x.1[j]? = some (CS t (s.drop place) q)) ?_ ?_ _ ⟨rfl,hl0,by omega⟩
 ·rintro k ⟨r,k'⟩ hk ⟨e1,e2,e3⟩
  simp only at e1 e2 e3
  subst e1
  have hv:(A2 w place)[k]? = some (A2 w place)[k]:=JiZ hk
  obtain ⟨j,q,hvj,hq,hr⟩:=h.ok place _ (Ji1 hv)
  have hqk:(B0 t w place)[k]? = some q:=(KZ (h.ok place)).2 ⟨j,by rw [← hvj];exact hv,hq⟩
  have hJ:∀ v,v=CS t (s.drop place) q->∀ r',r'=r.set k v->Tot (λ n=>BI n (k:Int) r') (Rd2 (λ x:List Int×Int=>x.2=((k+1:Nat):Int)/\x.1.length=(A2 w place).length/\∀ (j:Nat) q,j<k+1->(B0 t w place)[j]? = some q->x.1[j]? = some (CS t (s.drop place) q)) (λ w'=>w'=Od w place ((B0 t w place).map (CS t (s.drop place))))):=by
   rintro v rfl r' rfl
   unfold BI
   refine Tot.pure ⟨Cy (by omega),by rw [Jjh];exact e2,λ j' q' hj' hq'=>?_⟩
   by_cases e:k=j'
   ·subst e
    rw [hqk] at hq';cases hq'
    exact Jjb (by omega)
   ·show (r.set k _)[j']? = _
    rw [Jjg e];exact e3 j' q' (by omega) hq'
  unfold Bn
  refine Tot.iteT (Fp hk) (Tot.bindC (CP hv) (Tot.bindC (AX default (by rw [Ji9,Jjh];exact hcl)) (Tot.bindC (AX 0 (show k<r.length by omega)) (Tot.bindC (JR (show k<r.length by omega)) ?_))))
  rw [h.base.ss,h.base.st,h.base.tt,Vu hs hpl,hvj]
  by_cases hd:s.drop place=[]
  ·refine Tot.gE (decide_eq_true hd) (Ev.all λ n=>CP hq) (Tot.gE (decide_eq_true hd) (Ev.all λ n=>Wt n t _) (Tot.ite (λ h=>?_) λ h=>?_))
   ·have ha:Bw t q=true:=by simpa [hd] using h
    refine Tot.bindC (AX 0 (by rw [Jjh];show k<r.length;omega)) (Tot.bindC (JR (by rw [Jjh];show k<r.length;omega)) (hJ 0 ?_ _ ?_))
    ·unfold CS;rw [if_pos ⟨hd,ha⟩]
    ·rw [List.set_set]
   ·have ha:Bw t q=false:=by simpa [hd] using h
    refine hJ (-1) ?_ _ rfl
    unfold CS;rw [if_neg (by rw [ha];simp)]
  ·refine Tot.gF (decide_eq_false hd) (Tot.gF (decide_eq_false hd) (Tot.iteF (by simp [hd]) (hJ (-1) ?_ _ rfl)))
   unfold CS;rw [if_neg (λ h=>hd h.1)]
 ·rintro ⟨r,k'⟩ ⟨e1,e2,e3⟩
  simp only at e1 e2 e3
  subst e1
  unfold Bn
  refine Tot.iteF (by simp) (Tot.pure ?_)
  have hr:r=(B0 t w place).map (CS t (s.drop place)):=by
   have hq:(B0 t w place).length=(A2 w place).length:=by simp [B0]
   refine List.ext_getElem? λ j=>?_
   rcases Nat.lt_or_ge j (A2 w place).length with hj|hj
   ·have hg:(B0 t w place)[j]? = some (B0 t w place)[j]:=JiZ (by omega)
    rw [e3 j _ hj hg,Ji3,hg];rfl
   ·rw [Jjl (by omega),Jjl (by rw [List.length_map];omega)]
  subst hr
  unfold Od
  simp only [Ji9,List.set_set]
  rfl
theorem Yz {place:Nat} (hpl:place<=s.length) {w1:Ad} (h:PI t s place w1) :
  Tot (λ n=>whl (λ (x:(Ad×Int))=>Bo n (place:Int) (w1.Columns.getD place default) x.1 x.2) n (w1,0)) (λ w=>PI t s place w/\(∀ p,A2 w p=A2 w1 p)/\w.Last=w1.Last/\Xk t (s.drop place) (B0 t w place) (Bq w place)):=by
 have hql:=h.qlen hT place
 refine Tot.upto (body:=λ n x=>Bo n (place:Int) (w1.Columns.getD place default) x.1 x.2) (A2 w1 place).length (λ i x=>x.2=(i:Int)/\PI t s place x.1/\(∀ p,A2 x.1 p=A2 w1 p)/\x.1.Last=w1.Last/\∀ (j:Nat) q (k:Nat),j<i->(B0 t w1 place)[j]? = some q->(Ap t q k).2=true->prt t k≠[]->∀ y,s.drop place=prt t k++y->0<=As t (Ap t q k).1 y->∃ v,(Bq x.1 place)[j]? = some v/\0<=v/\v<=As t (Ap t q k).1 y+(cls t k).length) ?_ ?_ _ ⟨rfl,h,λ _=>rfl,rfl,λ j q k h=>by omega⟩
 ·rintro i ⟨w,i'⟩ hi ⟨e1,hP,hC,hL,hR⟩
  simp only at e1 hP hC hL hR
  subst e1
  have hqs:B0 t w place=B0 t w1 place:=by unfold B0;rw [hC]
  obtain ⟨q0,hq⟩:∃ q0,(B0 t w place)[i]? = some q0:=⟨_,JiZ (by rw [hqs,hql.1];exact hi)⟩
  unfold Bo
  refine Tot.iteT (Fp hi) (Tot.bind (Sx hT hs false hpl (Nat.le_refl 13000000) hP hq) ?_)
  rintro ⟨w2,b⟩ hI
  refine Tot.pure ⟨Cy (by omega),hI.pi,λ p=>(hI.cols p).trans (hC p),hI.last.trans hL,λ j q k hj hjq hst hp y hy hc=>?_⟩
  by_cases e:j=i
  ·subst e
   rw [← hqs,hq] at hjq
   cases hjq
   exact hI.rel rfl k trivial hst hp y hy hc
  ·obtain ⟨v,a1,a2,a3⟩:=hR j q k (by omega) hjq hst hp y hy hc
   obtain ⟨v',b1,b2,b3⟩:=hI.low j v a1 a2
   exact ⟨v',b1,b2,by omega⟩
 ·rintro ⟨w,i'⟩ ⟨e1,hP,hC,hL,hR⟩
  simp only at e1 hP hC hL hR
  subst e1
  have hqs:B0 t w place=B0 t w1 place:=by unfold B0;rw [hC]
  unfold Bo
  refine Tot.iteF (So _) (Tot.pure ⟨hP,hC,hL,⟨λ j q k hj hst hp y hy hc=>?_⟩⟩)
  rw [hqs] at hj
  exact hR j q k (by have:=Aj hj;omega) hj hst hp y hy hc
theorem YA {place:Nat} (hpl:place<=s.length) {w1:Ad} (h:PI t s place w1) :
  Tot (λ n=>whl (λ (x:(Ad×Bool×Int))=>Bp n (place:Int) (w1.Columns.getD place default) x.1 x.2.1 x.2.2) n (w1,false,0)) (λ y=>PI t s place y.1/\(∀ p,A2 y.1 p=A2 w1 p)/\y.1.Last=w1.Last/\(∀ (j:Nat) v,(Bq w1 place)[j]? = some v->0<=v->∃ v',(Bq y.1 place)[j]? = some v'/\0<=v'/\v'<=v)/\(y.2=false->y.1=w1/\Jdx t (B0 t w1 place) (Bq w1 place))/\(y.2=true->phi 13000000 (Bq y.1 place)<phi 13000000 (Bq w1 place))):=by
 have hql:=h.qlen hT place
 refine Tot.upto (body:=λ n x=>Bp n (place:Int) (w1.Columns.getD place default) x.1 x.2.1 x.2.2) (A2 w1 place).length (λ i x=>x.2.2=(i:Int)/\PI t s place x.1/\(∀ p,A2 x.1 p=A2 w1 p)/\x.1.Last=w1.Last/\(∀ (j:Nat) v,(Bq w1 place)[j]? = some v->0<=v->∃ v',(Bq x.1 place)[j]? = some v'/\0<=v'/\v'<=v)/\(x.2.1=false->x.1=w1/\∀ (j:Nat) q (k:Nat),j<i->(B0 t w1 place)[j]? = some q->(Ap t q k).2=true->prt t k=[]->∃ (i':Nat) (w':Int),(B0 t w1 place)[i']? = some (Ap t q k).1/\(Bq w1 place)[i']? = some w'/\(0<=w'->∃ v,(Bq w1 place)[j]? = some v/\0<=v/\v<=w'+(cls t k).length))/\(x.2.1=true->phi 13000000 (Bq x.1 place)<phi 13000000 (Bq w1 place))) ?_ ?_ _ ⟨rfl,h,λ _=>rfl,rfl,λ j v hv h0=>⟨v,hv,h0,Int.le_refl v⟩,λ _=>⟨rfl,λ j q k h=>by omega⟩,(λ h=>by cases h)⟩
 ·rintro i ⟨w,b,i'⟩ hi ⟨e1,hP,hC,hL,hlow,hfl,hle⟩
  simp only at e1 hP hC hL hlow hfl hle
  subst e1
  have hqs:B0 t w place=B0 t w1 place:=by unfold B0;rw [hC]
  obtain ⟨q0,hq⟩:∃ q0,(B0 t w place)[i]? = some q0:=⟨_,JiZ (by rw [hqs,hql.1];exact hi)⟩
  unfold Bp
  refine Tot.iteT (Fp hi) (Tot.bind (Sx hT hs true hpl (Nat.le_refl 13000000) hP hq) ?_)
  rintro ⟨w2,b2⟩ hI
  simp only at hI
  refine Tot.pure ⟨Cy (by omega),hI.pi,λ p=>(hI.cols p).trans (hC p),hI.last.trans hL,λ j v hv h0=>?_,λ hb=>?_,λ hb=>?_⟩
  ·obtain ⟨v1,a1,a2,a3⟩:=hlow j v hv h0
   obtain ⟨v2,b1,b2,b3⟩:=hI.low j v1 a1 a2
   exact ⟨v2,b1,b2,by omega⟩
  ·simp only [Bool.or_eq_false_iff] at hb
   obtain ⟨e2,hR⟩:=hfl hb.2
   refine ⟨(hI.fls hb.1).trans e2,λ j q k hj hjq hst hp=>?_⟩
   by_cases e:j=i
   ·subst e
    rw [← hqs,hq] at hjq
    cases hjq
    have:=hI.sil rfl hb.1 k trivial hst hp
    rw [e2] at this
    exact this
   ·exact hR j q k (by omega) hjq hst hp
  ·simp only [Jjj] at hb
   cases hb2:b2 with
   | true=>
    have h1:=hI.less hb2
    cases hbb:b with
    | true=>have:=hle hbb;show phi 13000000 (Bq w2 place)<_;omega
    | false=>rw [(hfl hbb).1] at h1;exact h1
   | false=>
    rw [hI.fls hb2]
    exact hle (hb.resolve_left (by rw [hb2];simp))
 ·rintro ⟨w,b,i'⟩ ⟨e1,hP,hC,hL,hlow,hfl,hle⟩
  simp only at e1 hP hC hL hlow hfl hle
  subst e1
  unfold Bp
  refine Tot.iteF (So _) (Tot.pure ⟨hP,hC,hL,hlow,λ hb=>⟨(hfl hb).1,⟨λ j q k hj hst hp=>(hfl hb).2 j q k (by have:=Aj hj;omega) hj hst hp⟩⟩,hle⟩)
theorem YB {place:Nat} (hpl:place<=s.length) {w1:Ad} (h:PI t s place w1) (h1:Xk t (s.drop place) (B0 t w1 place) (Bq w1 place)) :
  Tot (λ n=>whl (λ (x:Ad)=>BJ n (place:Int) x) n w1) (λ w=>PB t s place w/\(∀ p,A2 w p=A2 w1 p)/\w.Last=w1.Last):=by
 refine Tot.whl (body:=λ n x=>BJ n (place:Int) x) (λ m x=>m=phi 13000000 (Bq x place)/\PI t s place x/\(∀ p,A2 x p=A2 w1 p)/\x.Last=w1.Last/\Xk t (s.drop place) (B0 t x place) (Bq x place)) ?_ _ w1 ⟨rfl,h,λ _=>rfl,rfl,h1⟩
 rintro m w ⟨rfl,hP,hC,hL,hD⟩
 have hcl:place<w.Columns.length:=by rw [hP.clen];omega
 unfold BJ
 refine Tot.bindC (AX default hcl) ?_
 simp only [Ji9,GB]
 refine Tot.bind (YA hT hs hpl hP) ?_
 rintro ⟨w2,b⟩ ⟨g1,g2,g3,g4,g5,g6⟩
 simp only at g1 g2 g3 g4 g5 g6 ⊢
 cases b with
 | false=>
  obtain ⟨e,hD2⟩:=g5 rfl
  subst e
  refine Tot.iteT rfl (Tot.pure ⟨⟨hP.base,hP.clen,hP.nod,hP.ok,hP.all,hP.sort,λ p h1 h2=>?_⟩,hC,hL⟩)
  rcases Nat.eq_or_lt_of_le h1 with rfl|hlt
  ·refine ⟨λ i q hq=>hP.col.exact (hP.qn hT place) hD hD2 hq,λ i v hv=>?_⟩
   have hb:=(hP.col.top hv).2
   have:=hP.qlen hT place
   omega
  ·exact hP.later p hlt h2
 | true=>
  have hqs:B0 t w2 place=B0 t w place:=by unfold B0;rw [g2]
  refine Tot.iteF rfl (Tot.pure ⟨_,g6 rfl,rfl,g1,λ p=>(g2 p).trans (hC p),g3.trans hL,⟨λ j q k hj hst hp y hy hc=>?_⟩⟩)
  rw [hqs] at hj
  obtain ⟨v,a1,a2,a3⟩:=hD.rel j q k hj hst hp y hy hc
  obtain ⟨v',b1,b2,b3⟩:=g4 j v a1 a2
  exact ⟨v',b1,b2,by omega⟩
theorem JbF {w1:Ad} (h:WR t s w1):Tot (λ n=>CJ n w1) (λ w=>PB t s 0 w/\w.Last=w1.Last):=by
 have hlen:=Io hT
 unfold CJ
 rw [h.base.ss]
 refine Tot.bind (R:=λ w=>PB t s 0 w/\w.Last=w1.Last) ?_ (λ w h=>Tot.pure h)
 refine Tot.whl (body:=λ n x=>B7 n x.1 x.2) (λ m x=>x.2=(m:Int)-1/\m<=s.length+1/\PB t s m x.1/\x.1.Last=w1.Last) ?_ (s.length+1) _ ⟨by simp,by omega,h.pb,rfl⟩
 rintro m ⟨w,i'⟩ ⟨e2,e4,e5,e6⟩
 simp only at e2 e5 e6
 subst e2
 unfold B7
 cases m with
 | zero=>exact Tot.iteF (by simp) (Tot.pure ⟨e5,e6⟩)
 | succ i=>
  have ei:((i+1:Nat):Int)-1=(i:Int):=by omega
  rw [ei]
  have hcl:i<w.Columns.length:=by rw [e5.clen];omega
  have hll:(A2 w i).length<=768:=by
   have hsub:∀ v∈A2 w i,v∈(List.range (Ae t).length).map (λ j:Nat=>(j:Int)):=by
    intro v hv
    obtain ⟨j,q,rfl,hq,_⟩:=e5.ok i v hv
    exact List.mem_map.2 ⟨j,List.mem_range.2 (Aj hq),rfl⟩
   have:=(e5.nod i).length_le_of_subset hsub
   rw [List.length_map,List.length_range] at this
   omega
  refine Tot.iteT (by simp) (Tot.bindC (AX default hcl) (Tot.bindC (AX default hcl) (Tot.bindC (OP (by omega) (by show ((A2 w i).length:Int).toNat*8<=_;omega)) ?_)))
  rw [show (w.Columns.getD i default).States=A2 w i from rfl,Ji9,Ji9]
  refine Tot.bindC (AX default (by rw [Jjh];exact hcl)) ?_
  rw [CQ hcl]
  refine Tot.bind (Yy hs (show i<=s.length by omega) e5 hll (List.replicate (A2 w i).length 0) (by simp)) ?_
  rintro w2 rfl
  have hPI:=e5.set (show i<=s.length by omega) (Sw t (s.drop i) _ (B0 t w i))
  have hcl2:i<(Od w i ((B0 t w i).map (CS t (s.drop i)))).Columns.length:=by rw [hPI.clen];omega
  refine Tot.bindC (AX default hcl2) ?_
  simp only [GB]
  refine Tot.bind (Yz hT hs (show i<=s.length by omega) hPI) ?_
  rintro w3 ⟨g1,g2,g3,g4⟩
  refine Tot.bind (YB hT hs (show i<=s.length by omega) g1 g4) ?_
  rintro w4 ⟨k1,k2,k3⟩
  refine Tot.pure ⟨i,by omega,?_,by omega,k1,?_⟩
  ·show Jk .i64 (i:Int) 1=(i:Int)-1
   rw [Xe (by omega) (by omega)]
  ·rw [k3,g3];exact e6
end
end Go.AI
end
section
namespace Go.AI
structure WF (t:Ac) (s:List UInt8) (w:AS) (a e:Int):Prop where
 bad:(DB s).2≠0->w=⟨[],[]⟩/\a=(DB s).1/\e=(DB s).2
 none:(DB s).2=0->As t AD s<0->w=⟨[],[]⟩/\KY t s a/\e=61
 path:(DB s).2=0->0<=As t AD s->e=0/\a=(s.length:Int)/\∃ p,Dk t AD s p/\w=⟨cellsOf t p,p⟩
theorem WF.uniq {t:Ac} {s:List UInt8} {w w':AS} {a a' e e':Int} (h:WF t s w a e) (h':WF t s w' a' e'):w=w'/\a=a'/\e=e':=by
 by_cases h1:(DB s).2=0
 ·by_cases h2:As t AD s<0
  ·obtain ⟨g1,g2,g3⟩:=h.none h1 h2
   obtain ⟨k1,k2,k3⟩:=h'.none h1 h2
   exact ⟨g1.trans k1.symm,g2.uniq k2,g3.trans k3.symm⟩
  ·obtain ⟨g1,g2,p,g3,g4⟩:=h.path h1 (by omega)
   obtain ⟨k1,k2,p',k3,k4⟩:=h'.path h1 (by omega)
   have:=g3.uniq k3
   subst this
   exact ⟨g4.trans k4.symm,g2.trans k2.symm,g1.trans k1.symm⟩
 ·obtain ⟨g1,g2,g3⟩:=h.bad h1
  obtain ⟨k1,k2,k3⟩:=h'.bad h1
  exact ⟨g1.trans k1.symm,g2.trans k2.symm,g3.trans k3.symm⟩
theorem Vv (t:Ac) (q:Aa):(A4 t q).Pairwise (λ a b=>a.Rule<b.Rule):=by
 unfold A4
 refine List.Pairwise.filterMap _ (R:=λ a b=>a<b) (λ a a' hlt b hb b' hb'=>?_) List.pairwise_lt_range
 unfold I1 at hb hb'
 split at hb
 ·split at hb'
  ·cases hb;cases hb';simp only;omega
  ·cases hb'
 ·cases hb
theorem GH.app {t:Ac}:∀ {p:List Int} {q q' q'':Aa} {p':List Int},GH t q p q'->GH t q' p' q''->GH t q (p++p') q''
 | [],q,q',q'',p',h,h'=>by unfold GH at h;subst h;exact h'
 | a::p,q,q',q'',p',h,h'=>⟨h.1,GH.app h.2 h'⟩
theorem Nq (t:Ac) (p:List Int) (k:Int):cellsOf t (p++[k])=cellsOf t p++cls t k:=by simp [cellsOf]
theorem Sy (t:Ac) (p:List Int) (k:Int):CF t (p++[k])=CF t p+(cls t k).length:=by simp [CF,cellsOf]
section
variable {t:Ac} (hT:JT t) {s:List UInt8} (hs:s.length<=4000)
include hT
omit hT in
theorem PB.pi0 {w:Ad} {t:Ac} {s:List UInt8} (h:PB t s 0 w) (p:Nat) (hp:p<=s.length):(∀ (i:Nat) q,(B0 t w p)[i]? = some q->(Bq w p)[i]? = some (As t q (s.drop p)))/\∀ (i:Nat) v,(Bq w p)[i]? = some v->v<=((3072*(s.length-p+1):Nat):Int):=h.later p (by omega) hp
theorem PB.find {w:Ad} (h:PB t s 0 w) {p:Nat} (hp:p<=s.length) {q:Aa} (hr:Rch t s p q) (hq:q∈Ae t):Ev (λ n=>Bx n (w.Columns.getD p default) (BU (Ae t) q)) (As t q (s.drop p))/\As t q (s.drop p)<=((3072*(s.length-p+1):Nat):Int):=by
 obtain ⟨j,hj,hg⟩:=Ca hq
 obtain ⟨d,hd,e⟩:=List.getElem_of_mem (h.all p j q hg hr)
 have hd':(A2 w p)[d]? = some (j:Int):=by rw [← e];exact JiZ hd
 have hqs:(B0 t w p)[d]? = some q:=(KZ (h.ok p)).2 ⟨j,hd',hg⟩
 obtain ⟨k1,k2⟩:=h.pi0 p hp
 have hx:=k1 d q hqs
 have hll:(A2 w p).length<=768:=by
  have hsub:∀ v∈A2 w p,v∈(List.range (Ae t).length).map (λ j:Nat=>(j:Int)):=by
   intro v hv
   obtain ⟨j,q,rfl,hq,_⟩:=h.ok p v hv
   exact List.mem_map.2 ⟨j,List.mem_range.2 (Aj hq),rfl⟩
  have:=(h.nod p).length_le_of_subset hsub
  have:=Io hT
  simp at *;omega
 refine ⟨?_,k2 d _ hx⟩
 rw [hj]
 exact TT (by show (A2 w p).length<=1000;omega) (h.sort p hp) (h.nod p) hd' hx
include hs
theorem YC {w:Ad} (h:PB t s 0 w) {place:Nat} (hpl:place<=s.length) {q:Aa} (hr:Rch t s place q) (hq:q∈Ae t) (hc:0<As t q (s.drop place)) (r0:AS) (h1:r0.Cells.length<=13000000) (h2:r0.Path.length<=13000000) :
  Tot (λ n=>whl (λ (x:Int)=>Bi n w r0 (place:Int) (As t q (s.drop place)) (A4 t q) x) n 0) (λ y=>∃ k:Nat,BK t q (s.drop place) k=As t q (s.drop place)/\(∀ j:Nat,j<k->BK t q (s.drop place) j≠As t q (s.drop place))/\y=.inl (⟨r0.Cells++cls t k,r0.Path++[(k:Int)]⟩,((place+(prt t k).length:Nat):Int),BU (Ae t) (Ap t q k).1,As t (Ap t q k).1 (s.drop (place+(prt t k).length)))):=by
 have hrl:=hT.tab.1
 have hal:(A4 t q).length<=t.Rules.length:=by unfold A4;exact Nat.le_trans (List.length_filterMap_le _ _) (by simp)
 refine Tot.upto (body:=λ n x=>Bi n w r0 (place:Int) (As t q (s.drop place)) (A4 t q) x) (A4 t q).length (λ i x=>x=(i:Int)/\∀ (i':Nat) a (k:Nat),i'<i->(A4 t q)[i']? = some a->a.Rule=(k:Int)->BK t q (s.drop place) k≠As t q (s.drop place)) ?_ ?_ _ ⟨rfl,λ i' a k h=>by omega⟩
 ·rintro i x hi ⟨rfl,hI⟩
  have ha:(A4 t q)[i]? = some (A4 t q)[i]:=JiZ hi
  obtain ⟨k,hk,hst,hae⟩:=Hx.1 (List.getElem_mem hi)
  obtain ⟨p1,p2,p3⟩:=hT.pr hst
  have hJ:BK t q (s.drop place) k≠As t q (s.drop place)->Tot (λ n=>Bh n (i:Int)) (Rd2 (λ x=>x=((i+1:Nat):Int)/\∀ (i':Nat) a (k:Nat),i'<i+1->(A4 t q)[i']? = some a->a.Rule=(k:Int)->BK t q (s.drop place) k≠As t q (s.drop place)) (λ y:(AS×Int×Int×Int)⊕Unit=>∃ k:Nat,BK t q (s.drop place) k=As t q (s.drop place)/\(∀ j:Nat,j<k->BK t q (s.drop place) j≠As t q (s.drop place))/\y=.inl (⟨r0.Cells++cls t k,r0.Path++[(k:Int)]⟩,((place+(prt t k).length:Nat):Int),BU (Ae t) (Ap t q k).1,As t (Ap t q k).1 (s.drop (place+(prt t k).length))))):=by
   intro hne
   unfold Bh
   refine Tot.pure ⟨Cy (by omega),λ i' a k' hi' hia hak=>?_⟩
   by_cases e:i'=i
   ·subst e
    rw [ha,hae] at hia
    cases hia
    simp only at hak
    have:k=k':=by omega
    subst this
    exact hne
   ·exact hI i' a k' (by omega) hia hak
  unfold Bi
  refine Tot.iteT (Fp hi) (Tot.bindC (CP ha) ?_)
  rw [hae]
  refine Tot.bindA (λ n=>Oc hT hs h.base hpl hst n) (Tot.ite (λ hpf=>?_) λ hpf=>?_)
  ·refine hJ λ he=>?_
   have hpf':(prt t k).isPrefixOf (s.drop place)=false:=by simpa using hpf
   obtain ⟨_,⟨y,hy,_⟩,_⟩:=Eo (t:=t) (q:=q) (x:=s.drop place) (k:=(k:Int)) (by omega)
   rw [← Bool.not_eq_true,List.isPrefixOf_iff_prefix,hy] at hpf'
   exact hpf' (List.prefix_append _ _)
  ·have hpf':(prt t k).isPrefixOf (s.drop place)=true:=by simpa using hpf
   have q2:=(Cs hpf').2 hpl
   obtain ⟨f1,f2⟩:=h.find hT q2 (hr.next hst hpf') (Ep hT hq hst)
   have f3:=Rf t (Ap t q k).1 (s.drop (place+(prt t k).length))
   have hrule:=EM (t:=t) (k:=(k:Int)) (by omega) (by omega)
   have hclen:(cls t k).length=(BA t k).Cells.length:=rfl
   have hcb:=(h.find hT hpl hr hq).2
   have hn:BK t q (s.drop place) k=if 0<=As t (Ap t q k).1 (s.drop (place+(prt t k).length)) then As t (Ap t q k).1 (s.drop (place+(prt t k).length))+(cls t k).length else -1:=by
    unfold BK
    rw [List.drop_drop]
    have hpp:prt t k <+: s.drop place:=List.isPrefixOf_iff_prefix.1 hpf'
    by_cases h0:0<=As t (Ap t q k).1 (s.drop (place+(prt t k).length))
    ·rw [if_pos ⟨hst,hpp,h0⟩,if_pos h0]
    ·rw [if_neg (λ hh=>h0 hh.2.2),if_neg h0]
   rw [h.base.tt]
   refine Tot.bindC hrule (Tot.bindC (AX default (by rw [h.clen];omega)) (Tot.bindE f1 ?_))
   have hsub:Jk .i64 (As t q (s.drop place)) ((List.length (BA t k).Cells:Nat):Int)=As t q (s.drop place)-((cls t k).length:Nat):=by rw [Xe (by omega) (by omega)]
   rw [hsub]
   refine Tot.ite (λ hcond=>hJ λ he=>?_) λ hcond=>?_
   ·simp only [Jjj,decide_eq_true_eq,bne_iff_ne,ne_eq] at hcond
    rw [hn] at he
    split at he<;>omega
   ·simp only [Bool.or_eq_false_iff,decide_eq_false_iff_not,bne_eq_false_iff_eq] at hcond
    refine Tot.bindC (Il (by omega)) (Tot.bindC (Il (by simp;omega)) (Tot.pure ⟨k,?_,λ j hj hje=>?_,?_⟩))
    ·rw [hn,if_pos (by omega)];omega
    ·obtain ⟨hsj,_⟩:=Eo (t:=t) (q:=q) (x:=s.drop place) (k:=(j:Int)) (by omega)
     obtain ⟨i',hi',e⟩:=List.getElem_of_mem (Hx.2 ⟨j,by have:=Ch hsj;omega,hsj,rfl⟩:(⟨j,BU (Ae t) (Ap t q j).1⟩:Fu)∈A4 t q)
     have hlt:i'<i:=by
      apply Classical.byContradiction
      intro hge
      rcases Nat.eq_or_lt_of_le (Nat.le_of_not_lt hge) with rfl|hgt
      ·rw [hae] at e
       have:=congrArg Fu.Rule e
       simp only at this
       omega
      ·have:=(List.pairwise_iff_getElem.1 (Vv t q)) i i' hi hi' hgt
       rw [hae,e] at this
       simp only at this
       omega
     exact hI i' _ j hlt (by rw [JiZ hi',e]) rfl hje
    ·rw [← hcond.2]
 ·rintro x ⟨rfl,hI⟩
  exfalso
  obtain ⟨k,hk,he⟩:=Ss hc
  obtain ⟨hst,_⟩:=Eo (t:=t) (q:=q) (x:=s.drop place) (k:=(k:Int)) (by omega)
  obtain ⟨i',hi',e⟩:=List.getElem_of_mem (Hx.2 ⟨k,hk,hst,rfl⟩:(⟨k,BU (Ae t) (Ap t q k).1⟩:Fu)∈A4 t q)
  exact hI i' _ k hi' (by rw [JiZ hi',e]) rfl he
structure TU (t:Ac) (s:List UInt8) (p0:List Int) (place:Nat) (q:Aa):Prop where
 goes:GH t AD p0 q
 text:Da t p0=s.take place
 le:place<=s.length
 greedy:∀ p1,Dk t q (s.drop place) p1->Dk t AD s (p0++p1)
 len:CF t p0+(As t q (s.drop place)).toNat<=(As t AD s).toNat
 plen:p0.length<=CF t p0
 pos:0<=As t q (s.drop place)
omit hs in
theorem TU.next {p0:List Int} {place:Nat} {q:Aa} (h:TU t s p0 place q) {k:Nat} (hc:0<As t q (s.drop place)) (hk:BK t q (s.drop place) k=As t q (s.drop place)) (hm:∀ j:Nat,j<k->BK t q (s.drop place) j≠As t q (s.drop place)):TU t s (p0++[(k:Int)]) (place+(prt t k).length) (Ap t q k).1:=by
 obtain ⟨g1,⟨y,g2,g3⟩,g4,g5⟩:=Eo (t:=t) (q:=q) (x:=s.drop place) (k:=(k:Int)) (by omega)
 rw [List.drop_drop] at g3 g4 g5
 have hpf:(prt t k).isPrefixOf (s.drop place)=true:=by rw [List.isPrefixOf_iff_prefix,g2];exact List.prefix_append _ _
 obtain ⟨q1,q2⟩:=Cs hpf
 obtain ⟨p1,p2,p3⟩:=hT.pr g1
 refine ⟨h.goes.snoc g1,?_,q2 h.le,λ p' hp'=>?_,?_,?_,g4⟩
 ·rw [KX,h.text,List.take_add,q1,List.take_left' rfl]
 ·rw [List.append_assoc]
  exact h.greedy _ (.cons hc hk hm (by rw [List.drop_drop];exact hp'))
 ·rw [Sy];have:=h.len;omega
 ·rw [Sy,List.length_append];have:=h.plen;simp only [List.length_cons,List.length_nil];omega
omit hT hs in
theorem TU.start {t:Ac} {s:List UInt8} (h:0<=As t AD s):TU t s [] 0 AD:=⟨rfl,by simp [Da],by omega,λ p hp=>by simpa using hp,by simp [CF,cellsOf],by simp,h⟩
omit hT hs in
theorem TU.rch {t:Ac} {s:List UInt8} {p0:List Int} {place:Nat} {q:Aa} (h:TU t s p0 place q):Rch t s place q:=⟨h.le,p0,h.goes,h.text⟩
omit hs in
theorem Rch.mem {i:Nat} {q:Aa} (h:Rch t s i q):q∈Ae t:=by
 obtain ⟨j,hj⟩:=Rch.ind (A:=λ _ q=>∃ j:Nat,(Ae t)[j]? = some q) ⟨0,(B9 hT.tab).1.first⟩ (λ i' q k _ hA hst _=>by
  obtain ⟨j,hj⟩:=hA
  obtain ⟨d,_,hd⟩:=Ca (Ep hT (Ji1 hj) hst)
  exact ⟨d,hd⟩) h
 exact Ji1 hj
theorem YD {w:Ad} (h:PB t s 0 w) (h0:0<=As t AD s):Tot (λ n=>B8 n w) (λ r=>∃ p,Dk t AD s p/\r=⟨cellsOf t p,p⟩):=by
 have hf:=(B9 hT.tab).1.first
 have hi0:BU (Ae t) AD=0:=Mf (Pi hT) hf
 have hS:AD∈Ae t:=Ji1 hf
 obtain ⟨f1,f2⟩:=h.find hT (p:=0) (by omega) (.start t s) hS
 rw [hi0,List.drop_zero] at f1
 rw [List.drop_zero] at f2
 unfold B8
 refine Tot.bindC (AX (i:=0) default (by rw [h.clen];omega)) (Tot.bindE f1 ?_)
 refine Tot.bind (R:=λ r=>∃ p,Dk t AD s p/\r=(⟨cellsOf t p,p⟩:AS)) ?_ (λ r hr=>Tot.pure hr)
 refine Tot.whl (body:=λ n x=>Bz n w x.1 x.2.1 x.2.2.1 x.2.2.2) (λ m x=>∃ (p0:List Int) (place:Nat) (q:Aa),TU t s p0 place q/\x=(⟨cellsOf t p0,p0⟩,(place:Int),BU (Ae t) q,As t q (s.drop place))/\m=(As t q (s.drop place)).toNat) ?_ (As t AD s).toNat _ ⟨[],0,AD,.start h0,by rw [hi0,List.drop_zero];rfl,by rw [List.drop_zero]⟩
 rintro m x ⟨p0,place,q,hW,rfl,rfl⟩
 have hq:=hW.rch.mem hT
 unfold Bz
 simp only
 by_cases hc:0<As t q (s.drop place)
 ·obtain ⟨j,hj,hg⟩:=Ca hq
  have hlen:=hW.len
  have hpl:=hW.plen
  rw [hj]
  refine Tot.iteT (by simpa using hc) (Tot.bindC (CP (h.base.arc j q hg)) (Tot.bind (YC hT hs h hW.le hW.rch hq hc ⟨cellsOf t p0,p0⟩ (by show CF t p0<=_;omega) (by show p0.length<=_;omega)) ?_))
  rintro y ⟨k,g1,g2,rfl⟩
  have hW2:=hW.next hT hc g1 g2
  obtain ⟨e1,⟨y,e2,e3⟩,e4,e5⟩:=Eo (t:=t) (q:=q) (x:=s.drop place) (k:=(k:Int)) (by omega)
  rw [List.drop_drop] at e5
  obtain ⟨p1,p2,p3⟩:=hT.pr e1
  refine Tot.pure ⟨(As t (Ap t q k).1 (s.drop (place+(prt t k).length))).toNat,by have:=hW2.pos;omega,p0++[(k:Int)],place+(prt t k).length,(Ap t q k).1,hW2,?_,rfl⟩
  simp only [Nq]
 ·refine Tot.iteF (by simpa using hc) (Tot.pure ⟨p0,?_,rfl⟩)
  have:=hW.greedy [] (.nil (by omega))
  rwa [List.append_nil] at this
theorem YE (hv:Ev (λ n=>E8 n t) true):Tot (λ n=>G4 n t s) (λ y=>WF t s y.1 y.2.1 y.2.2):=by
 have hf:=(B9 hT.tab).1.first
 have hi0:BU (Ae t) AD=0:=Mf (Pi hT) hf
 unfold G4
 refine Tot.bindE (Xf (by omega)) ?_
 by_cases hb:(DB s).2=0
 ·refine Tot.iteF (by rw [hb];rfl) (Tot.bindE hv (Tot.iteF rfl (Tot.bind (JgK hT hs) ?_)))
  rintro w1 ⟨h1,h2,h3⟩
  refine Tot.bind (JbE hT hs h1 h2 h3) λ w2 hR=>Tot.bind (JbF hT hs hR) ?_
  rintro w3 ⟨hP,hL⟩
  have hcol:∀ v,InC w3 0 v->∃ (j:Nat) (q:Aa),v=(j:Int)/\(Ae t)[j]? = some q/\Rch t s 0 q:=hP.ok 0
  have hin0:InC w3 0 (0:Nat):=hP.all 0 0 AD hf (.start t s)
  have hfirst:(A2 w3 0)[0]? = some ((0:Nat):Int):=by
   obtain ⟨d,hd,e⟩:=List.getElem_of_mem hin0
   cases d with
   | zero=>rw [← e];exact JiZ hd
   | succ d=>
    exfalso
    have h4:=(List.pairwise_iff_getElem.1 (hP.sort 0 (by omega))) 0 (d+1) (by omega) hd (by omega)
    obtain ⟨j,q,e1,_,_⟩:=hcol _ (List.getElem_mem (show 0<(A2 w3 0).length by omega))
    have h5:=Ri (hP.nod 0) (a:=0) (b:=d+1) (x:=((0:Nat):Int)) (by rw [JiZ (by omega)];congr 1;omega) (by rw [JiZ hd,e])
    omega
  have hqs:(B0 t w3 0)[0]? = some AD:=(KZ hcol).2 ⟨0,hfirst,hf⟩
  have hx:=(hP.pi0 0 (by omega)).1 0 AD hqs
  rw [List.drop_zero] at hx
  refine Tot.bindC (AX (i:=0) default (by rw [hP.clen];omega)) (Tot.bindC (CP (i:=0) hx) (Tot.ite (λ hc=>?_) λ hc=>?_))
  ·have hneg:As t AD s<0:=by simpa using hc
   refine Tot.pure ⟨λ h=>absurd hb h,λ _ _=>⟨rfl,?_,rfl⟩,λ _ h=>by omega⟩
   show KY t s w3.Last
   rw [hL];exact hR.last
  ·have hpos:0<=As t AD s:=by simpa using hc
   have e0:(⟨w3.T,w3.S,w3.States,w3.Arcs,w3.Columns.set (Int.toNat 0) (w3.Columns.getD 0 default),w3.Last⟩:Ad)=w3:=GB w3 0 default
   rw [e0]
   refine Tot.bind (YD hT hs hP hpos) ?_
   rintro r ⟨p,hp,rfl⟩
   exact Tot.pure ⟨λ h=>absurd hb h,λ _ h=>by omega,λ _ _=>⟨rfl,rfl,p,hp,rfl⟩⟩
 ·refine Tot.iteT (by simpa using hb) (Tot.pure ⟨λ _=>⟨rfl,rfl,rfl⟩,λ h=>absurd h hb,λ h=>absurd h hb⟩)
end
end Go.AI
end
section
namespace Go.AI
section
variable {t:Ac} (hT:JT t) {s:List UInt8} (hs:s.length<=4000)
include hT
theorem JbG {out:List (List Int)} (hR:∀ i,i<=s.length->LJ t s i (out.getD i [])) {i:Nat} (hi:i<=s.length) {q:Aa} (hq:q∈Ae t) (k:Nat):Im t s out i q k=BK t q (s.drop i) k:=by
 unfold Im BK
 by_cases hst:(Ap t q k).2=true
 ·by_cases hb:(prt t k).isPrefixOf (s.drop i)=true
  ·have q2:=(Cs hb).2 hi
   obtain ⟨m,hm,hmg⟩:=Ca (Ep hT hq hst)
   have hv:=(hR _ q2).val m _ hmg
   have hvv:(out.getD (i+(prt t k).length) []).getD m 0=As t (Ap t q k).1 (s.drop (i+(prt t k).length)):=by
    rw [Ji8 (l:=out.getD (i+(prt t k).length) []),hv];rfl
   rw [if_pos ⟨hst,hb⟩,hm,Ji9,hvv,List.drop_drop]
   have hpp:prt t k <+: s.drop i:=List.isPrefixOf_iff_prefix.1 hb
   by_cases h0:0<=As t (Ap t q k).1 (s.drop (i+(prt t k).length))
   ·rw [if_neg (by omega),if_pos ⟨hst,hpp,h0⟩]
   ·rw [if_pos (by omega),if_neg (λ hh=>h0 hh.2.2)]
  ·rw [if_neg (λ hh=>hb hh.2),if_neg (λ hh=>hb (List.isPrefixOf_iff_prefix.2 hh.2.1))]
 ·rw [if_neg (λ hh=>hst hh.1),if_neg (λ hh=>hst hh.1)]
theorem WG {q:Aa} {x:List UInt8} (hc:0<As t q x):∃ k:Nat,k<t.Rules.length/\BK t q x k=As t q x/\∀ j:Nat,j<k->BK t q x j≠As t q x:=by
 obtain ⟨p,hp⟩:=Su hT.one (As t q x).toNat q x (by omega)
 cases hp with
 | nil h=>omega
 | cons h hk hm hp=>
  obtain ⟨g1,_⟩:=Eo (t:=t) (q:=q) (x:=x) (by rw [hk];omega)
  have:=Ch g1
  exact ⟨_,by omega,hk,hm⟩
include hs
theorem WH {out:List (List Int)} (hol:out.length=s.length+1) (hR:∀ i,i<=s.length->LJ t s i (out.getD i [])) {i:Nat} (hi:i<=s.length) {q:Aa} (hq:q∈Ae t) (w:BM) {k:Nat} (hkl:k<t.Rules.length) (hk:BK t q (s.drop i) k=As t q (s.drop i)) (hm:∀ j:Nat,j<k->BK t q (s.drop i) j≠As t q (s.drop i)) :
  Tot (λ n=>whl (λ (x:Int)=>Em n t out (Ae t) w ⟨s,i,q,Ae t⟩ (As t q (s.drop i)) x) n 0) (λ y=>y=(k:Int)):=by
 have haft:∀ j:Nat,j<=k->Ev (λ n=>Gb n t ⟨s,i,q,Ae t⟩ j out) (BK t q (s.drop i) j):=λ j hj=>by
  rw [← JbG hT hR hi hq]
  exact Rg hT hs hi hol (λ i' _ h2=>Nm hT hs (hR i' h2)) hq (by omega)
 have hrl:=hT.tab.1
 refine Tot.upto (body:=λ n x=>Em n t out (Ae t) w ⟨s,i,q,Ae t⟩ (As t q (s.drop i)) x) k (λ j x=>x=(j:Int)) ?_ ?_ _ rfl
 ·rintro j x hj rfl
  unfold Em
  refine Tot.bindE (haft j (by omega)) (Tot.iteT (by simpa using hm j hj) (Tot.pure (Cy (by omega))))
 ·rintro x rfl
  unfold Em
  exact Tot.bindE (haft k (by omega)) (Tot.iteF (by simpa using hk) (Tot.pure rfl))
theorem YF:Tot (λ n=>Lc n t s) (λ y=>WF t s y.W y.At y.E):=by
 have hf:=(B9 hT.tab).1.first
 have hi0:BU (Ae t) AD=0:=Mf (Pi hT) hf
 have hrl:=hT.tab.1
 have hlen:=Io hT
 unfold Lc
 refine Tot.bindE (Vh (by omega)) ?_
 by_cases hb:(DB s).2=0
 ·refine Tot.iteF (by rw [hb];rfl) (Tot.bind (OR hT hs) ?_)
  rintro out ⟨hol,hR⟩
  have h00:(out.getD 0 [])[0]? = some (As t AD s):=(hR 0 (by omega)).val 0 _ hf
  refine Tot.bindC (AX (i:=0) [] (by omega)) (Tot.bindC (CP (i:=0) h00) (Tot.ite (λ hc=>?_) λ hc=>?_))
  ·have hneg:As t AD s<0:=by simpa using hc
   refine Tot.bind (WD hT hs) λ a ha=>Tot.pure ⟨λ h=>absurd hb h,λ _ _=>⟨rfl,ha,rfl⟩,λ _ h=>by omega⟩
  ·have hpos:0<=As t AD s:=by simpa using hc
   refine Tot.bindE (KU hT.tab) (Tot.bindC (y:=AD) rfl (Tot.bind (R:=λ y:BM=>y.At=(s.length:Int)/\y.E=0/\∃ p,Dk t AD s p/\y.W=⟨cellsOf t p,p⟩) ?_ ?_))
   ·refine Tot.whl (body:=λ n x=>GS n t out (Ae t) x.1 x.2) (λ m x=>∃ (p0:List Int) (place:Nat) (q:Aa),TU t s p0 place q/\x=(⟨⟨cellsOf t p0,p0⟩,(s.length:Int),0⟩,⟨s,(place:Int),q,Ae t⟩)/\m=(As t q (s.drop place)).toNat) ?_ (As t AD s).toNat _ ⟨[],0,AD,.start hpos,rfl,by rw [List.drop_zero]⟩
    rintro m x ⟨p0,place,q,hW,rfl,rfl⟩
    have hq:=hW.rch.mem hT
    have hple:=hW.le
    obtain ⟨j,hj,hg⟩:=Ca hq
    have hv:=(hR place hple).val j _ hg
    unfold GS
    simp only
    refine Tot.bindC (AX [] (by omega)) (Tot.bindE (IW (l:=Ae t) (s:=q) (by omega)) ?_)
    rw [hj]
    refine Tot.bindC (CP hv) (Tot.ite (λ hc=>?_) λ hc=>?_)
    ·have hc:0<As t q (s.drop place):=by simpa using hc
     obtain ⟨k,hkl,hk,hm⟩:=WG hT hc
     have hW2:=hW.next hT hc hk hm
     obtain ⟨e1,⟨y,e2,e3⟩,e4,e5⟩:=Eo (t:=t) (q:=q) (x:=s.drop place) (k:=(k:Int)) (by omega)
     rw [List.drop_drop] at e5
     obtain ⟨p1,p2,p3⟩:=hT.pr e1
     have hrule:=EM (t:=t) (k:=(k:Int)) (by omega) (by omega)
     have htop:=Nm hT hs (hR 0 (by omega))
     have hst:=htop.2 0 _ h00
     have hlen:=hW.len
     have hpl:=hW.plen
     have hlC:CF t p0=(cellsOf t p0).length:=rfl
     have hW2l:=hW2.le
     refine Tot.bindC (AX [] (by omega)) (Tot.bindE (IW (l:=Ae t) (s:=q) (by omega)) ?_)
     rw [hj]
     refine Tot.bindC (CP hv) (Tot.bind (WH hT hs hol hR hple hq _ hkl hk hm) ?_)
     rintro y rfl
     refine Tot.bindC (Il (by simp;omega)) (Tot.bindC hrule (Tot.bindC (Il (by simp only [cls] at *;omega)) (Tot.bindA (λ n=>Nd hT.tab.short n q k) (Tot.bindC hrule (Tot.pure ⟨(As t (Ap t q k).1 (s.drop (place+(prt t k).length))).toNat,by have:=hW2.pos;omega,p0++[(k:Int)],place+(prt t k).length,(Ap t q k).1,hW2,?_,rfl⟩)))))
     have e6:Az .i64 (place:Int) ((List.length (BA t k).Print:Nat):Int)=((place+(prt t k).length:Nat):Int):=by rw [Hu]<;>simp only [prt] at*<;> omega
     rw [Nq,e6]
    ·refine Tot.pure ⟨rfl,rfl,p0,?_,rfl⟩
     have h0:¬ 0<As t q (s.drop place):=by simpa using hc
     have:=hW.greedy [] (.nil (by omega))
     rwa [List.append_nil] at this
   ·rintro y ⟨h1,h2,h3⟩
    exact Tot.pure ⟨λ h=>absurd hb h,λ _ h=>by omega,λ _ _=>⟨h2,h1,h3⟩⟩
 ·refine Tot.iteT (by simpa using hb) (Tot.pure ⟨λ _=>⟨rfl,rfl,rfl⟩,λ h=>absurd h hb,λ h=>absurd h hb⟩)
end
end Go.AI
end
section
namespace Go.AI
def Sz (t:Ac) (s:List UInt8):Prop:=s.length<=12/\∃ p:List Int,(∀ k∈p,0<=k/\k<t.Rules.length)/\Da t p=s
theorem WI {t:Ac} (ht:t.Rules.length<1000000) (hpr:∀ r∈t.Rules,r.Print.length<=1000) {l:List Int} (hl:∀ a∈l,U8 a):Tot (λ n=>HP n t l) (Sz t):=by
 unfold HP
 refine Tot.bind (R:=Sz t) ?_ λ y hy=>Tot.pure hy
 refine Tot.upto (body:=λ n x=>D7 n t l x.1 x.2) (min (min l.length 12) (t.Rules.length*13)) (λ i x=>x.2=(i:Int)/\Sz t x.1) ?_ ?_ _ ⟨rfl,by simp,[],by simp,rfl⟩
 ·rintro i ⟨s,x⟩ hi ⟨h1,h2,p,h3,h4⟩
  simp only at h1 h2 h4
  subst h1
  unfold D7
  obtain ⟨a,ham,hai⟩:=Md (l:=l) (i:=(i:Int)) (by omega) (by omega)
  have hu:=hl a ham
  have hw:IntKind.i64.wrap a=a:=w64 (by unfold U8 at hu;omega) (by unfold U8 at hu;omega)
  have hrr:=Ee (a:=a) (m:=((t.Rules.length:Nat):Int)) hu.1 (by omega)
  have hrule:=EM (t:=t) hrr.1 hrr.2
  have hp:=hpr _ (EZ (t:=t) hrr.1 hrr.2)
  refine Tot.iteT (by simp;omega) (Tot.bindC hai (Tot.bindC (DL (by simp;intro h;rw [h] at hi;simp at hi)) ?_))
  rw [hw]
  refine Tot.bindC hrule ?_
  have hJ:∀ s',Sz t s'->Tot (λ n=>D6 n (i:Int) s') (Rd2 (λ x=>x.2=((i+1:Nat):Int)/\Sz t x.1) (Sz t)):=λ s' hs'=>by
   unfold D6
   exact Tot.pure ⟨Cy (by omega),hs'⟩
  have e1:Az .i64 ((s.length:Nat):Int) ((List.length (BA t (Br a ((t.Rules.length:Nat):Int))).Print:Nat):Int)=((s.length+(BA t (Br a ((t.Rules.length:Nat):Int))).Print.length:Nat):Int):=by rw [Hu]<;>omega
  simp only [e1]
  refine Tot.ite (λ hc=>Tot.bindC (Jbe (by simp only [decide_eq_true_eq] at hc;omega)) (hJ _ ⟨by simp only [decide_eq_true_eq] at hc;rw [List.length_append];omega,p++[Br a ((t.Rules.length:Nat):Int)],?_,by simp [KX,h4]⟩)) (λ hc=>hJ _ ⟨h2,p,h3,h4⟩)
  intro k hk
  rcases List.mem_append.1 hk with hk|hk
  ·exact h3 k hk
  ·cases List.mem_singleton.1 hk;exact hrr
 ·rintro ⟨s,x⟩ ⟨h1,h2⟩
  simp only at h1 h2
  subst h1
  unfold D7
  refine Tot.iteF ?_ (Tot.pure h2)
  simp
  intro h3 h4
  have:t.Rules.length*13<=12\/¬ t.Rules.length*13<=12:=Classical.em _
  apply Classical.byContradiction
  intro h5
  have:0<t.Rules.length:=List.length_pos_iff.2 h5
  omega
theorem FG.six {t:Ac} (h:FG t):JT t:=⟨h.tab,λ r hr=>by have:=Me (h.sound r hr);exact ⟨by omega,by omega⟩⟩
theorem FG.validT {t:Ac} (h:FG t):Ev (λ n=>E8 n t) true:=by
 have:=Yr h.small
 rwa [h.valid] at this
end Go.AI
end
section
namespace Go.AI
theorem Oe {t:Ac} (hc:∀ r∈t.Rules,1<=r.Cells.length):∀ {p:List Int},(∀ k∈p,0<=k/\k<t.Rules.length)->p.length<=CF t p
 | [],_=>by simp
 | k::p,h=>by
  have h1:=h k (by simp)
  have h2:=hc _ (EZ h1.1 h1.2)
  have h3:=Oe (t:=t) hc (p:=p) λ a ha=>h a (by simp [ha])
  rw [DM,List.length_cons]
  simp only [cls];omega
theorem Way.mem {t:Ac} {q:Aa} {x:List UInt8} {p:List Int} (h:Way t q x p):∀ k∈p,0<=k/\k<t.Rules.length:=by
 obtain ⟨⟨q',h1,_⟩,_⟩:=h
 exact h1.mem
section
variable {t:Ac} (hT:JT t) {s:List UInt8} (hs:s.length<=4000)
include hT hs
theorem Vw:As t AD s<=13000000:=by
 obtain ⟨out,⟨_,hR⟩,_⟩:=OR hT hs
 have hf:=(B9 hT.tab).1.first
 exact ((Nm hT hs (hR 0 (by omega))).2 0 _ ((hR 0 (by omega)).val 0 _ hf)).2
theorem WF.size {w:AS} {a e:Int} (h:WF t s w a e):w.Cells.length<=13000000/\w.Path.length<=13000000:=by
 by_cases h1:(DB s).2=0
 ·by_cases h2:As t AD s<0
  ·obtain ⟨rfl,_⟩:=h.none h1 h2
   simp
  ·obtain ⟨_,_,p,g3,rfl⟩:=h.path h1 (by omega)
   have g4:=g3.way hT.one (by omega)
   have g5:=Oe hT.one g4.1.mem
   have g6:=Vw hT hs
   have:CF t p=(cellsOf t p).length:=rfl
   simp only;omega
 ·obtain ⟨rfl,_⟩:=h.bad h1
  simp
end
theorem Way.last {t:Ac} {s:List UInt8} {p:List Int} (h:Way t AD s p):KY t s (s.length:Int):=by
 obtain ⟨⟨q,h1,h2⟩,h3⟩:=h
 refine ⟨⟨s.length,rfl,q,⟨by omega,p,h1,by rw [h3,List.take_length]⟩,?_⟩,λ i ⟨q,hq,_⟩=>by have:=hq.1;omega⟩
 unfold Bw at h2
 simp only [Ji0] at h2
 unfold Dl
 rw [if_neg (by omega)]
 exact h2.2
end Go.AI
end
section
namespace Go.AI
def Ip (t:Ac):List Int->Nat->Nat->Option Nat
 | [],_,_=>none
 | k::p,c,a=>if c<(cls t k).length then some a else Ip t p (c-(cls t k).length) (a+(prt t k).length)
theorem Rj {t:Ac}:∀ (p:List Int) (c a:Nat),c<CF t p->∃ r,Ip t p c a=some r:=by
 intro p
 induction p with
 | nil=>intro c a h;simp [CF,cellsOf] at h
 | cons k p ih=>
  intro c a h
  unfold Ip
  split
  ·exact ⟨a,rfl⟩
  ·rw [DM] at h
   exact ih _ _ (by omega)
structure Rk (t:Ac) (s:List UInt8) (c:Int) (y:Int×Int):Prop where
 bad:(DB s).2≠0->y=(0,(DB s).2)
 no:(DB s).2=0->As t AD s<0->y=(0,61)
 out:(DB s).2=0->0<=As t AD s->∀ p,Dk t AD s p->(c<0\/((CF t p:Nat):Int)<=c)->y=(0,310)
 at_:(DB s).2=0->0<=As t AD s->∀ p,Dk t AD s p->0<=c->c<((CF t p:Nat):Int)->∃ r,Ip t p c.toNat 0=some r/\y=((r:Int),0)
section
variable {t:Ac} (hT:JT t) {s:List UInt8} (hs:s.length<=4000)
include hT hs
omit hs in
theorem Rk.uniq {c:Int} {y y':Int×Int} (h:Rk t s c y) (h':Rk t s c y'):y=y':=by
 by_cases h1:(DB s).2=0
 ·by_cases h2:As t AD s<0
  ·rw [h.no h1 h2,h'.no h1 h2]
  ·obtain ⟨p,hp⟩:=Su hT.one (As t AD s).toNat AD s (by omega)
   by_cases h3:c<0\/((CF t p:Nat):Int)<=c
   ·rw [h.out h1 (by omega) p hp h3,h'.out h1 (by omega) p hp h3]
   ·obtain ⟨r,e1,e2⟩:=h.at_ h1 (by omega) p hp (by omega) (by omega)
    obtain ⟨r',e1',e2'⟩:=h'.at_ h1 (by omega) p hp (by omega) (by omega)
    rw [e1] at e1';cases e1';rw [e2,e2']
 ·rw [h.bad h1,h'.bad h1]
theorem SA {p:List Int} (hp:Dk t AD s p) (h0:0<=As t AD s):(∀ k∈p,0<=k/\k<t.Rules.length/\1<=(cls t k).length/\(cls t k).length<=4/\(prt t k).length<=3)/\Da t p=s/\CF t p<=13000000/\p.length<=13000000:=by
 obtain ⟨hw,hc⟩:=hp.way hT.one h0
 have h1:=hw.mem
 have h2:=Vw hT hs
 have h3:=Oe hT.one h1
 refine ⟨λ k hk=>?_,hw.2,by omega,by omega⟩
 obtain ⟨a,b⟩:=h1 k hk
 have hm:=EZ a b
 exact ⟨a,b,(hT.cl _ hm).1,(hT.cl _ hm).2,(hT.tab.2 _ hm).2.2.2.2⟩
theorem Vx {p:List Int} (hp:Dk t AD s p) (h0:0<=As t AD s) (e:BM) (he:e.W.Path=p) {c r:Nat} (hr:Ip t p c 0=some r) (hc:c<CF t p) :
  Tot (λ n=>whl (λ (x:(Int×Int×Int))=>EI n t s (c:Int) e x.1 x.2.1 x.2.2) n (0,0,0)) (λ y=>y=.inr ((r:Int),0)):=by
 obtain ⟨hk,htx,hl1,hl2⟩:=SA hT hs hp h0
 refine Tot.upto (body:=λ n (x:Int×Int×Int)=>EI n t s (c:Int) e x.1 x.2.1 x.2.2) p.length (λ i x=>∃ a d:Nat,x=((a:Int),(d:Int),(i:Int))/\d<=c/\c-d<CF t (p.drop i)/\Ip t (p.drop i) (c-d) a=some r/\a<=3*i/\d<=4*i) ?_ ?_ _ ⟨0,0,rfl,by omega,by simpa using hc,by simpa using hr,by omega,by omega⟩
 ·rintro i x hi ⟨a,d,rfl,hd,hlt,hpl,ha4,hd4⟩
  obtain ⟨k0,k1,k2,k3,k4⟩:=hk _ (List.getElem_mem hi)
  have hcl:(BA t p[i]).Cells.length=(cls t p[i]).length:=rfl
  have hpr:(BA t p[i]).Print.length=(prt t p[i]).length:=rfl
  rw [JS hi] at hpl hlt
  unfold EI
  refine Tot.iteT (by rw [he];exact Fp hi) (Tot.bindC (by rw [he];exact KT hi) (Tot.bindC (EM k0 k1) ?_))
  dsimp only
  rw [Hu (by omega) (by omega),Hu (by omega) (by omega),Cy (by omega)]
  unfold Ip at hpl
  rw [DM] at hlt
  by_cases hx:c-d<(cls t p[i]).length
  ·rw [if_pos hx] at hpl;cases hpl
   exact Tot.iteT (by simp only [decide_eq_true_eq];omega) (Tot.pure rfl)
  ·rw [if_neg hx] at hpl
   refine Tot.iteF (by simp only [decide_eq_false_iff_not];omega) (Tot.pure ⟨a+(prt t p[i]).length,d+(cls t p[i]).length,?_,by omega,?_,?_,by omega,by omega⟩)
   ·simp only [Int.natCast_add]
   ·rw [← Nat.sub_sub];omega
   ·rw [← Nat.sub_sub];exact hpl
 ·rintro x ⟨a,d,rfl,hd,hlt,_⟩
  simp [CF,cellsOf] at hlt
theorem YG (c:Int) (hc:c<4611686018427387904):Tot (λ n=>Jo n t s c) (Rk t s c):=by
 unfold Jo
 refine Tot.bind (YF hT hs) ?_
 rintro y hW
 by_cases h1:(DB s).2=0
 ·by_cases h2:As t AD s<0
  ·obtain ⟨_,_,he⟩:=hW.none h1 h2
   refine Tot.iteT (by rw [he];rfl) (Tot.pure ⟨λ h=>absurd h1 h,λ _ _=>by rw [he],λ _ h=>by omega,λ _ h=>by omega⟩)
  ·have h2:0<=As t AD s:=by omega
   obtain ⟨he,_,p,hp,hw⟩:=hW.path h1 h2
   have hlen:(y.W.Cells.length:Nat)=CF t p:=by rw [hw];rfl
   refine Tot.iteF (by rw [he];rfl) ?_
   by_cases h3:c<0\/((CF t p:Nat):Int)<=c
   ·refine Tot.iteT (by rw [hlen];simp only [ge_iff_le,Jjj,decide_eq_true_eq];exact h3) (Tot.pure ⟨λ h=>absurd h1 h,λ _ h=>by omega,λ _ _ _ _ _=>rfl,λ _ _ p' hp' h4 h5=>by have:=hp.uniq hp';subst this;omega⟩)
   ·refine Tot.iteF (by rw [hlen];simp only [ge_iff_le,Bool.or_eq_false_iff,decide_eq_false_iff_not];omega) ?_
    obtain ⟨c,rfl⟩:∃ m:Nat,c=m:=⟨c.toNat,by omega⟩
    obtain ⟨r,hr⟩:=Rj (t:=t) p c 0 (by omega)
    refine Tot.bind (Vx hT hs hp h2 y (by rw [hw]) hr (by omega)) ?_
    rintro _ rfl
    exact Tot.pure ⟨λ h=>absurd h1 h,λ _ h=>by omega,λ _ _ p' hp' h4=>by have:=hp.uniq hp';subst this;omega,λ _ _ p' hp' h4 h5=>by have:=hp.uniq hp';subst this;exact ⟨r,by simpa using hr,rfl⟩⟩
 ·obtain ⟨_,_,he⟩:=hW.bad h1
  refine Tot.iteT (by rw [he];simpa using h1) (Tot.pure ⟨λ _=>by rw [he],λ h=>absurd h h1,λ h=>absurd h h1,λ h=>absurd h h1⟩)
omit hT hs in
theorem TV {k:Int} (e:Ac) (o:List Int) {a c d:Nat} (hd:d<=c) (hc:c<=13000000) (ho:(cls t k).length<=4) (pl i:Int) :
  Tot (λ n=>whl (λ (x:(Int×Int×Int))=>Cr n e (c:Int) o (a:Int) i k (BA t k) x.1 x.2.1 x.2.2) n (pl,(d:Int),0)) (λ y=>if c-d<(cls t k).length then y=.inr (2,(a:Int),(c:Int)) else ∃ pl',y=.inl (pl',((d+(cls t k).length:Nat):Int))):=by
 refine Tot.upto (body:=λ n (x:Int×Int×Int)=>Cr n e (c:Int) o (a:Int) i k (BA t k) x.1 x.2.1 x.2.2) (cls t k).length (λ j x=>∃ pl',x=(pl',((d+j:Nat):Int),(j:Int))/\d+j<=c) ?_ ?_ _ ⟨pl,rfl,hd⟩
 ·rintro j x hj ⟨pl',rfl,hle⟩
  unfold Cr
  refine Tot.iteT (Fp hj) ?_
  unfold Gs
  by_cases he:d+j=c
  ·subst he
   simp only [beq_self_eq_true,if_true]
   refine Tot.bindC rfl (Tot.iteT rfl (Tot.pure ?_))
   show if d+j-d<(cls t k).length then _ else _
   rw [if_pos (by omega)]
  ·have:((((d+j:Nat):Int))==(c:Int))=false:=by simp only [beq_eq_false_iff_ne,ne_eq];omega
   simp only [this,Jjc,if_false]
   refine Tot.bindC rfl (Tot.iteF rfl (Tot.pure ⟨pl',?_,by omega⟩))
   simp only
   rw [Cy (by omega),Cy (by omega),Nat.add_assoc]
 ·rintro x ⟨pl',rfl,hle⟩
  unfold Cr
  refine Tot.iteF (So _) (Tot.pure ?_)
  show if c-d<(cls t k).length then _ else _
  split
  ·omega
  ·exact ⟨pl',rfl⟩
theorem Vy {p:List Int} (hp:Dk t AD s p) (h0:0<=As t AD s) {c r:Nat} (hr:Ip t p c 0=some r) (hc:c<CF t p) :
  Tot (λ n=>Fb n t (c:Int) 0 0 p) (λ y=>y=(2,(r:Int),(c:Int))):=by
 obtain ⟨hk,htx,hl1,hl2⟩:=SA hT hs hp h0
 unfold Fb
 refine Tot.bind (R:=λ y=>y=.inr (2,(r:Int),(c:Int))) ?_ (λ y hy=>by subst hy;exact Tot.pure rfl)
 refine Tot.upto (body:=λ n (x:Int×Int×Int×Int)=>De n t (c:Int) p x.1 x.2.1 x.2.2.1 x.2.2.2) p.length (λ i x=>∃ (pl:Int) (a d:Nat),x=(pl,(d:Int),(a:Int),(i:Int))/\d<=c/\c-d<CF t (p.drop i)/\Ip t (p.drop i) (c-d) a=some r/\a<=3*i/\d<=4*i) ?_ ?_ _ ⟨0,0,0,rfl,by omega,by simpa using hc,by simpa using hr,by omega,by omega⟩
 ·rintro i x hi ⟨pl,a,d,rfl,hd,hlt,hpl,ha4,hd4⟩
  obtain ⟨k0,k1,k2,k3,k4⟩:=hk _ (List.getElem_mem hi)
  have hcl:(BA t p[i]).Cells.length=(cls t p[i]).length:=rfl
  have hpr:(BA t p[i]).Print.length=(prt t p[i]).length:=rfl
  rw [JS hi] at hpl hlt
  unfold De
  refine Tot.iteT (Fp hi) (Tot.bindC (KT hi) (Tot.bindC (EM k0 k1) ?_))
  refine Tot.bind (TV t p hd (by omega) k3 pl i) ?_
  intro y hy
  unfold Ip at hpl
  rw [DM] at hlt
  by_cases hx:c-d<(cls t p[i]).length
  ·rw [if_pos hx] at hpl hy;cases hpl;subst hy
   exact Tot.pure rfl
  ·rw [if_neg hx] at hpl hy
   obtain ⟨pl',rfl⟩:=hy
   refine Tot.bindC (EM k0 k1) (Tot.pure ⟨pl',a+(prt t p[i]).length,d+(cls t p[i]).length,?_,by omega,?_,?_,by omega,by omega⟩)
   ·simp only
    rw [Hu (by omega) (by omega),Cy (by omega)]
    simp only [Int.natCast_add]
   ·rw [← Nat.sub_sub];omega
   ·rw [← Nat.sub_sub];exact hpl
 ·rintro x ⟨pl,a,d,rfl,hd,hlt,_⟩
  simp [CF,cellsOf] at hlt
theorem YH (hv:Ev (λ n=>E8 n t) true) (c:Int):Tot (λ n=>CK n t s c) (Rk t s c):=by
 unfold CK
 refine Tot.bind (YE hT hs hv) ?_
 rintro y hW
 by_cases h1:(DB s).2=0
 ·by_cases h2:As t AD s<0
  ·obtain ⟨_,_,he⟩:=hW.none h1 h2
   refine Tot.iteT (by rw [he];rfl) (Tot.pure ⟨λ h=>absurd h1 h,λ _ _=>by rw [he],λ _ h=>by omega,λ _ h=>by omega⟩)
  ·have h2:0<=As t AD s:=by omega
   obtain ⟨he,_,p,hp,hw⟩:=hW.path h1 h2
   have hlen:(y.1.Cells.length:Nat)=CF t p:=by rw [hw];rfl
   refine Tot.iteF (by rw [he];rfl) ?_
   by_cases h3:c<0\/((CF t p:Nat):Int)<=c
   ·refine Tot.iteT (by rw [hlen];simp only [ge_iff_le,Jjj,decide_eq_true_eq];exact h3) (Tot.pure ⟨λ h=>absurd h1 h,λ _ h=>by omega,λ _ _ _ _ _=>rfl,λ _ _ p' hp' h4 h5=>by have:=hp.uniq hp';subst this;omega⟩)
   ·refine Tot.iteF (by rw [hlen];simp only [ge_iff_le,Bool.or_eq_false_iff,decide_eq_false_iff_not];omega) ?_
    obtain ⟨c,rfl⟩:∃ m:Nat,c=m:=⟨c.toNat,by omega⟩
    obtain ⟨r,hr⟩:=Rj (t:=t) p c 0 (by omega)
    have hpath:y.1.Path=p:=by rw [hw]
    rw [hpath]
    refine Tot.bindC rfl (Tot.bind (Vy hT hs hp h2 hr (by omega)) ?_)
    rintro _ rfl
    refine Tot.iteF rfl (Tot.iteT rfl ?_)
    exact Tot.pure ⟨λ h=>absurd h1 h,λ _ h=>by omega,λ _ _ p' hp' h4=>by have:=hp.uniq hp';subst this;omega,λ _ _ p' hp' h4 h5=>by have:=hp.uniq hp';subst this;exact ⟨r,by simpa using hr,rfl⟩⟩
 ·obtain ⟨_,_,he⟩:=hW.bad h1
  refine Tot.iteT (by rw [he];simpa using h1) (Tot.pure ⟨λ _=>by rw [he],λ h=>absurd h h1,λ h=>absurd h h1,λ h=>absurd h h1⟩)
end
end Go.AI
end
section
namespace Go.AI
theorem Vz:Ev (λ n=>Gt n) true:=Ev.of (λ n m h=>Q6 h) (n:=60) (by kernel_rfl)
theorem Jii {x:KB} (hx:Nj x) {l:List Int} (hl:∀ a∈l,U8 a) (s0:List UInt8):Ev (λ n=>BQ n x l s0) true:=by
 obtain ⟨t,ht,hE⟩:=JcU hx
 have h6:=ht.six
 have hrl:=h6.tab.1
 refine Tot.ev ?_
 unfold BQ
 refine Tot.bindE Vz (Tot.bindE hE (Tot.bind (WI (t:=t) (by omega) (λ r hr=>by have:=(h6.tab.2 r hr).2.2.2.2;omega) hl) λ r2 h2=>?_))
 have key:∀ s3:List UInt8,s3.length<=8->Tot (λ n=>A9 n true t [r2,s3]) (λ y=>y=true):=by
  intro s3 h3
  have hall:∀ s∈[r2,s3],s.length<=4000:=by
   intro s hs
   simp only [List.mem_cons,List.not_mem_nil,or_false] at hs
   have:=h2.1
   rcases hs with rfl|rfl<;>omega
  unfold A9
  refine Tot.bind (R:=λ y:Unit⊕Bool=>y=.inl ()) ?_ (λ y hy=>by subst hy;exact Tot.pure rfl)
  refine Tot.upto (body:=λ n i=>A8 n true t [r2,s3] i) 2 (λ i x=>x=(i:Int)) ?_ ?_ _ rfl
  ·rintro i x hi rfl
   have hsl:=hall _ (List.getElem_mem (l:=[r2,s3]) (n:=i) (by simpa using hi))
   have hix:idx ([r2,s3]:List (List UInt8)) (i:Int)=some _:=KT (l:=[r2,s3]) (i:=i) (by simpa using hi)
   unfold A8
   refine Tot.iteT (by simp;omega) (Tot.bind (R:=λ y:Unit⊕Bool=>y=.inl ()) ?_ (λ y hy=>by subst hy;exact Tot.pure (Cy (by omega))))
   refine Tot.upto (body:=λ n c=>A7 n true t [r2,s3] (i:Int) c) 16 (λ j x=>x=(j:Int)-1) ?_ ?_ _ (by rfl)
   ·rintro j x hj rfl
    unfold A7
    refine Tot.iteT (by simp only [decide_eq_true_eq];omega) (Tot.bindC hix (Tot.bind (YH h6 hsl ht.validT _) λ y hy=>Tot.bindC hix (Tot.bind (YG h6 hsl _ (by omega)) λ y' hy'=>?_)))
    have:=hy.uniq h6 hy'
    subst this
    refine Tot.iteF (by simp) (Tot.pure ?_)
    show Az .i64 ((j:Int)-1) 1=(((j+1:Nat):Int))-1
    rw [Hu (by omega) (by omega)];omega
   ·rintro x rfl
    unfold A7
    exact Tot.iteF rfl (Tot.pure rfl)
  ·rintro x rfl
   unfold A8
   exact Tot.iteF rfl (Tot.pure rfl)
 by_cases hlen:s0.length<=8
 ·exact Tot.iteF (by simp only [decide_eq_false_iff_not];omega) (key s0 hlen)
 ·exact Tot.iteT (by simp only [decide_eq_true_eq];omega) (Tot.bindC rfl (Tot.bindC rfl (key [] (by simp))))
section
variable {t:Ac} (hT:JT t) {s:List UInt8} (hs:s.length<=4000)
include hT hs
end
end Go.AI
end
section
namespace Go.AI
theorem K0 {n:Int} (h:okI .u8 n):U8 n:=by
 unfold okI Lit.wf at h
 have:IntKind.u8.min=0/\IntKind.u8.max=255:=by decide
 unfold U8
 simp only [Ji0,decide_eq_true_eq] at h
 omega
theorem RI {r:Dc} (h:JB r):Xh r:=by
 obtain ⟨a,b,c,d,e,f⟩:=h
 exact ⟨λ y hy=>K0 (a y hy),λ y hy=>K0 (b y hy),K0 c,K0 d,K0 e,K0 f⟩
theorem YI {x:KB} (h:Wp x):Nj x:=⟨(K0 h.1).1,λ r hr=>RI (h.2.2 r hr)⟩
theorem JgN {l:List Int} (h:∀ a∈l,okI .u8 a):∀ a∈l,U8 a:=λ a ha=>K0 (h a ha)
theorem JgO:∀ (x:KB) (l:List Int) (s:List UInt8),Wp x->(∀ a∈l,okI .u8 a)->True->∃ n,BQ n x l s=some true:=λ _ _ s h hl _=>(Jii (YI h) (JgN hl) s).out
end Go.AI
end
section
namespace Go.Proofs.Ytpjdhkjmnmbdfaa
open Go.AI Go.ChangeShapes Go.WideShapes Go.ChangeAt Go.RowKit
theorem own:ownKnob Try.prog.godebug=none:=by kernel_rfl
set_option maxRecDepth 100000 in
theorem JgP (os:Os) (started:os.Started) (H:Type) (enc:TypeId×Value->H) :
  ReturnsInHanded {} Try.checked os 3 .any (Rows.markBytesMatchReferenceSpec.pre6 enc Try.prog Try.f3 Rows.markBytesMatchReferenceRow.domain false) (Rows.markBytesMatchReferenceSpec.post enc Try.prog Try.f3 false true false false):=by
 refine returnsInHanded_of_change (C:=Try.checked) own started (by kernel_rfl) Try.func3
  (ChangeSpec.witness6 (enc:=enc) (C:=Try.checked) false ⟨#[],#[.agg #[.int .u8 0,.int .u8 0,.slice none 0 0],.slice none 0 0,.string ⟨#[]⟩],[]⟩ 8 (by kernel_rfl) (by kernel_rfl) (by kernel_rfl) (by kernel_rfl)) ?_
 intro W base args ds gs before hval0 hW hcnd _
 have hval:∀ (j:Nat) t v,Try.f3.params[j]? = some t->args[j]? = some v->Value.okWide Try.prog W .any base t v:=hval0
 have hW':=hW
 obtain ⟨p,q,hA0,hV,rfl,hfz,hnd⟩:=hW
 have hA:DataW.TrodAll enc Try.prog W 0 (λ _=>true) true Try.f3.params.toList args.toList ds p:=hA0
 have hlt:=hA.lt
 rw [Try.params3] at hA hval
 obtain ⟨v0,vs0,d0,ds0,p0,q0,hargs,rfl,rfl,h0,r0⟩:=trodAll_cons hA
 obtain ⟨v1,vs1,d1,ds1,p1,q1,rfl,rfl,rfl,h1,r1⟩:=trodAll_cons r0
 obtain ⟨v2,vs2,d2,ds2,p2,q2,rfl,rfl,rfl,h2,r2⟩:=trodAll_cons r1
 obtain ⟨rfl,rfl,rfl⟩:=trodAll_nil r2
 obtain rfl:args=#[v0,v1,v2]:=by cases args;simp_all
 obtain ⟨rfl,rfl⟩:=trodVars_none hV
 obtain ⟨cs0,hc0,_⟩:=okWide_struct Try.underlying24 (hval 0 24 v0 rfl rfl)
 obtain ⟨a0,k0,rep0⟩:=JcP hc0 h0 JiX
 obtain ⟨x1,y1,z1,hc1⟩:=okWide_slice Try.underlying25 (hval 1 25 v1 rfl rfl)
 obtain ⟨a1,k1,rep1⟩:=Xb (y:=λ a=>.sl (a.map eU8)) (by rw [hc1];rfl) h1 JgD (λ _=>rfl)
 obtain ⟨x2,hc2⟩:=okWide_string Try.underlying9 (hval 2 9 v2 rfl rfl)
 obtain ⟨a2,k2,rep2⟩:=Xb (y:=λ a=>.str a) (by rw [hc2];rfl) h2 rd9 (λ _=>rfl)
 clear hA0 hval0
 simp only [List.append_nil] at hW' hlt
 obtain ⟨n,hn⟩:=JgO a0 a1 a2 k0 k1 k2
 refine (Ja2 (FJ hn) (Tv rep0 (Tv rep1 (Tv rep2 JgC)))).mono λ e W' ⟨he,hg,hold⟩=>?_
 subst he
 exact ⟨_,rfl,Ye (pv:=[]) hW' (λ _ _ _=>(trodAll_cons_mk (shut_bool Try.underlying4 _) trodAll_mk0)) (λ sp hsp=>trodAll_cons_mk (Ja3 (by kernel_rfl) (by kernel_rfl) (of_decide_eq_true (by kernel_rfl)) h0 (λ p hp=>hlt p (by simp [hp])) (λ p hp=>hsp p (by simp [hp])) hold) (trodAll_cons_mk (Ja3 (by kernel_rfl) (by kernel_rfl) (of_decide_eq_true (by kernel_rfl)) h1 (λ p hp=>hlt p (by simp [hp])) (λ p hp=>hsp p (by simp [hp])) hold) (trodAll_cons_mk (Ja3 (by kernel_rfl) (by kernel_rfl) (of_decide_eq_true (by kernel_rfl)) h2 (λ p hp=>hlt p (by simp [hp])) (λ p hp=>hsp p (by simp [hp])) hold) trodAll_mk0))) (λ _ _=>rfl) (by simp) (hg _) hold (ok_one (by kernel_rfl) rfl (okWide_bool_mk Try.underlying4 _))⟩
theorem JiY:Rows.markBytesMatchReferenceRow.holds Try.pinned (OpenSpec.ofChange Rows.markBytesMatchReferenceSpec):=
 OpenClaim.holds_of_wide 3 Try.f3 rfl rfl rfl rfl rfl rfl rfl ⟨rfl,rfl,rfl,rfl,rfl⟩ rfl rfl rfl rfl rfl (by kernel_rfl) Try.func3 (by kernel_rfl)
  (of_decide_eq_true (by kernel_rfl)) (by unfold Func.isWrapper;first|(rw [if_pos (by decide +kernel)];kernel_rfl)|(rw [if_neg (by decide +kernel)];exact ⟨rfl,rfl⟩))
  (λ os started H enc _=>JgP os started H enc)
theorem markBytesMatchReference_holds:Rows.MarkBytesMatchReferenceSaid:=JiY
end Go.Proofs.Ytpjdhkjmnmbdfaa
end
