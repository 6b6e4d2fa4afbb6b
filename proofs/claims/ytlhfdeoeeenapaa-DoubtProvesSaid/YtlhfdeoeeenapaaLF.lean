/- The theorem: the last one of this text; part 6 of 6 of its proof. It holds with no condition beyond the given statement. -/
import Derived.Test.YtlhfdeoeeenapaaLE
import Derived.KernelRfl
import Derived.Test.YtlhfdeoeeenapaaRows
section
namespace Go.AI
theorem Ev.iteT {α:Type} {c:Bool} {a b:Nat->Option α} {z:α} (h:c=true) (k:Ev a z):Ev (λ n=>if c=true then a n else b n) z:=by subst h;exact k
theorem Ev.iteF {α:Type} {c:Bool} {a b:Nat->Option α} {z:α} (h:c=false) (k:Ev b z):Ev (λ n=>if c=true then a n else b n) z:=by subst h;exact k
theorem Ev.bindC {α β:Type} {x:Option β} {y:β} {g:Nat->β->Option α} {z:α} (h:x=some y) (k:Ev (λ n=>g n y) z):Ev (λ n=>x.bind (g n)) z:=by subst h;exact k
theorem Ev.guard {α β:Type} {c:Bool} {f:Nat->Option β} {d x:β} {g:Nat->β->Option α} {z:α} (h:c=true->Ev f x) (k:Ev (λ n=>g n (if c=true then x else d)) z):Ev (λ n=>(if c=true then f n else some d).bind (g n)) z:=by
 cases c with
 | true=>exact Ev.bind (h rfl) k
 | false=>exact k
theorem Jce {α β:Type} {a:List α} {b:List β}:(((a.length:Nat):Int) != ((b.length:Nat):Int))=decide (a.length≠b.length):=by
 rw[Bool.eq_iff_iff];simp only[bne_iff_ne,ne_eq,decide_eq_true_eq];omega
theorem RZ {α:Type} [DecidableEq α] [Inhabited α] (a b:List α) (h:a.length=b.length):scan a.length (λ i=>if a.getD i default=b.getD i default then none else some false)=if a=b then .inl ()else .inr false:=by
 by_cases e:a=b
 ·subst e;rw[if_pos rfl];exact Ge λ i _=>by rw[if_pos rfl]
 ·rw[if_neg e];have:∃ i,i<a.length/\a.getD i default≠b.getD i default:=by
   apply Classical.byContradiction;intro hn;refine e (List.ext_getElem h λ i h1 h2=>?_);have:=Classical.byContradiction λ hc=>hn ⟨i,h1,hc⟩;rwa[Cb h1,Cb h2]at this
  obtain⟨i,hi,hne⟩:=this;obtain⟨k,r,_,hr,hs⟩:=Gf (stop:=λ i=>if a.getD i default=b.getD i default then none else some false) hi (by rw[if_neg hne];rfl)
  rw[hs];split at hr
  ·cases hr
  ·cases hr;rfl
theorem MB (a b:List Int) (ha:a.length<9223372036854775807):Ev (λ n=>DV n a b) (decide (a=b)):=by
 unfold DV;rw[Jce];by_cases h:a.length=b.length
 ·refine Ev.iteF (by simp[h]) ?_;refine Ev.bind (Fr a.length (λ i=>if a.getD i default=b.getD i default then none else some false) (λ i hi=>Ev.all λ n=>?_) (Ev.all λ n=>?_)) ?_
  ·unfold DF;rw[if_pos (GM hi),GL hi,GL (by omega)];simp only[JkP];by_cases e:a.getD i default=b.getD i default
   ·rw[if_neg (by simp only[bne_iff_ne,ne_eq];exact λ hh=>hh e),if_pos e,Bm (by omega)]
   ·rw[if_pos (by simp only[bne_iff_ne,ne_eq];exact e),if_neg e]
  ·unfold DF;rw[if_neg (by simp)]
  ·rw[RZ a b h];by_cases e:a=b
   ·rw[if_pos e,decide_eq_true e];exact Ev.const
   ·rw[if_neg e,decide_eq_false e];exact Ev.const
 ·refine Ev.iteT (by simp[h]) ?_;rw[decide_eq_false (λ e=>h (by rw[e]))];exact Ev.const
theorem U5 (a b:List Int) (ha:a.length<9223372036854775807):Ev (λ n=>Kp n a b) (decide (a=b)):=by
 unfold Kp;rw[Jce];by_cases h:a.length=b.length
 ·refine Ev.iteF (by simp[h]) ?_;refine Ev.bind (Fr a.length (λ i=>if a.getD i default=b.getD i default then none else some false) (λ i hi=>Ev.all λ n=>?_) (Ev.all λ n=>?_)) ?_
  ·unfold F7;rw[if_pos (GM hi),GL hi,GL (by omega)];simp only[JkP];by_cases e:a.getD i default=b.getD i default
   ·rw[if_neg (by simp only[bne_iff_ne,ne_eq];exact λ hh=>hh e),if_pos e,Bm (by omega)]
   ·rw[if_pos (by simp only[bne_iff_ne,ne_eq];exact e),if_neg e]
  ·unfold F7;rw[if_neg (by simp)]
  ·rw[RZ a b h];by_cases e:a=b
   ·rw[if_pos e,decide_eq_true e];exact Ev.const
   ·rw[if_neg e,decide_eq_false e];exact Ev.const
 ·refine Ev.iteT (by simp[h]) ?_;rw[decide_eq_false (λ e=>h (by rw[e]))];exact Ev.const
theorem Xs (a b:Az):decide (a=b)=(a.Print==b.Print&&decide (a.Cells=b.Cells)&&a.Left==b.Left&&a.Right==b.Right&&a.From==b.From&&a.To==b.To):=by
 rw[Bool.eq_iff_iff];cases a;cases b;simp only[decide_eq_true_eq,Az.mk.injEq,Jla,beq_iff_eq];exact⟨λ⟨h1,h2,h3,h4,h5,h6⟩=>⟨⟨⟨⟨⟨h1,h2⟩,h3⟩,h4⟩,h5⟩,h6⟩,λ⟨⟨⟨⟨⟨h1,h2⟩,h3⟩,h4⟩,h5⟩,h6⟩=>⟨h1,h2,h3,h4,h5,h6⟩⟩
theorem U7 (a b:Az) (ha:a.Cells.length<9223372036854775807):Ev (λ n=>F9 n a b) (decide (a=b)):=by
 unfold F9;refine Ev.guard (λ _=>MB a.Cells b.Cells ha) (Ev.all λ n=>?_);rw[Xs];cases h:(a.Print==b.Print)<;>simp
theorem Jcf (a b:Az) (ha:a.Cells.length<9223372036854775807):Ev (λ n=>Kq n a b) (decide (a=b)):=by
 unfold Kq;refine Ev.guard (λ _=>U5 a.Cells b.Cells ha) (Ev.all λ n=>?_);rw[Xs];cases (a.Print==b.Print)<;>cases (a.Left==b.Left)<;>cases (a.Right==b.Right)<;>cases (a.From==b.From)<;>cases (a.To==b.To)<;>simp
theorem U9 (b:UInt8):(Fa (MA b)==4)=CQ b:=by
 have:∀ k:Nat,k<256->(Fa (k:Int)==4)=(Ca .u8 (k:Int) 127==32):=by decide +kernel
 exact this b.toNat b.toNat_lt
theorem Jcg {s:List UInt8} {f:UInt8->Bool}:scan s.length (λ i=>if f (s.getD i 0)then some true else none)=if s.any f then .inr true else .inl ():=by
 cases h:s.any f with
 | false=>
  rw[List.any_eq_false]at h;exact Ge λ i hi=>by rw[Cb hi,if_neg (h _ (JkV hi))]
 | true=>
  rw[List.any_eq_true]at h;obtain⟨b,hb,hf⟩:=h;obtain⟨i,hi,e⟩:=List.getElem_of_mem hb;obtain⟨k,r,_,hr,hs⟩:=Gf (stop:=λ i=>if f (s.getD i 0)then some true else none) hi (by rw[Cb hi,e,hf];rfl)
  rw[hs];split at hr
  ·cases hr;rfl
  ·cases hr
theorem Va {s:List UInt8} (hl:s.length<9223372036854775807):Ev (λ n=>F5 n s) (s.any CQ):=by
 unfold F5;refine Ev.bind (Fr s.length (λ i=>if CQ (s.getD i 0)then some true else none) (λ i hi=>Ev.all λ n=>?_) (Ev.all λ n=>?_)) ?_
 ·unfold D9;have hg:s[i]?=some s[i]:=Jk9 hi;rw[if_pos (GM hi),J8 hg,Cb hi];simp only[JkP,UY,U9];cases CQ s[i]with
  | true=>simp
  | false=>simp[Bm (show i<9223372036854775807 by omega)]
 ·unfold D9;rw[if_neg (by simp)]
 ·rw[Jcg];cases s.any CQ<;>exact Ev.const
theorem Y3 {l:List Int} {f:Int->Bool}:scan l.length (λ i=>if f (l.getD i 0)then none else some false)=if l.all f then .inl ()else .inr false:=by
 cases h:l.all f with
 | true=>
  rw[JkT]at h;exact Ge λ i hi=>by rw[Cb hi,if_pos (h _ (JkV hi))]
 | false=>
  rw[List.all_eq_false]at h;obtain⟨b,hb,hf⟩:=h;obtain⟨i,hi,e⟩:=List.getElem_of_mem hb;obtain⟨k,r,_,hr,hs⟩:=Gf (stop:=λ i=>if f (l.getD i 0)then none else some false) hi (by rw[Cb hi,e,if_neg hf];rfl)
  rw[hs];split at hr
  ·cases hr
  ·cases hr;rfl
def Oa (c:Int):Bool:=decide (c<63)&&!(c==0)
theorem Y4 {r:Az} (hp:r.Print.length<9223372036854775807) (hc:r.Cells.length<9223372036854775807) (m:Int):Ev (λ n=>Ko n r m) (B6 r m):=by
 unfold Ko;by_cases g1:(((decide (((r.Print.length:Nat):Int)>4))||(decide (((r.Cells.length:Nat):Int)<1)))||(decide (((r.Cells.length:Nat):Int)>4)))=true
 ·refine Ev.iteT g1 ?_;have:B6 r m=false:=by
   rw[← JkX];intro h;simp only[B6,Jla,decide_eq_true_eq]at h;simp only[Jls,decide_eq_true_eq]at g1;omega
  rw[this];exact Ev.const
 ·rw[JkX]at g1;refine Ev.iteF g1 (Ev.bind (Jd3 hp) ?_);cases ha:r.Print.all FY with
  | false=>
   refine Ev.iteT (by rw[RY ha];rfl) ?_;have:B6 r m=false:=by simp[B6,ha]
   rw[this];exact Ev.const
  | true=>
   refine Ev.iteF (by rw[U4 ha];rfl) ?_;by_cases g2:((((decide (r.Left<1))||(decide (r.Left>63)))||(decide (r.Right<1)))||(decide (r.Right>63)))=true
   ·refine Ev.iteT g2 ?_;have:B6 r m=false:=by
     rw[← JkX];intro h;simp only[B6,Jla,decide_eq_true_eq]at h;simp only[Jls,decide_eq_true_eq]at g2;omega
    rw[this];exact Ev.const
   ·rw[JkX]at g2;refine Ev.iteF g2 ?_;by_cases g3:((((decide (r.From<0))||(decide (r.From>=m)))||(decide (r.To<0)))||(decide (r.To>=m)))=true
    ·refine Ev.iteT g3 ?_;have:B6 r m=false:=by
      rw[← JkX];intro h;simp only[B6,Jla,decide_eq_true_eq]at h;simp only[Jls,decide_eq_true_eq]at g3;omega
     rw[this];exact Ev.const
    ·rw[JkX]at g3;refine Ev.iteF g3 (Ev.bind (Va hp) ?_);simp only[Jk8,decide_eq_false_iff_not]at g1 g2 g3;have e1:B6 r m=(r.Cells.all (λ c=>decide (c<63))&&(bif r.Print.any CQ then decide (r.Print.length=1)&&decide (r.Cells.length=1)&&r.Cells.any (λ c=>c==0)else !r.Cells.any (λ c=>c==0))):=by
      unfold B6;rw[ha];have:(true&&decide (r.Print.length<=4)&&decide (1<=r.Cells.length)&&decide (r.Cells.length<=4)&&(decide (1<=r.Left)&&decide (r.Left<=63)&&decide (1<=r.Right)&&decide (r.Right<=63)&&decide (0<=r.From)&&decide (r.From<m)&&decide (0<=r.To)&&decide (r.To<m)))=true:=by
       simp only[Jla,decide_eq_true_eq,true_and];omega
      rw[this,Bool.true_and]
     rw[e1];cases hsp:r.Print.any CQ with
     | true=>
      refine Ev.iteT rfl ?_;by_cases g4:((((r.Print.length:Nat):Int)==1)&&(((r.Cells.length:Nat):Int)==1))=true
      ·have hl:r.Print.length=1/\r.Cells.length=1:=by
        simp only[Jla,beq_iff_eq]at g4;omega
       obtain⟨c,hcell⟩:=List.length_eq_one_iff.1 hl.2;have hi:idx r.Cells 0=some c:=by rw[hcell];rfl
       simp only[g4,if_true,hi,JkP];refine Ev.all λ n=>?_;rw[hcell];simp only[hl.1,List.all_cons,List.all_nil,List.any_cons,List.any_nil,List.length_cons,List.length_nil,Bool.and_true,Bool.or_false,decide_true,Bool.true_and,cond_true];cases h0:(c==0)with
       | false=>simp
       | true=>
        have:c=0:=by simpa using h0
        subst this;rfl
      ·rw[JkX]at g4;simp only[g4,Jll,if_false,JkP,Bool.false_and];refine Ev.all λ n=>?_;have:(decide (r.Print.length=1)&&decide (r.Cells.length=1))=false:=by
        rw[← JkX];intro h;simp only[Jla,decide_eq_true_eq]at h;rw[← JkX]at g4;apply g4;simp[h.1,h.2]
       simp[this]
     | false=>
      refine Ev.iteF rfl ?_;refine Ev.bind (Fr r.Cells.length (λ i=>if Oa (r.Cells.getD i 0)then none else some false) (λ i hi=>Ev.all λ n=>?_) (Ev.all λ n=>?_)) ?_
      ·unfold F6;rw[if_pos (GM hi),GL hi,show r.Cells.getD i default=r.Cells.getD i 0 from rfl];generalize r.Cells.getD i 0=c;simp only[JkP,Nf];by_cases hcc:Oa c=true
       ·simp only[Oa,Jla,decide_eq_true_eq,Bool.not_eq_true',beq_eq_false_iff_ne,ne_eq]at hcc;rw[if_neg (by simp;omega),if_pos (by simp[Oa];omega),Bm (by omega)]
       ·rw[if_pos (by simp[Oa]at hcc⊢;omega),if_neg hcc]
      ·unfold F6;rw[if_neg (by simp)]
      ·rw[Y3];have e2:(r.Cells.all (λ c=>decide (c<63))&&!r.Cells.any (λ c=>c==0))=r.Cells.all Oa:=by
        rw[Bool.eq_iff_iff];simp only[Oa,Jla,JkT,Bool.not_eq_true',List.any_eq_false,JkX];exact⟨λ h x hx=>⟨h.1 x hx,h.2 x hx⟩,λ h=>⟨λ x hx=>(h x hx).1,λ x hx=>(h x hx).2⟩⟩
       simp only[cond_false];rw[e2];cases r.Cells.all Oa<;>exact Ev.const
end Go.AI
end
section
namespace Go.AI
def Jch (r:Az):Prop:=r.Print.length<9223372036854775807/\r.Cells.length<9223372036854775807
def Fb (t:Aa):Prop:=t.Rules.length<9223372036854775807/\∀ r∈t.Rules,Jch r
def Vb (t:Aa) (i:Nat):Unit⊕(Int×Int):=scan i (λ k=>if t.Rules.getD k default=t.Rules.getD i default then some ((i:Int),(20:Int))else none)
def Ic (t:Aa) (i:Nat):Option (Int×Int):=if B6 (t.Rules.getD i default) t.Modes=true then(match Vb t i with | .inl _=>none | .inr p=>some p)else some ((i:Int),20)
def Vc (t:Aa):Bool:=decide (t.Modes<1)||decide (t.Modes>8)||(t.Accept==0)||decide (IntKind.i64.wrap t.Accept>=PA .i64 1 t.Modes)||decide (((t.Rules.length:Nat):Int)<1)||decide (((t.Rules.length:Nat):Int)>64)
def Nv (t:Aa):Int×Int:=if Vc t=true then(-1,1)else match scan t.Rules.length (Ic t)with
 | .inl _=>(0,0)
 | .inr p=>p
theorem Fb.get {t:Aa} (h:Fb t) {i:Nat} (hi:i<t.Rules.length):Jch (t.Rules.getD i default):=by
 rw[Cb hi];exact h.2 _ (JkV hi)
theorem Y5 {t:Aa} (ht:Fb t) {i:Nat} (hi:i<t.Rules.length):Ev (λ n=>whl (λ (x:Int)=>EL n t (i:Int) x) n 0) (Vb t i):=by
 refine Fr i _ (λ k hk=>?_) (Ev.all λ n=>?_)
 ·unfold EL;refine Ev.iteT (by simpa using hk) (Ev.bindC (GL (by omega)) (Ev.bindC (GL hi) (Ev.bind (U7 _ _ (ht.get (by omega)).2) (Ev.all λ n=>?_))));by_cases e:t.Rules.getD k default=t.Rules.getD i default
  ·rw[if_pos (decide_eq_true e),if_pos e]
  ·rw[if_neg (by simpa using e),if_neg e,Bm (by have:=ht.1;omega)]
 ·unfold EL;rw[if_neg (by simp)]
theorem WE {t:Aa} (ht:Fb t) {i:Nat} (hi:i<t.Rules.length):Ev (λ n=>whl (λ (x:Int)=>EG n t (i:Int) (t.Rules.getD i default) (t.Rules.take i) x) n 0) (Vb t i):=by
 refine Fr i _ (λ k hk=>?_) (Ev.all λ n=>?_)
 ·unfold EG;have hk':k<(t.Rules.take i).length:=by rw[List.length_take];omega
  have hg:(t.Rules.take i).getD k default=t.Rules.getD k default:=by rw[Cb hk',Cb (by omega),List.getElem_take]
  refine Ev.iteT (GM hk') (Ev.bindC (GL hk') ?_);rw[hg];refine Ev.bind (Jcf _ _ (ht.get (by omega)).2) (Ev.all λ n=>?_);by_cases e:t.Rules.getD k default=t.Rules.getD i default
  ·rw[if_pos (decide_eq_true e),if_pos e]
  ·rw[if_neg (by simpa using e),if_neg e,Bm (by have:=ht.1;omega)]
 ·unfold EG;rw[if_neg (by simp;omega)]
theorem Y6 {t:Aa} (ht:Fb t):Ev (λ n=>whl (λ (x:Int)=>EM n t x) n 0) (scan t.Rules.length (Ic t)):=by
 refine Fr _ _ (λ i hi=>?_) (Ev.all λ n=>?_)
 ·unfold EM;refine Ev.iteT (GM hi) (Ev.bindC (GL hi) (Ev.bind (Jcd (ht.get hi).1 (ht.get hi).2 t.Modes) ?_));unfold Ic;cases B6 (t.Rules.getD i default) t.Modes with
  | false=>exact Ev.iteT rfl Ev.const
  | true=>
   refine Ev.iteF rfl (Ev.bind (Y5 ht hi) ?_);cases Vb t i with
   | inl u=>refine Ev.all λ n=>?_;simp[Bm (show i<9223372036854775807 by have:=ht.1;omega)]
   | inr p=>exact Ev.const
 ·unfold EM;rw[if_neg (by simp)]
theorem WF {t:Aa} (ht:Fb t):Ev (λ n=>whl (λ (x:Int)=>EH n t x) n 0) (scan t.Rules.length (Ic t)):=by
 refine Fr _ _ (λ i hi=>?_) (Ev.all λ n=>?_)
 ·unfold EH;refine Ev.iteT (GM hi) (Ev.bindC (GL hi) (Ev.bind (Y4 (ht.get hi).1 (ht.get hi).2 t.Modes) ?_));unfold Ic;cases B6 (t.Rules.getD i default) t.Modes with
  | false=>exact Ev.iteT rfl Ev.const
  | true=>
   refine Ev.iteF rfl (Ev.bindC (Xr (by omega)) (Ev.bind (WE ht hi) ?_));cases Vb t i with
   | inl u=>refine Ev.all λ n=>?_;simp[Bm (show i<9223372036854775807 by have:=ht.1;omega)]
   | inr p=>exact Ev.const
 ·unfold EH;rw[if_neg (by simp)]
theorem Jci {t:Aa} (ht:Fb t):Ev (λ n=>Ku n t) (Nv t):=by
 unfold Ku Nv;refine Ev.bindC (y:=()) ?_ ?_
 ·split
  ·rename_i h;simp only[Bool.not_eq_true',Jk8,decide_eq_false_iff_not]at h;exact CP (by simp;omega)
  ·rfl
 ·show Ev (λ n=>if Vc t=true then _ else _) _
  cases Vc t with
  | true=>exact Ev.iteT rfl Ev.const
  | false=>
   refine Ev.iteF rfl (Ev.bind (Y6 ht) ?_);generalize scan t.Rules.length _=z;cases z<;>exact Ev.const
theorem Y7 {t:Aa} (ht:Fb t):Ev (λ n=>Kr n t) (Nv t):=by
 unfold Kr Nv Vc;cases h1:((decide (t.Modes<1))||(decide (t.Modes>8)))with
 | true=>exact Ev.iteT rfl (by simp only[Bool.true_or,if_true];exact Ev.const)
 | false=>
  refine Ev.iteF rfl (Ev.bindC (y:=()) ?_ ?_)
  ·split
   ·simp only[Jk8,decide_eq_false_iff_not]at h1;exact CP (by simp;omega)
   ·rfl
  ·simp only[Bool.false_or];cases h2:((t.Accept==0)||(decide (IntKind.i64.wrap t.Accept>=PA .i64 1 t.Modes)))with
   | true=>exact Ev.iteT rfl (by simp only[Bool.true_or,if_true];exact Ev.const)
   | false=>
    refine Ev.iteF rfl ?_;simp only[Bool.false_or];cases h3:((decide (((t.Rules.length:Nat):Int)<1))||(decide (((t.Rules.length:Nat):Int)>64)))with
    | true=>exact Ev.iteT rfl (by simp only[if_true];exact Ev.const)
    | false=>
     refine Ev.iteF rfl (Ev.bind (WF ht) ?_);simp only[Jll,if_false];generalize scan t.Rules.length _=z;cases z<;>exact Ev.const
def DR (t:Aa):Bool:=!Vc t&&t.Rules.all (λ r=>B6 r t.Modes)&&decide t.Rules.Nodup
theorem MC (t:Aa):((Nv t).2==0)=DR t:=by
 unfold Nv DR;cases Vc t with
 | true=>rfl
 | false=>
  simp only[Jll,if_false,Bool.not_false,Bool.true_and];have h20:∀ i p,Ic t i=some p->p.2=20:=by
   intro i p h;unfold Ic at h;split at h
   ·split at h
    ·cases h
    ·rename_i q hq;cases h;unfold Vb scan at hq;split at hq
     ·rename_i r hr;cases hq;obtain⟨k,_,hk⟩:=List.exists_of_findSome?_eq_some hr;split at hk
      ·cases hk;rfl
      ·cases hk
     ·cases hq
   ·cases h;rfl
  have hiff:(∀ i,i<t.Rules.length->Ic t i=none)↔(t.Rules.all (λ r=>B6 r t.Modes)&&decide t.Rules.Nodup)=true:=by
   simp only[Jla,JkT,decide_eq_true_eq];constructor
   ·intro h;have hs:∀ i,i<t.Rules.length->B6 (t.Rules.getD i default) t.Modes=true:=by
     intro i hi;have:=h i hi;unfold Ic at this;split at this
     ·assumption
     ·cases this
    refine⟨λ r hr=>?_,?_⟩
    ·obtain⟨i,hi,e⟩:=List.getElem_of_mem hr;have:=hs i hi;rwa[Cb hi,e]at this
    ·rw[List.Nodup,List.pairwise_iff_getElem];intro k i hk hi hlt e;have h0:=h i hi;unfold Ic at h0;rw[if_pos (hs i hi)]at h0;obtain⟨_,r,_,_,hsc⟩:=Gf (N:=i) (stop:=λ k=>if t.Rules.getD k default=t.Rules.getD i default then some ((i:Int),(20:Int))else none) hlt (by rw[Cb hk,Cb hi,if_pos e];rfl)
     unfold Vb at h0;rw[hsc]at h0;cases h0
   ·rintro⟨h1,h2⟩ i hi;unfold Ic;rw[if_pos (by rw[Cb hi];exact h1 _ (JkV hi))];have:Vb t i=.inl ():=Ge λ k hk=>by
     rw[Cb (show k<t.Rules.length by omega),Cb hi,if_neg];rw[List.Nodup,List.pairwise_iff_getElem]at h2;exact h2 k i (by omega) hi hk
    rw[this]
  cases hv:(t.Rules.all (λ r=>B6 r t.Modes)&&decide t.Rules.Nodup)with
  | true=>rw[Ge (hiff.2 hv)];rfl
  | false=>
   have:¬∀ i,i<t.Rules.length->Ic t i=none:=λ h=>by rw[hiff.1 h]at hv;cases hv
   have:∃ i,i<t.Rules.length/\Ic t i≠none:=Classical.byContradiction λ hn=>this λ i hi=>Classical.byContradiction λ hc=>hn ⟨i,hi,hc⟩;obtain⟨i,hi,hne⟩:=this;obtain⟨k,r,_,hr,hs⟩:=Gf hi (Option.isSome_iff_ne_none.2 hne);rw[hs];show(r.2==0)=false;rw[h20 k r hr];rfl
theorem Jcj {t:Aa} (ht:Fb t):Ev (λ n=>Nj n t) (DR t):=by
 rw[← MC];exact Ev.bind (Jci ht) Ev.const
theorem Y8 {t:Aa} (ht:Fb t):Ev (λ n=>Ng n t) (DR t):=by
 rw[← MC];exact Ev.bind (Y7 ht) Ev.const
theorem WG {t:Aa} {l:List Az} (h:DR t=true) (hl:l.Sublist t.Rules) (h1:1<=l.length):DR ⟨t.Modes,t.Accept,l⟩=true:=by
 unfold DR Vc at h⊢;simp only[Jla,Bool.not_eq_true',Jk8,decide_eq_false_iff_not,JkT,decide_eq_true_eq]at h⊢;have hle:=hl.length_le;exact⟨⟨⟨⟨h.1.1.1.1,by omega⟩,by omega⟩,λ r hr=>h.1.2 r (hl.subset hr)⟩,hl.nodup h.2⟩
theorem IY {t:Aa} (h:DR t=true):∀ r∈t.Rules,B6 r t.Modes=true:=by
 unfold DR at h;simp only[Jla,JkT]at h;exact h.1.2
end Go.AI
end
section
namespace Go.AI
def EY (r:Int):Aa:=(FC 0 r).getD default
theorem MD (n:Nat) (k:Int) (h0:0<=k):FC n k=some (EY (Bj k 8))/\0<=Bj k 8/\Bj k 8<8:=by
 have e:Bj k 8=k % 8:=by unfold Bj;rw[Int.tmod_eq_emod_of_nonneg h0]
 have hr:Bj k 8=0\/Bj k 8=1\/Bj k 8=2\/Bj k 8=3\/Bj k 8=4\/Bj k 8=5\/Bj k 8=6\/Bj k 8=7:=by rw[e];omega
 rcases hr with h|h|h|h|h|h|h|h
 all_goals
  refine⟨?_,by omega,by omega⟩;unfold FC;rw[h];rfl
def Tr (r:Az):Bool:=decide (0<=r.To)&&decide (r.To<2)&&decide (0<=r.Right)&&decide (r.Right<=63)&&decide (r.Print.length<=3)
theorem Qp {r:Az} (h:Tr r=true):Lz r:=by
 simp only[Tr,Jla,decide_eq_true_eq]at h;obtain⟨⟨⟨⟨h1,h2⟩,h3⟩,h4⟩,h5⟩:=h;exact⟨h1,h2,h3,h4,h5⟩
def OJ (t:Aa):Bool:=decide (t.Rules.length<=8)&&t.Rules.all Tr&&decide (1<=t.Modes)&&decide (t.Modes<=2)&&DR t
theorem Xt {r:Int} (h:0<=r) (h':r<8):OJ (EY r)=true:=by
 have:∀ k:Nat,k<8->OJ (EY (k:Int))=true:=by decide +kernel
 have e:=this r.toNat (by omega);rwa[Int.toNat_of_nonneg h]at e
def U8 (n:Int):Prop:=0<=n/\n<256
def Xu (x:CD):Prop:=(∀ a∈x.P,U8 a)/\(∀ a∈x.C,U8 a)/\U8 x.L/\U8 x.R/\U8 x.W.a0/\U8 x.W.a1
theorem CE {a m:Int} (h:0<=a) (hm:0<m):0<=Bj a m/\Bj a m<m:=(RX h hm).2
theorem Nw {α:Type} {l:List α} {i:Int} (h:0<=i) (h':i<l.length):∃ x,x∈l/\idx l i=some x:=by
 have hl:i.toNat<l.length:=by omega
 refine⟨l[i.toNat],JkV hl,?_⟩;unfold idx;rw[if_pos h];exact Jk9 hl
theorem Jd4 {α:Type} {l:List α} {i:Int} (h:0<=i) (h':i<l.length):∃ z,z.length=1/\sub l i (i+1)=some z:=by
 refine⟨(l.take (i+1).toNat).drop i.toNat,?_,?_⟩
 ·simp;omega
 ·unfold sub;rw[if_pos (by omega)]
def Xv (a b:Az):Prop:=a.Left=b.Left/\a.Right=b.Right/\a.From=b.From/\a.To=b.To
theorem Jck (x:CD) (hx:∀ a∈x.P,U8 a) (r0:Az) (h0:r0.Print=[]):Tot (λ n=>whl (λ (y:(Az×Int))=>Eo n x y.1 y.2) n (r0,0)) (λ r=>r.Print.length<=3/\Xv r r0):=by
 refine Tot.upto (body:=λ n y=>Eo n x y.1 y.2) (min x.P.length 3) (λ i y=>y.2=(i:Int)/\y.1.Print.length=i/\Xv y.1 r0) ?_ ?_ (r0,0) ⟨rfl,by simp[h0],rfl,rfl,rfl,rfl⟩
 ·rintro i ⟨r,i'⟩ hi ⟨h1,h2,h3⟩;simp only at h1 h2 h3;subst h1;obtain⟨c,hcm,hci⟩:=Nw (l:=x.P) (i:=(i:Int)) (by omega) (by omega);have hu:=hx c hcm;have hr:=CE (m:=9) hu.1 (by omega);have hw:IntKind.i64.wrap (Bj c 9)=Bj c 9:=Qm (by omega) (by omega);obtain⟨z,hz1,hz⟩:=Jd4 (l:=([97,98,99,65,66,49,50,45,46]:List UInt8)) (i:=Bj c 9) hr.1 (by simpa using hr.2);unfold Eo;refine Tot.iteT (by simp only[Jla,decide_eq_true_eq];omega) (Tot.bindC hci ?_);simp only[hw];rw[Lf (by omega) (by omega)];refine Tot.bindC hz (Tot.bindC (Tq (by omega)) (JkI ⟨Bm (by omega),by simp[h2,hz1],h3⟩))
 ·rintro⟨r,i'⟩ ⟨h1,h2,h3⟩;simp only at h1 h2 h3;subst h1;unfold Eo;exact Tot.iteF (by rw[← JkX];simp only[Jla,decide_eq_true_eq];omega) (JkI ⟨by show r.Print.length<=3;omega,h3⟩)
theorem Jcl (x:CD) (hx:∀ a∈x.C,U8 a) (r0:Az) (h0:r0.Cells.length=1):Tot (λ n=>whl (λ (y:(Az×Int))=>CU n x y.1 y.2) n (r0,0)) (λ r=>(r.Cells.length<=3/\1<=r.Cells.length)/\r.Print=r0.Print/\Xv r r0):=by
 refine Tot.upto (body:=λ n y=>CU n x y.1 y.2) (min x.C.length 2) (λ i y=>y.2=(i:Int)/\y.1.Cells.length=i+1/\y.1.Print=r0.Print/\Xv y.1 r0) ?_ ?_ (r0,0) ⟨rfl,by simp[h0],rfl,rfl,rfl,rfl,rfl⟩
 ·rintro i ⟨r,i'⟩ hi ⟨h1,h2,h3,h4⟩;simp only at h1 h2 h3 h4;subst h1;obtain⟨c,hcm,hci⟩:=Nw (l:=x.C) (i:=(i:Int)) (by omega) (by omega);have hu:=hx c hcm;have hr:=CE (m:=8) hu.1 (by omega);obtain⟨z,_,hz⟩:=Nw (l:=([1,3,9,5,7,32,44,60]:List Int)) (i:=Bj c 8) hr.1 (by simpa using hr.2);unfold CU;refine Tot.iteT (by simp only[Jla,decide_eq_true_eq];omega) (Tot.bindC hci (Tot.bindC hz (Tot.bindC (Nu (by simp;omega)) (JkI ⟨Bm (by omega),by simp[h2],h3,h4⟩))))
 ·rintro⟨r,i'⟩ ⟨h1,h2,h3,h4⟩;simp only at h1 h2 h3 h4;subst h1;unfold CU;exact Tot.iteF (by rw[← JkX];simp only[Jla,decide_eq_true_eq];omega) (JkI ⟨by show r.Cells.length<=3/\1<=r.Cells.length;omega,h3,h4⟩)
theorem Jd5 {x:CD} (hx:Xu x) {m:Int} (hm:1<=m) (hm':m<=2):Tot (λ n=>HV n x m) (λ r=>Lz r/\(r.Cells.length<=3/\1<=r.Cells.length)/\0<=r.From/\r.From<m/\0<=r.To/\r.To<m):=by
 obtain⟨hP,hC,hL,hR,hW0,hW1⟩:=hx;have l8:=CE (m:=8) hL.1 (by omega);have r8:=CE (m:=8) hR.1 (by omega);obtain⟨a,ham,ha⟩:=Nw (l:=([63,63,2,8,17,62,4,1]:List Int)) (i:=Bj x.L 8) l8.1 (by simpa using l8.2);obtain⟨b,hbm,hb⟩:=Nw (l:=([63,63,2,8,17,62,4,1]:List Int)) (i:=Bj x.R 8) r8.1 (by simpa using r8.2);have hq:0<=Jdf .u8 x.L 8:=by unfold Jdf;exact(UX _).1
 have q8:=CE (m:=8) hq (by omega);obtain⟨c,_,hc⟩:=Nw (l:=([1,3,9,5,7,32,44,60]:List Int)) (i:=Bj (Jdf .u8 x.L 8) 8) q8.1 (by simpa using q8.2);have hg:Cd (!(m==0))=some ():=CP (by simp;omega);have w0:IntKind.i64.wrap x.W.a0=x.W.a0:=Qm (by have:=hW0.1;omega) (by have:=hW0.2;omega);have w1:IntKind.i64.wrap x.W.a1=x.W.a1:=Qm (by have:=hW1.1;omega) (by have:=hW1.2;omega);have hfr:=CE (a:=x.W.a0) (m:=m) hW0.1 (by omega);have hto:=CE (a:=x.W.a1) (m:=m) hW1.1 (by omega);have hbr:0<=b/\b<=63:=by
  simp at hbm;omega
 unfold HV;refine Tot.bindC ha (Tot.bindC hb (Tot.bindC hg (Tot.bindC hg (Tot.bind (Jck x hP _ rfl) ?_))));rintro r1 ⟨p1,p2,p3,p4,p5⟩;refine Tot.bindC hc (Tot.bind (Jcl x hC _ rfl) ?_);rintro r2 ⟨q1,q2,q3,q4,q5,q6⟩;simp only at q2 q3 q4 q5 q6;rw[p3]at q4;rw[p4]at q5;rw[p5]at q6;simp only[w0,w1]at q5 q6 q4;refine JkI ⟨⟨?_,?_,?_,?_,?_⟩,q1,?_,?_,?_,?_⟩
 all_goals first|(rw[q6];omega)|(rw[q4];omega)|(rw[q5];omega)|(rw[q2];exact p1)
def ME (x:Ji):Prop:=0<=x.Base/\∀ r∈x.More,Xu r
structure LA (t:Aa):Prop where
 tab:H9 t
 lo:1<=t.Modes
 hi:t.Modes<=2
 valid:DR t=true
theorem LA.sound {t:Aa} (h:LA t):∀ r∈t.Rules,B6 r t.Modes=true:=IY h.valid
theorem IZ {r:Az} {m:Int} (h:B6 r m=true):r.Print.length<=4/\1<=r.Cells.length/\r.Cells.length<=4:=by
 simp only[B6,Jla,decide_eq_true_eq]at h;omega
theorem LA.small {t:Aa} (h:LA t):Fb t:=⟨by have:=h.tab.1;omega,λ r hr=>by have:=IZ (h.sound r hr);exact⟨by omega,by omega⟩⟩
theorem Jcm (x:Ji) (b:Aa) (hb:b.Rules.length<=8):Tot (λ n=>whl (λ (y:(Aa×Int))=>CW n x b y.1 y.2) n (({ Modes:=b.Modes,Accept:=b.Accept,Rules:=[] }:Aa),0)) (λ t=>t.Modes=b.Modes/\t.Accept=b.Accept/\t.Rules.Sublist b.Rules):=by
 refine Tot.upto (body:=λ n y=>CW n x b y.1 y.2) b.Rules.length (λ i y=>y.2=(i:Int)/\y.1.Modes=b.Modes/\y.1.Accept=b.Accept/\y.1.Rules.Sublist (b.Rules.take i)) ?_ ?_ _ ⟨rfl,rfl,rfl,by simp⟩
 ·rintro i ⟨t,i'⟩ hi ⟨h1,h2,h3,h4⟩;simp only at h1 h2 h3 h4;subst h1;have ht:b.Rules.take (i+1)=b.Rules.take i++[b.Rules.getD i default]:=by rw[List.take_add_one,Cb hi,Jk9 hi];rfl
  have hlen:=h4.length_le;rw[List.length_take]at hlen;unfold CW;refine Tot.iteT (GM hi) (Tot.bindC (CP (by simp)) (Tot.ite (λ _=>Tot.bindC (GL hi) (Tot.bindC (Nu (by simp;omega)) ?_)) λ _=>?_))
  ·unfold Dy;exact JkI ⟨Bm (by omega),h2,h3,by rw[ht];exact h4.append (List.Sublist.refl _)⟩
  ·unfold Dy;exact JkI ⟨Bm (by omega),h2,h3,by rw[ht];exact h4.trans (List.sublist_append_left _ _)⟩
 ·rintro⟨t,i'⟩ ⟨h1,h2,h3,h4⟩;simp only at h1 h2 h3 h4;subst h1;rw[List.take_length]at h4;unfold CW;exact Tot.iteF (by simp) (JkI ⟨h2,h3,h4⟩)
structure Jh3 (b t:Aa):Prop where
 modes:t.Modes=b.Modes
 accept:t.Accept=b.Accept
 rules:∀ r∈t.Rules,Lz r/\r.Cells.length<=4
 valid:t.Rules=[]\/DR t=true
theorem R0 {t:Aa} (hl:t.Rules.length<=11) (h:∀ r∈t.Rules,Lz r/\r.Cells.length<=4):Fb t:=⟨by omega,λ r hr=>⟨by have:=(h r hr).1.2.2.2.2;omega,by have:=(h r hr).2;omega⟩⟩
theorem Jcn (x:Ji) (hx:∀ r∈x.More,Xu r) (b t0:Aa) (hlo:1<=b.Modes) (hhi:b.Modes<=2) (h0:Jh3 b t0) (hl0:t0.Rules.length<=8):Tot (λ n=>whl (λ (y:(Aa×Int))=>CX n x b y.1 y.2) n (t0,0)) (λ t=>Jh3 b t/\t.Rules.length<=10):=by
 refine Tot.upto (body:=λ n y=>CX n x b y.1 y.2) (min x.More.length 2) (λ i y=>y.2=(i:Int)/\Jh3 b y.1/\y.1.Rules.length<=8+i) ?_ ?_ _ ⟨rfl,h0,by simpa using hl0⟩
 ·rintro i ⟨t,i'⟩ hi ⟨h1,h2,h3⟩;simp only at h1 h2 h3;subst h1;unfold CX;refine Tot.iteT (by simp only[Jla,decide_eq_true_eq];omega) (Tot.bindC (Bf (by omega)) ?_);rw[h2.modes];refine Tot.bind (Jd5 (hx _ (JkV _)) hlo hhi) ?_;rintro r ⟨hr1,hr2,-⟩;refine Tot.bindC (Nu (by simp;omega)) ?_;have hall:∀ q∈t.Rules++[r],Lz q/\q.Cells.length<=4:=by
   intro q hq;simp only[List.mem_append,List.mem_singleton]at hq;rcases hq with hq|rfl
   ·exact h2.rules q hq
   ·exact⟨hr1,by omega⟩
  refine JkJ (Jcj (R0 (t:=⟨b.Modes,t.Accept,t.Rules++[r]⟩) (by simp;omega) hall)) ?_;refine Tot.ite (λ _=>?_) λ hv=>?_
  ·have e:IC .i64 ((List.length (t.Rules++[r]):Nat):Int) 1=(t.Rules.length:Nat):=by
    rw[RW (by simp<;>omega) (by simp<;>omega)];simp
   rw[e];refine Tot.bindC (Xr (by simp)) ?_;unfold Dz;rw[List.take_left' rfl];exact JkI ⟨Bm (by omega),⟨rfl,h2.accept,h2.rules,by have:=h2.valid;have hm:=h2.modes;cases t;simp only at hm this⊢;subst hm;exact this⟩,by simp only;omega⟩
  ·unfold Dz;exact JkI ⟨Bm (by omega),⟨rfl,h2.accept,hall,.inr (by simpa using hv)⟩,by simp;omega⟩
 ·rintro⟨t,i'⟩ ⟨h1,h2,h3⟩;simp only at h1 h2 h3;subst h1;unfold CX;exact Tot.iteF (by rw[← JkX];simp only[Jla,decide_eq_true_eq];omega) (JkI ⟨h2,by show t.Rules.length<=10;omega⟩)
theorem Y9 {x:Ji} (hx:ME x):∃ t,(LA t/\1<=t.Rules.length/\t.Rules.length<=10)/\Ev (λ n=>FF n x) t:=by
 have hb:∀ n,FC n x.Base=some (EY (Bj x.Base 8)):=λ n=>(MD n x.Base hx.1).1;have hok:=Xt (MD 0 x.Base hx.1).2.1 (MD 0 x.Base hx.1).2.2;generalize EY (Bj x.Base 8)=b at *;unfold OJ at hok;simp only[Jla,decide_eq_true_eq,JkT]at hok;obtain⟨⟨⟨⟨o1,o2⟩,o3⟩,o4⟩,o5⟩:=hok;have gb:∀ r∈b.Rules,Lz r/\r.Cells.length<=4:=λ r hr=>⟨Qp (o2 r hr),(IZ (IY o5 r hr)).2.2⟩;have hne:∀ t:Aa,DR t=true->1<=t.Rules.length:=λ t h=>by
  unfold DR Vc at h;simp only[Jla,Bool.not_eq_true',Jk8,decide_eq_false_iff_not]at h;omega
 have:Tot (λ n=>FF n x) (λ t=>LA t/\1<=t.Rules.length/\t.Rules.length<=10):=by
  unfold FF;refine JkK hb (Tot.bind (Jcm x b o1) ?_);rintro t1 ⟨a1,a2,a3⟩;refine Tot.bind (Jcn x hx.2 b t1 o3 o4 ⟨a1,a2,λ r hr=>gb r (a3.subset hr),?_⟩ (by have:=a3.length_le;omega)) ?_
  ·rcases Nat.eq_zero_or_pos t1.Rules.length with h|h
   ·exact .inl (List.length_eq_zero_iff.1 h)
   ·right;have:=WG o5 a3 h;cases t1;simp only at a1 a2 this⊢;subst a1 a2;exact this
  rintro t2 ⟨b1,b2⟩;refine Tot.ite (λ h=>?_) λ h=>?_
  ·unfold Ep;have e:(⟨t2.Modes,t2.Accept,b.Rules⟩:Aa)=b:=by rw[b1.modes,b1.accept]
   rw[e];exact JkI ⟨⟨⟨by omega,λ r hr=>(gb r hr).1⟩,o3,o4,o5⟩,hne b o5,by omega⟩
  ·unfold Ep;have hv:DR t2=true:=b1.valid.resolve_left λ e=>by rw[e]at h;cases h
   exact JkI ⟨⟨⟨by omega,λ r hr=>(b1.rules r hr).1⟩,by rw[b1.modes];exact o3,by rw[b1.modes];exact o4,hv⟩,hne t2 hv,b2⟩
 obtain⟨t,ht,hE⟩:=this;exact⟨t,ht,hE⟩
end Go.AI
end
section
namespace Go.AI
def DB (t:Aa) (k:Int):Az:=t.Rules[k.toNat]?.getD default
theorem MF {t:Aa} {s:Ae} {k:Int} (h:(Bl t s k).2=true):0<=k/\k<t.Rules.length:=by
 unfold Bl at h;split at h
 ·cases h
 ·rename_i hk;simp only[Jls,decide_eq_true_eq,not_or]at hk;omega
theorem MG {t:Aa} {k:Int} (h:0<=k) (h':k<t.Rules.length):idx t.Rules k=some (DB t k):=Qo h h'
theorem WH {t:Aa} {k:Int} (h:0<=k) (h':k<t.Rules.length):DB t k∈t.Rules:=by
 unfold DB;rw[Jk9 (by omega)];exact JkV _
end Go.AI
end
section
namespace Go.AI
theorem Xw {st:List Ae} (hn:st.Nodup) {i j:Nat} {s:Ae} (h:st[i]?=some s) (h':st[j]?=some s):i=j:=by
 have a:=C5 hn h;rw[C5 hn h']at a;cases a;rfl
theorem D7 {i:Nat} (h:i<9223372036854775807):AX .i64 (i:Int) 1=((i+1:Nat):Int):=by
 rw[Qn (by omega) (by omega)];rfl
end Go.AI
end
section
namespace Go.AI
def Edge (t:Aa) (st:List Ae) (i:Nat) (k:Nat) (j:Nat):Prop:=∃ s s',st[i]?=some s/\k<t.Rules.length/\st[j]?=some s'/\Bl t s (k:Nat)=(s',true)
inductive Vd (t:Aa) (st:List Ae):Nat->Prop
 | acc (i:Nat) (s:Ae) (h:st[i]?=some s) (ha:A2 t s=true):Vd t st i
 | step (i k j:Nat) (h:Edge t st i k j) (hj:Vd t st j):Vd t st i
def Qq (t:Aa) (st:List Ae) (l:List Bool):Prop:=l.length=st.length/\∀ i:Nat,l[i]?=some true↔Vd t st i
theorem Vd.lt {t:Aa} {st:List Ae} {i:Nat} (h:Vd t st i):i<st.length:=by
 cases h with
 | acc _ s h ha=>exact AC h
 | step _ k j h hj=>obtain⟨s,s',h,_⟩:=h;exact AC h
theorem Qq.uniq {t:Aa} {st:List Ae} {l m:List Bool} (h:Qq t st l) (h':Qq t st m):l=m:=by
 refine List.ext_getElem? λ i=>?_;rcases JkZ i st.length with hi|hi
 ·have h1:i<l.length:=by rw[h.1];exact hi
  have h2:i<m.length:=by rw[h'.1];exact hi
  have e:=(h.2 i).trans (h'.2 i).symm;rw[Jk9 h1,Jk9 h2]at e⊢;cases ha:l[i]<;>cases hb:m[i]<;>simp_all
 ·rw[List.getElem?_eq_none_iff.2 (by rw[h.1];exact hi),List.getElem?_eq_none_iff.2 (by rw[h'.1];exact hi)]
theorem Qq.of {t:Aa} {st:List Ae} {l:List Bool} (hl:l.length=st.length) (hs:∀ i,l[i]?=some true->Vd t st i) (ha:∀ (i:Nat) s,st[i]?=some s->A2 t s=true->l[i]?=some true) (hc:∀ i k j,Edge t st i k j->l[j]?=some true->l[i]?=some true):Qq t st l:=by
 refine⟨hl,λ i=>⟨hs i,λ h=>?_⟩⟩;induction h with
 | acc i s h h'=>exact ha i s h h'
 | step i k j h _ ih=>exact hc i k j h ih
def JjO (l:List Bool):Nat:=l.count false
structure Jco (t:Aa) (st:List Ae) (out0 out:List Bool) (g:Bool) (i m:Nat):Prop where
 len:out.length=st.length
 snd:∀ j:Nat,out[j]?=some true->Vd t st j
 acc:∀ (j:Nat) s,st[j]?=some s->A2 t s=true->out[j]?=some true
 same:g=false->out=out0
 less:g=true->JjO out<JjO out0
 cl:g=false->∀ i' k j,(i'<i\/(i'=i/\k<m))->Edge t st i' k j->out[j]?=some true->out[i']?=some true
theorem Jco.stop {t:Aa} {st:List Ae} {out0 out:List Bool} {g:Bool} {i m:Nat} (h:Jco t st out0 out g i m) (hm:t.Rules.length<=m\/out[i]?=some true):Jco t st out0 out g (i+1) 0:=by
 refine⟨h.len,h.snd,h.acc,h.same,h.less,λ hg i' k j hi he hj=>?_⟩;rcases JkZ i' i with hlt|hge
 ·exact h.cl hg i' k j (.inl hlt) he hj
 ·have:i'=i:=by omega
  subst this;rcases hm with hm|hm
  ·obtain⟨s,s',_,hk,_⟩:=id he;exact h.cl hg i' k j (.inr ⟨rfl,by omega⟩) he hj
  ·exact hm
end Go.AI
end
section
namespace Go.AI
def ldT:List UInt8->List UInt8->Int×List UInt8
 | [],[]=>(0,[])
 | a::x,[]=>(1,a::x)
 | [],b::y=>(2,b::y)
 | a::x,b::y=>if a=b then ldT x y else(3,[])
def Qr (l:Int×List UInt8) (p q:List UInt8):Int×List UInt8:=
 if l.1=1 then ldT (l.2++p) q else if l.1=2 then ldT p (l.2++q)else if l.1=3 then l else ldT p q
def swT (l:Int×List UInt8):Int×List UInt8:=if l.1=1 then(2,l.2)else if l.1=2 then(1,l.2)else l
def Ve (l:Int×List UInt8):Prop:=(l.1=0/\l.2=[])\/(l.1=1/\l.2≠[])\/(l.1=2/\l.2≠[])\/(l.1=3/\l.2=[])
theorem Jcp:∀ x y,Ve (ldT x y)
 | [],[]=>.inl ⟨rfl,rfl⟩
 | a::x,[]=>.inr (.inl ⟨rfl,by simp[ldT]⟩)
 | [],b::y=>.inr (.inr (.inl ⟨rfl,by simp[ldT]⟩))
 | a::x,b::y=>by
  unfold ldT;split
  ·exact Jcp x y
  ·exact .inr (.inr (.inr ⟨rfl,rfl⟩))
theorem J9 (a b:UInt8) (x y:List UInt8):ldT (a::x) (b::y)=if a=b then ldT x y else(3,[]):=rfl
theorem MH:∀ (x y p q:List UInt8),ldT (x++p) (y++q)=Qr (ldT x y) p q
 | [],[],p,q=>rfl
 | a::x,[],p,q=>rfl
 | [],b::y,p,q=>rfl
 | a::x,b::y,p,q=>by
  show ldT (a::(x++p)) (b::(y++q))=_;rw[J9,J9];split
  ·exact MH x y p q
  ·rfl
theorem Ka:∀ x y,ldT y x=swT (ldT x y)
 | [],[]=>rfl
 | a::x,[]=>rfl
 | [],b::y=>rfl
 | a::x,b::y=>by
  rw[J9,J9];by_cases h:a=b
  ·subst h;rw[if_pos rfl,if_pos rfl];exact Ka x y
  ·rw[if_neg h,if_neg (Ne.symm h)];rfl
theorem Qs:∀ {x y:List UInt8},(ldT x y).1=0↔x=y
 | [],[]=>by simp[ldT]
 | a::x,[]=>by simp[ldT]
 | [],b::y=>by simp[ldT]
 | a::x,b::y=>by
  rw[J9];split
  ·rename_i h;subst h;rw[Qs];simp
  ·rename_i h;simp[h]
theorem Za {l:Int×List UInt8} (h:Ve l) (p q:List UInt8):Qr (swT l) q p=swT (Qr l p q):=by
 obtain⟨s,t⟩:=l;rcases h with⟨h1,h2⟩|⟨h1,h2⟩|⟨h1,h2⟩|⟨h1,h2⟩<;>simp only at h1 h2<;>subst h1
 ·exact Ka p q
 ·exact Ka (t++p) q
 ·exact Ka p (t++q)
 ·rfl
theorem Zb {l m:Int×List UInt8} (hl:Ve l) (hm:Ve m) {p q:List UInt8} (h1:(Qr l p q).1=0) (h2:(Qr m p q).1=0):l=m:=by
 have key:∀ {l:Int×List UInt8},Ve l->(Qr l p q).1=0->(l.1=0/\l.2=[]/\p=q)\/(l.1=1/\l.2≠[]/\l.2++p=q)\/(l.1=2/\l.2≠[]/\p=l.2++q):=by
  intro l hl h;obtain⟨s,t⟩:=l;rcases hl with⟨e1,e2⟩|⟨e1,e2⟩|⟨e1,e2⟩|⟨e1,e2⟩<;>simp only at e1 e2<;>subst e1
  ·exact .inl ⟨rfl,e2,Qs.1 h⟩
  ·exact .inr (.inl ⟨rfl,e2,Qs.1 h⟩)
  ·exact .inr (.inr ⟨rfl,e2,Qs.1 h⟩)
  ·exact absurd (show(3:Int)=0 from h) (by decide)
 have hlen:∀ {t:List UInt8},t≠[]->0<t.length:=λ h=>List.length_pos_iff.2 h;rcases key hl h1 with⟨a1,a2,a3⟩|⟨a1,a2,a3⟩|⟨a1,a2,a3⟩<;>rcases key hm h2 with⟨b1,b2,b3⟩|⟨b1,b2,b3⟩|⟨b1,b2,b3⟩
 ·exact Prod.ext (by rw[a1,b1]) (by rw[a2,b2])
 ·have:=hlen b2;have:=congrArg List.length b3;have:=congrArg List.length a3;simp only[List.length_append]at *;omega
 ·have:=hlen b2;have:=congrArg List.length b3;have:=congrArg List.length a3;simp only[List.length_append]at *;omega
 ·have:=hlen a2;have:=congrArg List.length b3;have:=congrArg List.length a3;simp only[List.length_append]at *;omega
 ·exact Prod.ext (by rw[a1,b1]) (List.append_cancel_right (a3.trans b3.symm))
 ·have:=hlen a2;have:=hlen b2;have:=congrArg List.length b3;have:=congrArg List.length a3;simp only[List.length_append]at *;omega
 ·have:=hlen a2;have:=congrArg List.length b3;have:=congrArg List.length a3;simp only[List.length_append]at *;omega
 ·have:=hlen a2;have:=hlen b2;have:=congrArg List.length b3;have:=congrArg List.length a3;simp only[List.length_append]at *;omega
 ·exact Prod.ext (by rw[a1,b1]) (List.append_cancel_right (a3.symm.trans b3))
structure Ac where
 p:List UInt8
 c:List Int
 to:Nat
abbrev Hf:=Nat×List Int
inductive Sp (A:Nat->Ac->Prop):Hf->Int->List UInt8->Hf->Prop
 | rest (k:Nat) (c:Int) (r:List Int):Sp A (k,c::r) c [] (k,r)
 | arc {k:Nat} {a:Ac} {c:Int} {r:List Int} (h:A k a) (hc:a.c=c::r):Sp A (k,[]) c a.p (a.to,r)
inductive Rn (A:Nat->Ac->Prop):Hf->List Int->List UInt8->Hf->Prop
 | nil (h:Hf):Rn A h [] [] h
 | cons {h h' h'':Hf} {c:Int} {w:List Int} {p x:List UInt8} (h1:Sp A h c p h') (h2:Rn A h' w x h''):Rn A h (c::w) (p++x) h''
theorem Rn.one {A:Nat->Ac->Prop} {h h':Hf} {c:Int} {p:List UInt8} (s:Sp A h c p h'):Rn A h [c] p h':=by
 have:=Rn.cons s (Rn.nil (A:=A) h');rwa[List.append_nil]at this
theorem Rn.app {A:Nat->Ac->Prop} {h h' h'':Hf} {w v:List Int} {x y:List UInt8} (h1:Rn A h w x h') (h2:Rn A h' v y h''):Rn A h (w++v) (x++y) h'':=by
 induction h1 with
 | nil h=>exact h2
 | cons s _ ih=>have:=Rn.cons s (ih h2);rwa[← List.append_assoc]at this
theorem Rn.inv {A:Nat->Ac->Prop} {h h':Hf} {x:List UInt8} {c:Int} {w:List Int} (H:Rn A h (c::w) x h'):∃ h1 p y,Sp A h c p h1/\Rn A h1 w y h'/\x=p++y:=by
 cases H with
 | cons s r=>exact⟨_,_,_,s,r,rfl⟩
theorem Rn.inv0 {A:Nat->Ac->Prop} {h h':Hf} {x:List UInt8} (H:Rn A h [] x h'):h'=h/\x=[]:=by
 cases H;exact⟨rfl,rfl⟩
def En (A:Nat->Ac->Prop) (acc:Nat->Prop) (h:Hf) (w:List Int) (x:List UInt8):Prop:=∃ k,Rn A h w x (k,[])/\acc k
def Amb (A:Nat->Ac->Prop) (acc:Nat->Prop) (w:List Int):Prop:=∃ x y,x≠y/\En A acc (0,[]) w x/\En A acc (0,[]) w y
def Rch (A:Nat->Ac->Prop) (w:List Int) (a b:Hf) (l:Int×List UInt8):Prop:=∃ x y,Rn A (0,[]) w x a/\Rn A (0,[]) w y b/\ldT x y=l
theorem Rch.ok {A:Nat->Ac->Prop} {w:List Int} {a b:Hf} {l:Int×List UInt8} (h:Rch A w a b l):Ve l:=by obtain⟨x,y,_,_,rfl⟩:=h;exact Jcp x y
theorem Rch.swap {A:Nat->Ac->Prop} {w:List Int} {a b:Hf} {l:Int×List UInt8} (h:Rch A w a b l):Rch A w b a (swT l):=by
 obtain⟨x,y,h1,h2,rfl⟩:=h;exact⟨y,x,h2,h1,Ka x y⟩
theorem Rch.step {A:Nat->Ac->Prop} {w:List Int} {a b a' b':Hf} {l:Int×List UInt8} {c:Int} {p q:List UInt8} (h:Rch A w a b l) (h1:Sp A a c p a') (h2:Sp A b c q b'):Rch A (w++[c]) a' b' (Qr l p q):=by
 obtain⟨x,y,g1,g2,rfl⟩:=h;exact⟨x++p,y++q,g1.app (Rn.one h1),g2.app (Rn.one h2),MH x y p q⟩
def Gd (A:Nat->Ac->Prop) (acc:Nat->Prop) (a b:Hf) (l:Int×List UInt8) (v:List Int):Prop:=∃ p q,En A acc a v p/\En A acc b v q/\(Qr l p q).1≠0
theorem Gd.swap {A:Nat->Ac->Prop} {acc:Nat->Prop} {v:List Int} {a b:Hf} {l:Int×List UInt8} (hl:Ve l) (g:Gd A acc a b l v):Gd A acc b a (swT l) v:=by
 obtain⟨p,q,g1,g2,g3⟩:=g;refine⟨q,p,g2,g1,?_⟩;rw[Za hl];unfold swT;split
 ·simp
 ·split
  ·simp
  ·exact g3
theorem Amb.gd {A:Nat->Ac->Prop} {acc:Nat->Prop} {w:List Int} (h:Amb A acc w):Gd A acc (0,[]) (0,[]) (0,[]) w:=by
 obtain⟨x,y,h1,h2,h3⟩:=h;exact⟨x,y,h2,h3,λ e=>h1 (Qs.1 e)⟩
theorem Gd.next {A:Nat->Ac->Prop} {acc:Nat->Prop} {a b:Hf} {w:List Int} {l:Int×List UInt8} {c:Int} {v:List Int} (h:Rch A w a b l) (g:Gd A acc a b l (c::v)):∃ p q a' b',Sp A a c p a'/\Sp A b c q b'/\Gd A acc a' b' (Qr l p q) v:=by
 obtain⟨x,y,h1,h2,rfl⟩:=h;obtain⟨p,q,⟨k,g1,g2⟩,⟨k',g3,g4⟩,g5⟩:=g;obtain⟨a',p1,p2,s1,r1,rfl⟩:=g1.inv;obtain⟨b',q1,q2,s2,r2,rfl⟩:=g3.inv;refine⟨p1,q1,a',b',s1,s2,p2,q2,⟨k,r1,g2⟩,⟨k',r2,g4⟩,?_⟩;rw[← MH,← List.append_assoc,← List.append_assoc,MH,MH]at g5;exact g5
def Cov (R:(Int×List UInt8)->Prop) (l:Int×List UInt8):Prop:=R l\/R (3,[])\/∃ m m',R m/\R m'/\m≠m'
theorem Cov.gd {A:Nat->Ac->Prop} {acc:Nat->Prop} {R:(Int×List UInt8)->Prop} {l:Int×List UInt8} (h:Cov R l) (hR:∀ m,R m->Ve m) {a b:Hf} {v:List Int} (g:Gd A acc a b l v):∃ m,R m/\Gd A acc a b m v:=by
 rcases h with h|h|⟨m,m',h1,h2,h3⟩
 ·exact⟨l,h,g⟩
 ·obtain⟨p,q,g1,g2,_⟩:=g;exact⟨_,h,p,q,g1,g2,by simp[Qr]⟩
 ·obtain⟨p,q,g1,g2,_⟩:=g;by_cases e:(Qr m p q).1=0
  ·exact⟨m',h2,p,q,g1,g2,λ e'=>h3 (Zb (hR m h1) (hR m' h2) e e')⟩
  ·exact⟨m,h1,p,q,g1,g2,e⟩
def ltL:List Int->List Int->Bool
 | [],[]=>false
 | [],_::_=>true
 | _::_,[]=>false
 | a::x,b::y=>decide (a<b)||(a==b&&ltL x y)
def ltW (x y:List Int):Prop:=x.length<y.length\/(x.length=y.length/\ltL x y=true)
theorem Xx:∀ {x y:List Int},x.length=y.length->ltL x y=true\/x=y\/ltL y x=true
 | [],[],_=>.inr (.inl rfl)
 | [],_::_,h=>by simp at h
 | _::_,[],h=>by simp at h
 | a::x,b::y,h=>by
  simp only[ltL,Jls,decide_eq_true_eq,Jla,beq_iff_eq];rcases Int.lt_trichotomy a b with h1|rfl|h1
  ·exact .inl (.inl h1)
  ·rcases Xx (by simpa using h:x.length=y.length)with h2|rfl|h2
   ·exact .inl (.inr ⟨rfl,h2⟩)
   ·exact .inr (.inl rfl)
   ·exact .inr (.inr (.inr ⟨rfl,h2⟩))
  ·exact .inr (.inr (.inl h1))
theorem Xy (x y:List Int):ltW x y\/x=y\/ltW y x:=by
 rcases Nat.lt_trichotomy x.length y.length with h|h|h
 ·exact .inl (.inl h)
 ·rcases Xx h with h1|h1|h1
  ·exact .inl (.inr ⟨h,h1⟩)
  ·exact .inr (.inl h1)
  ·exact .inr (.inr (.inr ⟨h.symm,h1⟩))
 ·exact .inr (.inr (.inl h))
def Lst (A:Nat->Ac->Prop) (acc:Nat->Prop) (w:List Int):Prop:=Amb A acc w/\∀ u,Amb A acc u->¬ltW u w
theorem Lst.uniq {A:Nat->Ac->Prop} {acc:Nat->Prop} {w u:List Int} (h:Lst A acc w) (h':Lst A acc u):w=u:=by
 rcases Xy w u with h1|h1|h1
 ·exact absurd h1 (h'.2 w h.1)
 ·exact h1
 ·exact absurd h1 (h.2 u h'.1)
end Go.AI
end
section
namespace Go.AI
def prt (t:Aa) (k:Nat):List UInt8:=(DB t (k:Int)).Print
def cls (t:Aa) (k:Nat):List Int:=(DB t (k:Int)).Cells
theorem Sp.inv {A:Nat->Ac->Prop} {h x:Hf} {c:Int} {p:List UInt8} (H:Sp A h c p x):(∃ r,h.2=c::r/\p=[]/\x=(h.1,r))\/(h.2=[]/\∃ a r,A h.1 a/\a.c=c::r/\p=a.p/\x=(a.to,r)):=by
 cases H with
 | rest k c r=>exact .inl ⟨r,rfl,rfl,rfl⟩
 | arc h hc=>exact .inr ⟨rfl,_,_,h,hc,rfl,rfl⟩
theorem Jcq {β:Type} {c:Bool} {x:Option β} {y d:β} (h:x=some y):(if c=true then x else some d)=some (if c=true then y else d):=by
 cases c with
 | true=>exact h
 | false=>rfl
theorem Rn.rest {A:Nat->Ac->Prop} (k:Nat) (r:List Int):Rn A (k,r) r [] (k,[]):=by
 induction r with
 | nil=>exact .nil _
 | cons c r ih=>have:=Rn.cons (Sp.rest (A:=A) k c r) ih;simpa using this
theorem Rn.skip {A:Nat->Ac->Prop} {k k':Nat}:∀ {r w:List Int} {x:List UInt8},Rn A (k,r) w x (k',[])->∃ w',w=r++w'/\Rn A (k,[]) w' x (k',[])
 | [],w,x,h=>⟨w,rfl,h⟩
 | c::r,[],x,h=>by have:=h.inv0.1;cases this
 | c::r,c'::w,x,h=>by
  obtain⟨h1,p,y,s,h2,rfl⟩:=h.inv;rcases s.inv with⟨r',e1,rfl,rfl⟩|⟨e1,_⟩
  ·have e1:c::r=c'::r':=e1;cases e1;obtain⟨w',rfl,h3⟩:=Rn.skip h2;exact⟨w',rfl,h3⟩
  ·cases e1
theorem Rn.arc {A:Nat->Ac->Prop} {k:Nat} {a:Ac} (h:A k a) (hc:a.c≠[]):Rn A (k,[]) a.c a.p (a.to,[]):=by
 cases hcc:a.c with
 | nil=>exact absurd hcc hc
 | cons c r=>have:=Rn.cons (Sp.arc h hcc) (Rn.rest (A:=A) a.to r);simpa using this
theorem En.arcs {A:Nat->Ac->Prop} {acc:Nat->Prop} (hA:∀ k a,A k a->a.c≠[]) {k:Nat} {v:List Int} {x:List UInt8}:En A acc (k,[]) v x↔(v=[]/\x=[]/\acc k)\/∃ a v' x',A k a/\v=a.c++v'/\x=a.p++x'/\En A acc (a.to,[]) v' x':=by
 constructor
 ·rintro⟨k',h1,h2⟩;cases v with
  | nil=>
   obtain⟨e1,e2⟩:=h1.inv0;cases e1;exact .inl ⟨rfl,e2,h2⟩
  | cons c v=>
   obtain⟨h,p,y,s,r,rfl⟩:=h1.inv;rcases s.inv with⟨r',e1,_⟩|⟨_,a,r',ha,hc,rfl,rfl⟩
   ·cases e1
   ·obtain⟨w',rfl,h3⟩:=Rn.skip r;exact .inr ⟨a,w',y,ha,by rw[hc];rfl,rfl,k',h3,h2⟩
 ·rintro (⟨rfl,rfl,h⟩|⟨a,v',x',ha,rfl,rfl,k',h1,h2⟩)
  ·exact⟨k,.nil _,h⟩
  ·exact⟨k',(Rn.arc ha (hA k a ha)).app h1,h2⟩
end Go.AI
end
section
namespace Go.AI
def Kb (t:Aa) (s:Ae):List Int->Ae->Prop
 | [],s'=>s=s'
 | k::p,s'=>(Bl t s k).2=true/\Kb t (Bl t s k).1 p s'
theorem Kb.snoc {t:Aa}:∀ {p:List Int} {s s':Ae} {k:Int},Kb t s p s'->(Bl t s' k).2=true->Kb t s (p++[k]) (Bl t s' k).1
 | [],s,s',k,h,h'=>by
  unfold Kb at h;subst h;exact⟨h',rfl⟩
 | a::p,s,s',k,h,h'=>⟨h.1,Kb.snoc h.2 h'⟩
theorem Kb.mem {t:Aa}:∀ {p:List Int} {s s':Ae},Kb t s p s'->∀ k∈p,0<=k/\k<t.Rules.length
 | [],_,_,_,k,hk=>by cases hk
 | a::p,s,s',h,k,hk=>by
  rcases List.mem_cons.1 hk with rfl|hk
  ·exact MF h.1
  ·exact Kb.mem h.2 k hk
def Kc (t:Aa) (p:List Int):List UInt8:=p.flatMap λ k=>(DB t k).Print
def cellsOf (t:Aa) (p:List Int):List Int:=p.flatMap λ k=>(DB t k).Cells
end Go.AI
end
section
namespace Go.AI
theorem Zc {r:Az} {m:Int} (h:B6 r m=true):(∀ b∈r.Print,FY b=true)/\(∀ c∈r.Cells,c<63)/\r.Cells.countP (λ c=>c==0)=r.Print.countP CQ:=by
 unfold B6 at h;simp only[Jla,JkT,decide_eq_true_eq]at h;obtain⟨⟨⟨⟨⟨⟨h1,_⟩,_⟩,_⟩,_⟩,h2⟩,h3⟩:=h;refine⟨h1,h2,?_⟩;cases hs:r.Print.any CQ with
 | true=>
  rw[hs]at h3;simp only[cond_true,Jla,decide_eq_true_eq]at h3;obtain⟨⟨a,b⟩,c⟩:=h3;obtain⟨x,hx⟩:=List.length_eq_one_iff.1 a;obtain⟨y,hy⟩:=List.length_eq_one_iff.1 b;rw[hx]at hs⊢;rw[hy]at c⊢;simp only[List.any_cons,List.any_nil,Bool.or_false]at hs c;simp[hs,c]
 | false=>
  rw[hs]at h3;simp only[cond_false,Bool.not_eq_true']at h3;rw[List.any_eq_false]at h3 hs;rw[List.countP_eq_zero.2 h3,List.countP_eq_zero.2 hs]
end Go.AI
end
section
namespace Go.AI
def ltB (a b:List UInt8):Prop:=Op.bytesLess a b=true
theorem Ts (a:List UInt8):¬ltB a []:=by cases a<;>simp[ltB,Op.bytesLess]
theorem Id {a b:UInt8} {x y:List UInt8}:ltB (a::x) (b::y)↔a<b\/(a=b/\ltB x y):=by
 simp[ltB,Op.bytesLess]
theorem C7:∀ a:List UInt8,¬ltB a a
 | []=>Ts _
 | a::x=>by
  rw[Id];rintro (h|⟨_,h⟩)
  ·exact UInt8.lt_irrefl a h
  ·exact C7 x h
theorem Ie:∀ {a b c:List UInt8},ltB a b->ltB b c->ltB a c
 | a,[],c,h,_=>absurd h (Ts a)
 | _,_::_,[],_,h=>absurd h (Ts _)
 | [],_::_,_::_,_,_=>rfl
 | a::x,b::y,c::z,h,h'=>by
  rw[Id]at *;rcases h with h|⟨rfl,h⟩
  ·rcases h' with h'|⟨rfl,_⟩
   ·exact .inl (UInt8.lt_trans h h')
   ·exact .inl h
  ·rcases h' with h'|⟨rfl,h'⟩
   ·exact .inl h'
   ·exact .inr ⟨rfl,Ie h h'⟩
theorem If:∀ (a b:List UInt8),a=b\/ltB a b\/ltB b a
 | [],[]=>.inl rfl
 | [],_::_=>.inr (.inl rfl)
 | _::_,[]=>.inr (.inr rfl)
 | a::x,b::y=>by
  rw[Id,Id];by_cases h:a=b
  ·subst h;rcases If x y with rfl|h|h
   ·exact .inl rfl
   ·exact .inr (.inl (.inr ⟨rfl,h⟩))
   ·exact .inr (.inr (.inr ⟨rfl,h⟩))
  ·rcases Nat.lt_or_gt_of_ne (λ e=>h (UInt8.toNat_inj.1 e))with h1|h1
   ·exact .inr (.inl (.inl (UInt8.lt_iff_toNat_lt.2 h1)))
   ·exact .inr (.inr (.inl (UInt8.lt_iff_toNat_lt.2 h1)))
theorem R1 {a b:List UInt8} (h:ltB a b):¬ltB b a:=λ h'=>C7 a (Ie h h')
theorem Tt (c:List UInt8) {a b:List UInt8}:ltB (c++a) (c++b)↔ltB a b:=by
 induction c with
 | nil=>rfl
 | cons x c ih=>
  rw[List.cons_append,List.cons_append,Id,ih];exact⟨λ h=>h.elim (λ h=>absurd h (UInt8.lt_irrefl x)) λ h=>h.2,λ h=>.inr ⟨rfl,h⟩⟩
def Ig (l:List (List UInt8)):Prop:=l.Pairwise ltB
theorem Ig.ext:∀ {l m:List (List UInt8)},Ig l->Ig m->(∀ x,x∈l↔x∈m)->l=m
 | [],[],_,_,_=>rfl
 | [],b::m,_,_,h=>by have:=(h b).2 (by simp);cases this
 | a::l,[],_,_,h=>by have:=(h a).1 (by simp);cases this
 | a::l,b::m,hl,hm,h=>by
  have h1:=List.pairwise_cons.1 hl;have h2:=List.pairwise_cons.1 hm;have e:a=b:=by
   rcases List.mem_cons.1 ((h a).1 (by simp))with e|e
   ·exact e
   ·rcases List.mem_cons.1 ((h b).2 (by simp))with e'|e'
    ·exact e'.symm
    ·exact absurd (h1.1 b e') (R1 (h2.1 a e))
  subst e;congr 1;refine Ig.ext h1.2 h2.2 λ x=>⟨λ hx=>?_,λ hx=>?_⟩
  ·rcases List.mem_cons.1 ((h x).1 (by simp[hx]))with e|e
   ·subst e;exact absurd (h1.1 x hx) (C7 x)
   ·exact e
  ·rcases List.mem_cons.1 ((h x).2 (by simp[hx]))with e|e
   ·subst e;exact absurd (h2.1 x hx) (C7 x)
   ·exact e
end Go.AI
end
section
namespace Go.AI
def WrT (t:Aa) (w:List Int) (x:List UInt8):Prop:=∃ p s,Kb t B5 p s/\A2 t s=true/\cellsOf t p=w/\Kc t p=x
def Jcr (t:Aa) (w:List Int):Prop:=∃ x y,x≠y/\WrT t w x/\WrT t w y
def Jh4 (t:Aa) (w:List Int):Prop:=Jcr t w/\∀ u,Jcr t u->¬ltW u w
structure TbK (t:Aa):Prop where
 tab:H9 t
 valid:DR t=true
 pos:∀ r∈t.Rules,∀ c∈r.Cells,0<=c
theorem TbK.sound {t:Aa} (h:TbK t):∀ r∈t.Rules,B6 r t.Modes=true:=IY h.valid
theorem TbK.small {t:Aa} (h:TbK t):Fb t:=R0 h.tab.1 λ r hr=>⟨h.tab.2 r hr,(IZ (h.sound r hr)).2.2⟩
theorem EQ (t:Aa) (k:Int) (p:List Int):cellsOf t (k::p)=(DB t k).Cells++cellsOf t p:=rfl
theorem Kd (t:Aa) (k:Int) (p:List Int):Kc t (k::p)=(DB t k).Print++Kc t p:=rfl
end Go.AI
end
section
namespace Go.AI
theorem MJ {σ ρ:Type} {body:σ->Option (σ⊕ρ)} (I:σ->Prop) (P:ρ->Prop) (h1:∀ x y,I x->body x=some (.inl y)->I y) (h2:∀ x r,I x->body x=some (.inr r)->P r):∀ (n:Nat) (x:σ) (r:ρ),I x->whl body n x=some r->P r
 | 0,_,_,_,h=>by cases h
 | n+1,x,r,hI,h=>by
  unfold whl at h;cases hb:body x with
  | none=>rw[hb]at h;cases h
  | some y=>
   rw[hb]at h;cases y with
   | inl y=>exact MJ I P h1 h2 n y r (h1 x y hI hb) h
   | inr z=>cases h;exact h2 x _ hI hb
def Oq (r:Az):Prop:=∀ c∈r.Cells,0<=c
theorem Xz {α:Type} {l:List α} {i:Int} {x:α} (h:idx l i=some x):x∈l:=Jlb (CC h).2.2
theorem XA {i x:Int} (h:idx ([1,3,9,5,7,32,44,60]:List Int) i=some x):0<=x:=by
 have:=Xz h;simp only[List.mem_cons,List.not_mem_nil,or_false]at this;omega
theorem Jcs {n:Nat} {x:CD} {m:Int} {r:Az} (h:HV n x m=some r):Oq r:=by
 unfold HV at h;obtain⟨a,_,h⟩:=bind_some h;obtain⟨b,_,h⟩:=bind_some h;obtain⟨_,_,h⟩:=bind_some h;obtain⟨_,_,h⟩:=bind_some h;obtain⟨y,_,h⟩:=bind_some h;obtain⟨c,hc,h⟩:=bind_some h;obtain⟨z,hz,h⟩:=bind_some h;cases h;refine MJ (λ y=>Oq y.1) Oq (λ x' y hI hb=>?_) (λ x' r hI hb=>?_) n _ _ ?_ hz
 ·unfold CU at hb;rcases Dv hb with⟨_,hb⟩|⟨_,hb⟩
  ·obtain⟨a,_,hb⟩:=bind_some hb;obtain⟨c,hc,hb⟩:=bind_some hb;obtain⟨l,hl,hb⟩:=bind_some hb;cases hb;obtain⟨_,rfl⟩:=HN hl;intro d hd;rcases List.mem_append.1 hd with hd|hd
   ·exact hI d hd
   ·simp only[List.mem_singleton]at hd;rw[hd];exact XA hc
  ·cases hb
 ·unfold CU at hb;rcases Dv hb with⟨_,hb⟩|⟨_,hb⟩
  ·obtain⟨a,_,hb⟩:=bind_some hb;obtain⟨c,hc,hb⟩:=bind_some hb;obtain⟨l,hl,hb⟩:=bind_some hb;cases hb
  ·cases hb;exact hI
 ·intro d hd;simp only[List.mem_singleton]at hd;rw[hd];exact XA hc
theorem Vf {r:Int} (h:0<=r) (h':r<8):∀ x∈(EY r).Rules,Oq x:=by
 have:∀ k:Nat,k<8->((EY (k:Int)).Rules.all λ x=>x.Cells.all λ c=>decide (0<=c))=true:=by decide +kernel
 have e:=this r.toNat (by omega);rw[Int.toNat_of_nonneg h]at e;intro x hx c hc;have h1:=JkT.1 (JkT.1 e x hx) c hc;simpa using h1
theorem Jct {n:Nat} {x:Ji} (hx:0<=x.Base) {t:Aa} (h:FF n x=some t):∀ r∈t.Rules,Oq r:=by
 unfold FF at h;obtain⟨b,hb,h⟩:=bind_some h;obtain⟨t1,h1,h⟩:=bind_some h;obtain⟨t2,h2,h⟩:=bind_some h;obtain⟨e1,e2,e3⟩:=MD n x.Base hx;rw[e1]at hb;cases hb;have hbp:=Vf e2 e3;have ht1:∀ r∈t1.Rules,Oq r:=by
  refine MJ (λ y=>∀ r∈y.1.Rules,Oq r) (λ y=>∀ r∈y.Rules,Oq r) (λ x' y hI hb=>?_) (λ x' r hI hb=>?_) n _ _ (by simp) h1
  ·unfold CW Dy at hb;rcases Dv hb with⟨_,hb⟩|⟨_,hb⟩
   ·obtain⟨_,_,hb⟩:=bind_some hb;rcases Dv hb with⟨_,hb⟩|⟨_,hb⟩
    ·obtain⟨a,ha,hb⟩:=bind_some hb;obtain⟨l,hl,hb⟩:=bind_some hb;cases hb;obtain⟨_,rfl⟩:=HN hl;intro r hr;rcases List.mem_append.1 hr with hr|hr
     ·exact hI r hr
     ·simp only[List.mem_singleton]at hr;rw[hr];exact hbp a (Xz ha)
    ·cases hb;exact hI
   ·cases hb
  ·unfold CW Dy at hb;rcases Dv hb with⟨_,hb⟩|⟨_,hb⟩
   ·obtain⟨_,_,hb⟩:=bind_some hb;rcases Dv hb with⟨_,hb⟩|⟨_,hb⟩
    ·obtain⟨a,ha,hb⟩:=bind_some hb;obtain⟨l,hl,hb⟩:=bind_some hb;cases hb
    ·cases hb
   ·cases hb;exact hI
 have ht2:∀ r∈t2.Rules,Oq r:=by
  refine MJ (λ y=>∀ r∈y.1.Rules,Oq r) (λ y=>∀ r∈y.Rules,Oq r) (λ x' y hI hb=>?_) (λ x' r hI hb=>?_) n _ _ ht1 h2
  ·unfold CX Dz at hb;rcases Dv hb with⟨_,hb⟩|⟨_,hb⟩
   ·obtain⟨a,_,hb⟩:=bind_some hb;obtain⟨r1,hr1,hb⟩:=bind_some hb;obtain⟨l,hl,hb⟩:=bind_some hb;obtain⟨v,_,hb⟩:=bind_some hb;obtain⟨_,rfl⟩:=HN hl;have hall:∀ r∈x'.1.Rules++[r1],Oq r:=λ r hr=>by
     rcases List.mem_append.1 hr with hr|hr
     ·exact hI r hr
     ·simp only[List.mem_singleton]at hr;rw[hr];exact Jcs hr1
    rcases Dv hb with⟨_,hb⟩|⟨_,hb⟩
    ·obtain⟨l2,hl2,hb⟩:=bind_some hb;cases hb;intro r hr;unfold sub at hl2;split at hl2
     ·cases hl2;exact hall r (List.mem_of_mem_take (List.mem_of_mem_drop hr))
     ·cases hl2
    ·cases hb;exact hall
   ·cases hb
  ·unfold CX Dz at hb;rcases Dv hb with⟨_,hb⟩|⟨_,hb⟩
   ·obtain⟨a,_,hb⟩:=bind_some hb;obtain⟨r1,hr1,hb⟩:=bind_some hb;obtain⟨l,hl,hb⟩:=bind_some hb;obtain⟨v,_,hb⟩:=bind_some hb;rcases Dv hb with⟨_,hb⟩|⟨_,hb⟩
    ·obtain⟨l2,hl2,hb⟩:=bind_some hb;cases hb
    ·cases hb
   ·cases hb;exact hI
 unfold Ep at h;rcases Dv h with⟨_,h⟩|⟨_,h⟩
 ·cases h;exact hbp
 ·cases h;exact ht2
theorem Ev.any {α:Type} {f:Nat->Option α} {z:α} (h:Ev f z):∃ n,f n=some z:=by
 obtain⟨N,h⟩:=h;exact⟨N,h N (JkY _)⟩
structure MK (t:Aa):Prop where
 made:LA t
 tk:TbK t
 lo:1<=t.Rules.length
 hi:t.Rules.length<=10
theorem Jcu {x:Ji} (hx:ME x):∃ t,MK t/\Ev (λ n=>FF n x) t:=by
 obtain⟨t,⟨h1,h2,h3⟩,h4⟩:=Y9 hx;obtain⟨n,hn⟩:=h4.any;exact⟨t,⟨h1,⟨h1.tab,h1.valid,Jct hx.1 hn⟩,h2,h3⟩,h4⟩
theorem Jh4.uniq {t u:Aa} (h:∀ w x,WrT t w x↔WrT u w x) {w v:List Int} (hw:Jh4 t w) (hv:Jh4 u v):w=v:=by
 have ha:∀ z,Jcr t z↔Jcr u z:=λ z=>by unfold Jcr;simp only[h]
 rcases Xy w v with h1|h1|h1
 ·exact absurd h1 (hv.2 w ((ha w).1 hw.1))
 ·exact h1
 ·exact absurd h1 (hw.2 v ((ha v).2 hv.1))
end Go.AI
end
section
namespace Go.AI
def FU (s:List UInt8):List (List UInt8)->List (List UInt8)
 | []=>[s]
 | x::r=>if Op.bytesLess x s=true then x::FU s r else if x=s then x::r else s::x::r
theorem Qt (s y:List UInt8):∀ l,y∈FU s l↔y=s\/y∈l
 | []=>by simp[FU]
 | x::r=>by
  unfold FU;split
  ·simp only[List.mem_cons,Qt s y r];constructor
   ·rintro (h|h|h)<;>simp[h]
   ·rintro (h|h|h)<;>simp[h]
  ·split
   ·rename_i e;subst e;simp
   ·simp
theorem R2 (s:List UInt8):∀ l,Ig l->Ig (FU s l)
 | [],_=>by simp[FU,Ig]
 | x::r,h=>by
  unfold Ig at h⊢;rw[List.pairwise_cons]at h;unfold FU;split
  ·rename_i hx;rw[List.pairwise_cons];refine⟨λ y hy=>?_,R2 s r h.2⟩;rcases (Qt s y r).1 hy with rfl|hy
   ·exact hx
   ·exact h.1 y hy
  ·rename_i hx;split
   ·rename_i e;subst e;rw[List.pairwise_cons];exact h
   ·rename_i hne;have hsx:ltB s x:=by
     rcases If s x with e|e|e
     ·exact absurd e.symm hne
     ·exact e
     ·exact absurd e hx
    rw[List.pairwise_cons,List.pairwise_cons];refine⟨λ y hy=>?_,h⟩;rcases List.mem_cons.1 hy with rfl|hy
    ·exact hsx
    ·exact Ie hsx (h.1 y hy)
theorem WI (l:List (List UInt8)) (s:List UInt8) (hl:l.length<=1000000000):Tot (λ n=>IM n l s) (λ r=>r=FU s l):=by
 unfold IM;refine Tot.bind (R:=λ y=>(y.2=false/\y.1.length=l.length/\y.1++[s]=FU s l)\/(y.2=true/\y.1=FU s l)) ?_ λ y hy=>?_
 ·refine Tot.upto (body:=λ n (x:((List (List UInt8))×Bool×Int))=>D0 n l s x.1 x.2.1 x.2.2) l.length (λ i x=>x.2.2=(i:Int)/\((x.2.1=false/\x.1.length=i/\x.1++FU s (l.drop i)=FU s l)\/(x.2.1=true/\x.1.length<=i+1/\x.1++l.drop i=FU s l))) ?_ ?_ _ ⟨rfl,.inl ⟨rfl,rfl,rfl⟩⟩
  ·rintro i ⟨out,d,_⟩ hi ⟨rfl,hI⟩;simp only at hI;unfold D0;have hdrop:=List.drop_eq_getElem_cons hi;have j1:∀ out' d',out'.length<=i+1->((d'=false/\out'.length=i/\(out'++[l[i]])++FU s (l.drop (i+1))=FU s l)\/(d'=true/\(out'++[l[i]])++l.drop (i+1)=FU s l))->Tot (λ n=>DY n l (i:Int) out' d') (Rd2 (λ x=>x.2.2=((i+1:Nat):Int)/\((x.2.1=false/\x.1.length=i+1/\x.1++FU s (l.drop (i+1))=FU s l)\/(x.2.1=true/\x.1.length<=i+1+1/\x.1++l.drop (i+1)=FU s l))) (λ y=>(y.2=false/\y.1.length=l.length/\y.1++[s]=FU s l)\/(y.2=true/\y.1=FU s l))):=λ out' d' ho h=>by
    unfold DY;refine Tot.bindC (Bf hi) (Tot.bindC (Eh (by simp;omega)) (JkI ⟨Bm (by omega),?_⟩));rcases h with⟨h1,h2,h3⟩|⟨h1,h2⟩
    ·exact .inl ⟨h1,by simp[h2],h3⟩
    ·exact .inr ⟨h1,by simp;omega,h2⟩
   refine Tot.iteT (by simp;omega) ?_;rcases hI with⟨rfl,h1,h2⟩|⟨rfl,h1,h2⟩
   ·refine Tot.bindC (y:=l[i]) (Bf hi) ?_;rw[hdrop,FU]at h2;by_cases hlt:ltB l[i] s
    ·have e:Op.bytesLess l[i] s=true:=hlt;rw[if_pos e]at h2;refine Tot.iteF (by rw[e];rfl) (j1 out _ (by omega) (.inl ⟨rfl,h1,by rw[List.append_assoc];exact h2⟩))
    ·have e:Op.bytesLess l[i] s=false:=by simpa [ltB]using hlt
     rw[if_neg (by rw[e];simp)]at h2;refine Tot.iteT (by rw[e];rfl) (Tot.bindC (Bf hi) ?_);by_cases heq:l[i]=s
     ·rw[if_pos heq]at h2;unfold DZ;exact Tot.iteF (by simp[heq]) (j1 out _ (by omega) (.inr ⟨rfl,by rw[List.append_assoc];exact h2⟩))
     ·rw[if_neg heq]at h2;unfold DZ;refine Tot.iteT (by rw[e];simp[heq]) (Tot.bindC (Eh (by simp;omega)) (j1 _ _ (by simp;omega) (.inr ⟨rfl,by simpa using h2⟩)))
   ·refine Tot.bindC (y:=default) rfl (Tot.iteF rfl ?_);refine j1 _ _ h1 (.inr ⟨rfl,?_⟩);rw[hdrop]at h2;rw[List.append_assoc];exact h2
  ·rintro⟨out,d,_⟩ ⟨rfl,hI⟩;simp only at hI;unfold D0;refine Tot.iteF (by simp) (JkI ?_);rw[List.drop_length]at hI;rcases hI with⟨h1,h2,h3⟩|⟨h1,_,h2⟩
   ·exact .inl ⟨h1,h2,h3⟩
   ·exact .inr ⟨h1,by rw[List.append_nil]at h2;exact h2⟩
 ·obtain⟨out,d⟩:=y;unfold Fq;rcases hy with⟨h1,h2,h3⟩|⟨h1,h2⟩
  ·simp only at h1 h2 h3;exact Tot.iteT (by rw[h1];rfl) (Tot.bindC (Eh (by simp;omega)) (JkI h3))
  ·simp only at h1 h2;exact Tot.iteF (by rw[h1];rfl) (JkI h2)
def At5 (t:Aa) (i:Nat) (a:Ac):Prop:=∃ k j,Edge t (AB t) i k j/\a=⟨prt t k,cls t k,j⟩
def AcT (t:Aa) (i:Nat):Prop:=∃ s,(AB t)[i]?=some s/\A2 t s=true
theorem DS {t:Aa} (ht:TbK t) {k:Nat} (hk:k<t.Rules.length):1<=(cls t k).length/\(cls t k).length<=4/\(prt t k).length<=4/\∀ c∈cls t k,0<=c/\c<63:=by
 have hm:DB t (k:Int)∈t.Rules:=WH (by omega) (by omega);have h1:=IZ (ht.sound _ hm);exact⟨h1.2.1,h1.2.2,h1.1,λ c hc=>⟨ht.pos _ hm c hc,(Zc (ht.sound _ hm)).2.1 c hc⟩⟩
theorem At5.ne {t:Aa} (ht:TbK t):∀ k a,At5 t k a->a.c≠[]:=by
 rintro i a ⟨k,j,⟨_,_,_,hk,_⟩,rfl⟩ h;have:=(DS ht hk).1;simp only at h;rw[h]at this;simp at this
theorem XB {t:Aa} (ht:TbK t):∀ {p:List Int} {s s':Ae} {i:Nat},(AB t)[i]?=some s->Kb t s p s'->A2 t s'=true->En (At5 t) (AcT t) (i,[]) (cellsOf t p) (Kc t p)
 | [],s,s',i,hi,hgo,ha=>by
  unfold Kb at hgo;subst hgo;exact⟨i,.nil _,s,hi,ha⟩
 | k::p,s,s',i,hi,hgo,ha=>by
  obtain⟨hF,hD⟩:=Cl ht.tab;obtain⟨h1,h2⟩:=hgo;obtain⟨k0,k1⟩:=MF h1;obtain⟨kn,rfl⟩:∃ kn:Nat,k=(kn:Int):=⟨k.toNat,by omega⟩;have hm:=hD (i+1) i s (by omega) hi kn (by omega) h1;obtain⟨j,hj,hje⟩:=List.mem_iff_getElem.1 hm;have hjg:(AB t)[j]?=some (Bl t s (kn:Int)).1:=by rw[Jk9 hj,hje]
  have hE:Edge t (AB t) i kn j:=⟨s,_,hi,by omega,hjg,by rw[← h1]⟩;rw[En.arcs (At5.ne ht)];exact .inr ⟨⟨prt t kn,cls t kn,j⟩,cellsOf t p,Kc t p,⟨kn,j,hE,rfl⟩,rfl,rfl,XB ht hjg h2 ha⟩
theorem Jd6 {t:Aa} (ht:TbK t):∀ (m:Nat) {w:List Int} {x:List UInt8} {s:Ae} {i:Nat},w.length<=m->(AB t)[i]?=some s->En (At5 t) (AcT t) (i,[]) w x->∃ p s',Kb t s p s'/\A2 t s'=true/\cellsOf t p=w/\Kc t p=x:=by
 intro m;induction m with
 | zero=>
  intro w x s i hm hi h;rw[En.arcs (At5.ne ht)]at h;rcases h with⟨rfl,rfl,s',h1,h2⟩|⟨a,v',x',ha,rfl,_⟩
  ·rw[hi]at h1;cases h1;exact⟨[],s,rfl,h2,rfl,rfl⟩
  ·have h1:=At5.ne ht _ _ ha;have h2:0<a.c.length:=List.length_pos_iff.2 h1;rw[List.length_append]at hm;omega
 | succ m ih=>
  intro w x s i hm hi h;rw[En.arcs (At5.ne ht)]at h;rcases h with⟨rfl,rfl,s',h1,h2⟩|⟨a,v',x',ha,rfl,rfl,h3⟩
  ·rw[hi]at h1;cases h1;exact⟨[],s,rfl,h2,rfl,rfl⟩
  ·have hne:=At5.ne ht _ _ ha;have hpos:0<a.c.length:=List.length_pos_iff.2 hne;obtain⟨k,j,⟨s0,s1,e1,e2,e3,e4⟩,rfl⟩:=ha;rw[hi]at e1;cases e1;simp only[List.length_append]at hm hpos;obtain⟨p,s',p1,p2,p3,p4⟩:=ih (by omega) e3 h3;refine⟨(k:Int)::p,s',⟨by rw[e4],by rw[e4];exact p1⟩,p2,?_,?_⟩
   ·rw[EQ,p3];rfl
   ·rw[Kd,p4];rfl
theorem Jh5 {t:Aa} (ht:TbK t) (w:List Int) (x:List UInt8):En (At5 t) (AcT t) (0,[]) w x↔WrT t w x:=by
 have h0:=(Cl ht.tab).1.first;constructor
 ·intro h;obtain⟨p,s',h1,h2,h3,h4⟩:=Jd6 ht _ (JkY _) h0 h;exact⟨p,s',h1,h2,h3,h4⟩
 ·rintro⟨p,s',h1,h2,rfl,rfl⟩;exact XB ht h0 h1 h2
theorem Rn.snoc {A:Nat->Ac->Prop} {h h1 h':Hf} {w:List Int} {c:Int} {x p:List UInt8} (H:Rn A h w x h1) (s:Sp A h1 c p h'):Rn A h (w++[c]) (x++p) h':=H.app (Rn.one s)
theorem Rn.unsnoc {A:Nat->Ac->Prop} {h':Hf} {c:Int}:∀ {w:List Int} {h:Hf} {x:List UInt8},Rn A h (w++[c]) x h'->∃ h1 x1 p,Rn A h w x1 h1/\Sp A h1 c p h'/\x=x1++p
 | [],h,x,H=>by
  obtain⟨h1,p,y,s,r,rfl⟩:=H.inv;obtain⟨rfl,rfl⟩:=r.inv0;exact⟨h,[],p,.nil _,s,by simp⟩
 | d::w,h,x,H=>by
  obtain⟨h1,p,y,s,r,rfl⟩:=Rn.inv (w:=w++[c]) H;obtain⟨h2,x1,p2,q1,q2,rfl⟩:=Rn.unsnoc r;exact⟨h2,p++x1,p2,.cons s q1,q2,by simp⟩
theorem Jd7 {t:Aa} (ht:TbK t) {h h':Hf} {w:List Int} {x:List UInt8} (H:Rn (At5 t) h w x h'):x.length<=4*w.length:=by
 induction H with
 | nil h=>simp
 | cons s _ ih=>
  have hp:∀ {h h1:Hf} {c:Int} {p:List UInt8},Sp (At5 t) h c p h1->p.length<=4:=λ s=>by
   rcases s.inv with⟨r,_,h2,_⟩|⟨_,a,r,⟨k,j,⟨_,_,_,hk,_⟩,rfl⟩,_,h3,_⟩
   ·rw[h2];simp
   ·rw[h3];exact(DS ht hk).2.2.1
  have:=hp s;simp only[List.length_append,List.length_cons];omega
def WfP (t:Aa) (p:Af):Prop:=p.Rule=-1\/∃ k a:Nat,p.Rule=(k:Int)/\k<t.Rules.length/\p.At=(a:Int)/\1<=a/\a<(cls t k).length
def FZ (t:Aa) (p:Af):List Int:=if p.Rule<0 then []else(cls t p.Rule.toNat).drop p.At.toNat
structure LOK (t:Aa) (w:List Int) (l:List Af):Prop where
 snd:∀ p∈l,WfP t p/\∃ i,(AB t)[i]?=some p.S/\Rn (At5 t) (0,[]) w p.Text (i,FZ t p)
 cov:∀ i x r,Rn (At5 t) (0,[]) w x (i,r)->∃ p∈l,(AB t)[i]?=some p.S/\p.Text=x/\FZ t p=r
theorem WfP.rest {t:Aa} {p:Af} (h:WfP t p):FZ t p=[]↔p.Rule<0:=by
 unfold FZ;rcases h with h|⟨k,a,h1,h2,h3,h4,h5⟩
 ·rw[if_pos (by omega)];simp;omega
 ·rw[if_neg (by omega),h1,h3];simp only[Jli];constructor
  ·intro h;have:=congrArg List.length h;simp at this;omega
  ·intro h;omega
theorem Jcv {t:Aa} (ht:TbK t):LOK t [] [⟨B5,-1,0,[]⟩]:=by
 have h0:=(Cl ht.tab).1.first;refine⟨λ p hp=>?_,λ i x r h=>?_⟩
 ·simp only[List.mem_singleton]at hp;subst hp;exact⟨.inl rfl,0,h0,.nil _⟩
 ·obtain⟨e1,e2⟩:=h.inv0;cases e1;subst e2;exact⟨_,List.mem_singleton.2 rfl,h0,rfl,rfl⟩
theorem Zd {t:Aa} (ht:TbK t) {w:List Int} {l:List Af} (hl:LOK t w l) (hll:l.length<=1000000):Tot (λ n=>Kw n t l) (λ r=>Ig r/\r.length<=l.length/\∀ x,x∈r↔WrT t w x):=by
 unfold Kw;refine Tot.bind (R:=λ r=>Ig r/\r.length<=l.length/\∀ x,x∈r↔WrT t w x) ?_ λ r hr=>JkI hr;refine Tot.upto (body:=λ n (x:(List (List UInt8))×Int)=>EN n t l x.1 x.2) l.length (λ i x=>x.2=(i:Int)/\Ig x.1/\x.1.length<=i/\∀ y,y∈x.1↔∃ p∈l.take i,p.Rule<0/\A2 t p.S=true/\p.Text=y) ?_ ?_ _ ⟨rfl,by simp[Ig],by simp,by simp⟩
 ·rintro i ⟨out,_⟩ hi ⟨rfl,h1,h2,h3⟩;simp only at h1 h2 h3;unfold EN Ga;refine Tot.iteT (by simp;omega) (Tot.bindC (Bf hi) (Tot.bindC (Jcq (Bf hi)) ?_));refine Tot.guard (R:=λ r=>r=A2 t l[i].S) (λ h=>by rw[if_pos h];exact(Ev.all λ n=>U0 n t _).tot rfl) λ r hr=>?_;have htake:∀ y,(∃ p∈l.take (i+1),p.Rule<0/\A2 t p.S=true/\p.Text=y)↔(∃ p∈l.take i,p.Rule<0/\A2 t p.S=true/\p.Text=y)\/(l[i].Rule<0/\A2 t l[i].S=true/\l[i].Text=y):=λ y=>by
   rw[List.take_add_one,Jk9 hi];simp only[Option.toList_some,List.mem_append,List.mem_singleton];constructor
   ·rintro⟨p,hp|rfl,h⟩
    ·exact .inl ⟨p,hp,h⟩
    ·exact .inr h
   ·rintro (⟨p,hp,h⟩|h)
    ·exact⟨p,.inl hp,h⟩
    ·exact⟨_,.inr rfl,h⟩
  refine Tot.ite (λ h=>?_) λ h=>?_
  ·simp only[Jla]at h;have hr:=hr h.1;rw[hr]at h;refine Tot.bindC (Bf hi) (Tot.bind (WI out _ (by omega)) ?_);rintro _ rfl;refine JkI ⟨Bm (by omega),R2 _ _ h1,?_,λ y=>?_⟩
   ·have:∀ (s:List UInt8) (l:List (List UInt8)),(FU s l).length<=l.length+1:=by
     intro s l;induction l with
     | nil=>simp[FU]
     | cons x r ih=>
      unfold FU;split
      ·simp;omega
      ·split<;>simp
    have:=this l[i].Text out;simp only;omega
   ·rw[htake,Qt,h3];constructor
    ·rintro (rfl|h')
     ·exact .inr ⟨by simpa using h.1,h.2,rfl⟩
     ·exact .inl h'
    ·rintro (h'|⟨_,_,h'⟩)
     ·exact .inr h'
     ·exact .inl h'.symm
  ·refine JkI ⟨Bm (by omega),h1,by simp only;omega,λ y=>?_⟩;rw[htake,h3];constructor
   ·exact .inl
   ·rintro (h'|⟨c1,c2,_⟩)
    ·exact h'
    ·have hd:decide (l[i].Rule<0)=true:=by simpa using c1
     rw[hr hd,hd,c2]at h;cases h
 ·rintro⟨out,_⟩ ⟨rfl,h1,h2,h3⟩;simp only at h1 h2 h3;unfold EN;refine Tot.iteF (by simp) (JkI ⟨h1,h2,λ x=>?_⟩);rw[h3,List.take_length,← Jh5 ht];constructor
  ·rintro⟨p,hp,c1,c2,rfl⟩;obtain⟨hw,i,hi,hr⟩:=hl.snd p hp;rw[hw.rest.2 c1]at hr;exact⟨i,hr,p.S,hi,c2⟩
  ·rintro⟨i,hr,s,hi,ha⟩;obtain⟨p,hp,q1,q2,q3⟩:=hl.cov i x [] hr;rw[hi]at q1;cases q1;exact⟨p,hp,((hl.snd p hp).1.rest).1 q3,ha,q2⟩
end Go.AI
end
section
namespace Go.AI
theorem XC {t:Aa} {s:Ae} {k a:Nat} {x:List UInt8} (hk:k<t.Rules.length) (h1:1<=a) (h2:a<=(cls t k).length):∃ y:Af,(∀ n,JO n t ({ S:=s,Rule:=(k:Int),At:=(a:Int),Text:=x }:Af)=some y)/\y.S=s/\y.Text=x/\WfP t y/\FZ t y=(cls t k).drop a:=by
 have hrule:t.Rules[k].Cells=cls t k:=by unfold cls DB;rw[Jli,Jk9 hk];rfl
 unfold JO Hg;by_cases e:a=(cls t k).length
 ·refine⟨{ S:=s,Rule:=-1,At:=0,Text:=x },λ n=>?_,rfl,rfl,.inl rfl,?_⟩
  ·simp only;rw[Bf hk];simp only[JkP,hrule];rw[if_pos (by rw[e];simp)]
  ·unfold FZ;rw[if_pos (by simp),e];simp
 ·refine⟨{ S:=s,Rule:=(k:Int),At:=(a:Int),Text:=x },λ n=>?_,rfl,rfl,.inr ⟨k,a,rfl,hk,rfl,h1,by omega⟩,?_⟩
  ·simp only;rw[Bf hk];simp only[JkP,hrule];rw[if_neg (by simp;omega)]
  ·unfold FZ;rw[if_neg (by simp)];simp
theorem eqP (a b:Af):((a.S.Mode==b.S.Mode)&&((a.S.Last==b.S.Last)&&((a.S.Need==b.S.Need)&&((a.Rule==b.Rule)&&((a.At==b.At)&&((a.Text==b.Text)&&true))))))=decide (a=b):=by
 obtain⟨⟨m,l,n⟩,r,at_,tx⟩:=a;obtain⟨⟨m',l',n'⟩,r',at',tx'⟩:=b;by_cases h1:m=m'<;>by_cases h2:l=l'<;>by_cases h3:n=n'<;>by_cases h4:r=r'<;>by_cases h5:at_=at'<;>by_cases h6:tx=tx'<;>simp[h1,h2,h3,h4,h5,h6]
theorem Jd8 (l:List Af) (hl:l.length<=100000000):Tot (λ n=>Mp n l) (λ r=>r.length<=l.length/\∀ p,p∈r↔p∈l):=by
 unfold Mp;refine Tot.bind (R:=λ r=>r.length<=l.length/\∀ p,p∈r↔p∈l) ?_ λ r hr=>JkI hr;refine Tot.upto (body:=λ n (x:(List Af)×Int)=>FK n l x.1 x.2) l.length (λ i x=>x.2=(i:Int)/\x.1.length<=i/\∀ p,p∈x.1↔p∈l.take i) ?_ ?_ _ ⟨rfl,by simp,by simp⟩
 ·rintro i ⟨out,_⟩ hi ⟨rfl,h1,h2⟩;simp only at h1 h2;unfold FK Hh;have htake:l.take (i+1)=l.take i++[l[i]]:=by rw[List.take_add_one,Jk9 hi];rfl
  refine Tot.iteT (by simp;omega) (Tot.bind (R:=λ b=>b=decide (l[i]∈out)) ?_ ?_)
  ·refine Tot.upto (body:=λ n (x:Bool×Int)=>FJ n l out (i:Int) x.1 x.2) out.length (λ k x=>x.2=(k:Int)/\x.1=decide (l[i]∈out.take k)) ?_ ?_ _ ⟨rfl,by simp⟩
   ·rintro k ⟨b,_⟩ hk ⟨rfl,hb⟩;simp only at hb;unfold FJ;refine Tot.iteT (by simp;omega) (Tot.bindC (Jcq (Bf hk)) (Tot.bindC (Jcq (Bf hi)) (JkI ⟨Bm (by omega),?_⟩)));simp only;rw[eqP,List.take_add_one,Jk9 hk,hb];by_cases hm:l[i]∈out.take k
    ·simp[hm,-List.take_append_getElem]
    ·simp[hm,eq_comm,-List.take_append_getElem]
   ·rintro⟨b,_⟩ ⟨rfl,hb⟩;simp only at hb;unfold FJ;rw[List.take_length]at hb;exact Tot.iteF (by simp) (JkI hb)
  ·rintro _ rfl;refine Tot.ite (λ h=>?_) λ h=>?_
   ·refine Tot.bindC (Bf hi) (Tot.bindC (Eh (by simp;omega)) (JkI ⟨Bm (by omega),by simp;omega,λ p=>?_⟩));rw[htake];simp only[List.mem_append,h2]
   ·have hm:l[i]∈out:=by simpa using h
    refine JkI ⟨Bm (by omega),by show out.length<=_;omega,λ p=>?_⟩;rw[htake];simp only[List.mem_append,List.mem_singleton,← h2];constructor
    ·exact .inl
    ·rintro (h|rfl)
     ·exact h
     ·exact hm
 ·rintro⟨out,_⟩ ⟨rfl,h1,h2⟩;simp only at h1 h2;unfold FK;rw[List.take_length]at h2;exact Tot.iteF (by simp) (JkI ⟨h1,h2⟩)
def Jg (t:Aa) (w:List Int) (p:Af):Prop:=WfP t p/\∃ i,(AB t)[i]?=some p.S/\Rn (At5 t) (0,[]) w p.Text (i,FZ t p)
def Rf (t:Aa) (c:Int) (p:Af) (out:List Af):Prop:=∀ i,(AB t)[i]?=some p.S->∀ q h',Sp (At5 t) (i,FZ t p) c q h'->∃ y∈out,(AB t)[h'.1]?=some y.S/\y.Text=p.Text++q/\FZ t y=h'.2
theorem Rf.mono {t:Aa} {c:Int} {p:Af} {out out':List Af} (h:Rf t c p out) (hs:∀ y∈out,y∈out'):Rf t c p out':=λ i hi q h' hs'=>by
 obtain⟨y,h1,h2⟩:=h i hi q h' hs';exact⟨y,hs y h1,h2⟩
theorem Ze {t:Aa} (ht:TbK t) {w:List Int} (hw:w.length<=100) {p:Af} (hp:Jg t w p) (hr:p.Rule<0) (c:Int) (l:List Af) (pi:Int) {out:List Af} (ho:out.length<=1000000000) (hg:∀ y∈out,Jg t (w++[c]) y) :
  Tot (λ n=>whl (λ (x:((List Af)×Int))=>Er n t l c pi p x.1 x.2) n (out,0)) (λ r=>r.length<=out.length+11/\(∀ y∈out,y∈r)/\(∀ y∈r,Jg t (w++[c]) y)/\Rf t c p r):=by
 obtain⟨hF,hD⟩:=Cl ht.tab;have h11:=ht.tab.1;obtain⟨hwf,i,hi,hrn⟩:=hp;have hrest:FZ t p=[]:=hwf.rest.2 hr;rw[hrest]at hrn;have hlen:=Jd7 ht hrn;refine Tot.upto (body:=λ n (x:(List Af)×Int)=>Er n t l c pi p x.1 x.2) t.Rules.length (λ k x=>x.2=(k:Int)/\x.1.length<=out.length+k/\(∀ y∈out,y∈x.1)/\(∀ y∈x.1,Jg t (w++[c]) y)/\∀ (k':Nat) s' r,k'<k->Bl t p.S (k':Nat)=(s',true)->cls t k'=c::r->∃ y∈x.1,y.S=s'/\y.Text=p.Text++prt t k'/\FZ t y=r) ?_ ?_ _ ⟨rfl,by simp,λ _ h=>h,hg,λ k' s' r h=>by omega⟩
 ·rintro k ⟨o1,_⟩ hk ⟨rfl,h1,h2,h3,h4⟩;simp only at h1 h2 h3 h4;unfold Er Hi;have hcl:=DS ht hk;have hrule:(if(Bl t p.S (k:Nat)).2=true then idx t.Rules (k:Int)else some default)=some (if(Bl t p.S (k:Nat)).2=true then DB t (k:Int)else default):=Jcq (MG (by omega) (by omega))
  refine Tot.iteT (by simp;omega) (JkK (λ n=>Jb3 ht.tab.short n p.S (k:Nat)) (Tot.bindC hrule ?_));have skip:(∀ s' r,Bl t p.S (k:Nat)=(s',true)->cls t k≠c::r)->Tot (λ _:Nat=>(some (.inl (o1,AX .i64 (k:Int) 1)):Option (((List Af)×Int)⊕(List Af)))) (Rd2 (λ x=>x.2=((k+1:Nat):Int)/\x.1.length<=out.length+(k+1)/\(∀ y∈out,y∈x.1)/\(∀ y∈x.1,Jg t (w++[c]) y)/\∀ (k':Nat) s' r,k'<k+1->Bl t p.S (k':Nat)=(s',true)->cls t k'=c::r->∃ y∈x.1,y.S=s'/\y.Text=p.Text++prt t k'/\FZ t y=r) (λ r=>r.length<=out.length+11/\(∀ y∈out,y∈r)/\(∀ y∈r,Jg t (w++[c]) y)/\Rf t c p r)):=λ hno=>by
   refine JkI ⟨Bm (by omega),by show o1.length<=_;omega,h2,h3,λ k' s' r hk' hs' hc'=>?_⟩;by_cases e:k'=k
   ·subst e;exact absurd hc' (hno s' r hs')
   ·exact h4 k' s' r (by omega) hs' hc'
  cases hst:Bl t p.S (k:Nat)with
  | mk s' b=>
   cases b with
   | false=>
    refine Tot.bindC (y:=default) rfl (Tot.iteF rfl (skip λ s2 r h=>?_));rw[hst]at h;cases h
   | true=>
    have h0:0<(cls t k).length:=by omega
    refine Tot.bindC (y:=(cls t k)[0]) (by rw[if_pos rfl,if_pos rfl];exact Bf (i:=0) h0) (Tot.ite (λ h=>?_) λ h=>skip λ s2 r _ hc=>?_)
    ·have h:(cls t k)[0]=c:=by simpa using h
     obtain⟨y,y1,y2,y3,y4,y5⟩:=XC (s:=s') (k:=k) (a:=1) (x:=p.Text++prt t k) hk (by omega) (by omega);have hm:=hD (i+1) i p.S (by omega) hi k hk (by rw[hst]);obtain⟨j,hj,hje⟩:=List.mem_iff_getElem.1 hm;have hjg:(AB t)[j]?=some s':=by rw[Jk9 hj,hje,hst]
     obtain⟨r,hcr⟩:∃ r,cls t k=c::r:=by
      cases hcc:cls t k with
      | nil=>rw[hcc]at h0;simp at h0
      | cons d r=>simp only[hcc,List.getElem_cons_zero]at h;exact⟨r,by rw[h]⟩
     have hyr:FZ t y=r:=by rw[y5,hcr];rfl
     have hgood:Jg t (w++[c]) y:=by
      refine⟨y4,j,by rw[y2];exact hjg,?_⟩;rw[y3,hyr];exact hrn.snoc (Sp.arc (a:=⟨prt t k,cls t k,j⟩) ⟨k,j,⟨p.S,s',hi,hk,hjg,hst⟩,rfl⟩ hcr)
     refine Tot.bindC (MG (k:=(k:Int)) (by omega) (by omega)) (Tot.bindC (Tq (by have:=hcl.2.2.1;unfold prt at this;omega)) (JkK y1 (Tot.bindC (Eh (by simp;omega)) (JkI ⟨Bm (by omega),by simp;omega,λ z hz=>by simp[h2 z hz],λ z hz=>?_,λ k' s2 r2 hk' hs2 hc2=>?_⟩))))
     ·rcases List.mem_append.1 hz with hz|hz
      ·exact h3 z hz
      ·simp only[List.mem_singleton]at hz;rw[hz];exact hgood
     ·by_cases e:k'=k
      ·subst e;rw[hst]at hs2;cases hs2;rw[hcr]at hc2;cases hc2;exact⟨y,by simp,y2,y3,hyr⟩
      ·obtain⟨z,q1,q2⟩:=h4 k' s2 r2 (by omega) hs2 hc2;exact⟨z,by simp[q1],q2⟩
    ·have h:(cls t k)[0]≠c:=by simpa using h
     apply h;simp only[hc,List.getElem_cons_zero]
 ·rintro⟨o1,_⟩ ⟨rfl,h1,h2,h3,h4⟩;simp only at h1 h2 h3 h4;unfold Er;refine Tot.iteF (by simp) (JkI ⟨by show o1.length<=_;omega,h2,h3,λ i' hi' q h' hs=>?_⟩);rw[hrest]at hs;rcases hs.inv with⟨r,e,_⟩|⟨_,a,r,⟨k,j,⟨s0,s1,e1,e2,e3,e4⟩,rfl⟩,g1,g2,g3⟩
  ·cases e
  ·have e1:(AB t)[i']?=some s0:=e1;rw[hi']at e1;cases e1;simp only at g1 g2 g3;obtain⟨y,q1,q2,q3,q4⟩:=h4 k s1 r e2 e4 g1;refine⟨y,q1,?_,by rw[q3,g2],by rw[q4,g3]⟩;rw[g3,q2];exact e3
theorem Jcw {t:Aa} (ht:TbK t) {w:List Int} (hw:w.length<=100) {l:List Af} (hl:LOK t w l) (hll:l.length<=200000) (c:Int):Tot (λ n=>Mq n t l c) (λ r=>LOK t (w++[c]) r/\r.length<=11*l.length):=by
 obtain⟨hF,hD⟩:=Cl ht.tab;unfold Mq;refine Tot.bind (R:=λ r=>r.length<=11*l.length/\(∀ y∈r,Jg t (w++[c]) y)/\∀ p∈l,Rf t c p r) ?_ ?_
 ·refine Tot.upto (body:=λ n (x:(List Af)×Int)=>FM n t l c x.1 x.2) l.length (λ i x=>x.2=(i:Int)/\x.1.length<=11*i/\(∀ y∈x.1,Jg t (w++[c]) y)/\∀ p∈l.take i,Rf t c p x.1) ?_ ?_ _ ⟨rfl,by simp,by simp,by simp⟩
  ·rintro m ⟨out,_⟩ hm ⟨rfl,h1,h2,h3⟩;simp only at h1 h2 h3;unfold FM FL;have htake:l.take (m+1)=l.take m++[l[m]]:=by rw[List.take_add_one,Jk9 hm];rfl
   have hp:=hl.snd _ (JkV hm);refine Tot.iteT (by simp;omega) (Tot.bindC (Bf hm) ?_);generalize l[m]=p at *;have fin:∀ out':List Af,out'.length<=11*(m+1)->(∀ y∈out,y∈out')->(∀ y∈out',Jg t (w++[c]) y)->Rf t c p out'->Tot (λ _:Nat=>(some (.inl (out',AX .i64 (m:Int) 1)):Option (((List Af)×Int)⊕(List Af)))) (Rd2 (λ x=>x.2=((m+1:Nat):Int)/\x.1.length<=11*(m+1)/\(∀ y∈x.1,Jg t (w++[c]) y)/\∀ p∈l.take (m+1),Rf t c p x.1) (λ r=>r.length<=11*l.length/\(∀ y∈r,Jg t (w++[c]) y)/\∀ p∈l,Rf t c p r)):=λ out' q1 q2 q3 q4=>by
    refine JkI ⟨Bm (by omega),q1,q3,λ p' hp'=>?_⟩;rw[htake]at hp';rcases List.mem_append.1 hp' with hp'|hp'
    ·exact(h3 p' hp').mono q2
    ·simp only[List.mem_singleton]at hp';rw[hp'];exact q4
   refine Tot.ite (λ hr=>?_) λ hr=>?_
   ·have hr:0<=p.Rule:=by simpa using hr
    obtain⟨hwf,i,hi,hrn⟩:=hp;rcases hwf with h|⟨k,a,k1,k2,k3,k4,k5⟩
    ·omega
    ·have hrule:(DB t p.Rule).Cells=cls t k:=by rw[k1];rfl
     have hrest:FZ t p=(cls t k)[a]::(cls t k).drop (a+1):=by
      unfold FZ;rw[if_neg (by omega),k1,k3];simp only[Jli];exact List.drop_eq_getElem_cons k5
     refine Tot.bindC (MG (k:=p.Rule) hr (by omega)) ?_;rw[hrule,k3];refine Tot.bindC (Bf k5) (Tot.ite (λ hc=>?_) λ hc=>fin out (by omega) (λ _ h=>h) h2 λ i' hi' q h' hs=>?_)
     ·have hc:(cls t k)[a]=c:=by simpa using hc
      have e1:AX .i64 (a:Int) 1=((a+1:Nat):Int):=Bm (by have:=(DS ht k2).2.1;omega);rw[e1,k1];obtain⟨y,y1,y2,y3,y4,y5⟩:=XC (s:=p.S) (k:=k) (a:=a+1) (x:=p.Text) k2 (by omega) (by omega);refine JkK y1 (Tot.bindC (Eh (by simp;omega)) (fin _ (by simp;omega) (λ z hz=>by simp[hz]) (λ z hz=>?_) λ i' hi' q h' hs=>?_))
      ·rcases List.mem_append.1 hz with hz|hz
       ·exact h2 z hz
       ·simp only[List.mem_singleton]at hz;subst hz;refine⟨y4,i,by rw[y2];exact hi,?_⟩;rw[y3,y5];have hrn':=hrn;rw[hrest,hc]at hrn';have:=hrn'.snoc (Sp.rest (A:=At5 t) i c ((cls t k).drop (a+1)));rwa[List.append_nil]at this
      ·rw[hrest]at hs;rcases hs.inv with⟨r,g1,g2,g3⟩|⟨g1,_⟩
       ·simp only[List.cons.injEq]at g1;refine⟨y,by simp,?_,by rw[y3,g2];simp,by rw[y5,g3];exact g1.2⟩;rw[g3,y2];exact hi'
       ·cases g1
     ·have hc:(cls t k)[a]≠c:=by simpa using hc
      rw[hrest]at hs;rcases hs.inv with⟨r,g1,_⟩|⟨g1,_⟩
      ·simp only[List.cons.injEq]at g1;exact absurd g1.1 hc
      ·cases g1
   ·have hr:p.Rule<0:=by simpa using hr
    refine Tot.bind (Ze (out:=out) ht hw hp hr c l _ (by omega) h2) ?_;rintro o2 ⟨q1,q2,q3,q4⟩;exact fin o2 (by omega) q2 q3 q4
  ·rintro⟨out,_⟩ ⟨rfl,h1,h2,h3⟩;simp only at h1 h2 h3;unfold FM;rw[List.take_length]at h3;exact Tot.iteF (by simp) (JkI ⟨h1,h2,h3⟩)
 ·rintro o1 ⟨h1,h2,h3⟩;refine Tot.bind (Jd8 o1 (by omega)) ?_;rintro o2 ⟨q1,q2⟩;refine JkI ⟨⟨λ p hp=>h2 p ((q2 p).1 hp),λ i x r hrn=>?_⟩,by omega⟩;obtain⟨⟨i1,r1⟩,x1,q,g1,g2,rfl⟩:=hrn.unsnoc;obtain⟨p,hp,e1,rfl,e3⟩:=hl.cov i1 x1 r1 g1;obtain⟨y,c1,c2,c3,c4⟩:=h3 p hp i1 e1 q (i,r) (by rw[e3];exact g2);exact⟨y,(q2 y).2 c1,c2,c3,c4⟩
end Go.AI
end
section
namespace Go.AI
theorem Gg {α:Type}:∀ {l m:List α},l.Nodup->(∀ x∈l,x∈m)->l.length<=m.length
 | [],_,_,_=>Nat.zero_le _
 | a::l,m,h,hs=>by
  rw[List.nodup_cons]at h;obtain⟨u,v,rfl⟩:=List.append_of_mem (hs a (by simp));have:=Gg (m:=u++v) h.2 λ x hx=>by
   have h1:=hs x (by simp[hx]);simp only[List.mem_append,List.mem_cons]at h1⊢;rcases h1 with h1|h1|h1
   ·exact .inl h1
   ·subst h1;exact absurd hx h.1
   ·exact .inr h1
  simp at *;omega
def klr (r s:Ag):Prop:=r.Cost<s.Cost\/(r.Cost=s.Cost/\ltB r.Text s.Text)
def le2 (r s:Ag):Prop:=r.Cost<s.Cost\/(r.Cost=s.Cost/\¬ltB s.Cells r.Cells)
theorem CF (r:Ag):¬klr r r:=by
 rintro (h|⟨_,h⟩)
 ·omega
 ·exact C7 _ h
theorem Fd {r s u:Ag} (h:klr r s) (h':klr s u):klr r u:=by
 rcases h with h|⟨h,h1⟩<;>rcases h' with h'|⟨h',h1'⟩
 ·exact .inl (by omega)
 ·exact .inl (by omega)
 ·exact .inl (by omega)
 ·exact .inr ⟨by omega,Ie h1 h1'⟩
theorem Gh {r s:Ag} (h:klr r s):¬klr s r:=λ h'=>CF r (Fd h h')
theorem Gi (r s:Ag):klr r s\/klr s r\/(r.Cost=s.Cost/\r.Text=s.Text):=by
 rcases Int.lt_trichotomy r.Cost s.Cost with h|h|h
 ·exact .inl (.inl h)
 ·rcases If r.Text s.Text with h1|h1|h1
  ·exact .inr (.inr ⟨h,h1⟩)
  ·exact .inl (.inr ⟨h,h1⟩)
  ·exact .inr (.inl (.inr ⟨h.symm,h1⟩))
 ·exact .inr (.inl (.inl h))
theorem Qu {r s u:Ag} (h:¬klr r s) (h':¬klr s u):¬klr r u:=by
 intro hk;rcases Gi r s with h1|h1|⟨h1,h2⟩
 ·exact h h1
 ·exact h' (Fd h1 hk)
 ·apply h';rcases hk with hk|⟨hk,hk2⟩
  ·exact .inl (by omega)
  ·exact .inr ⟨by omega,by rw[← h2];exact hk2⟩
theorem Vg (r:Ag):le2 r r:=.inr ⟨rfl,C7 _⟩
theorem R3 {r s u:Ag} (h:le2 r s) (h':le2 s u):le2 r u:=by
 rcases h with h|⟨h,h1⟩<;>rcases h' with h'|⟨h',h1'⟩
 ·exact .inl (by omega)
 ·exact .inl (by omega)
 ·exact .inl (by omega)
 ·refine .inr ⟨by omega,λ hl=>?_⟩;rcases If s.Cells r.Cells with e|e|e
  ·rw[e]at h1';exact h1' hl
  ·exact h1 e
  ·exact h1' (Ie hl e)
theorem Qv {r s:Ag} (h:le2 r s) (h':le2 s r) (ht:r.Text=s.Text):r=s:=by
 rcases h with h|⟨h,h1⟩<;>rcases h' with h'|⟨h',h1'⟩
 ·omega
 ·omega
 ·omega
 ·have:r.Cells=s.Cells:=by
   rcases If r.Cells s.Cells with e|e|e
   ·exact e
   ·exact absurd e h1'
   ·exact absurd e h1
  cases r;cases s;simp only at *;subst h;subst ht;subst this;rfl
structure Bst (T:Ag->Prop) (B:Int) (M:Nat) (l:List Ag):Prop where
 snd:∀ r∈l,T r/\r.Cost<=B
 srt:l.Pairwise klr
 dst:∀ r∈l,∀ s∈l,r.Text=s.Text->r=s
 cov:∀ r,T r->r.Cost<=B->(∃ s∈l,s.Text=r.Text/\le2 s r)\/(l.length=M/\∀ s∈l,klr s r)
 len:l.length<=M
theorem Bst.mem {T:Ag->Prop} {B:Int} {M M':Nat} {l l':List Ag} (h:Bst T B M l) (h':Bst T B M' l') {r:Ag} (hr:r∈l):r∈l'\/(l'.length=M'/\∀ s∈l',klr s r):=by
 obtain⟨h1,h2⟩:=h.snd r hr;rcases h'.cov r h1 h2 with⟨s,hs,ht,hle⟩|h3
 ·left;obtain⟨h3,h4⟩:=h'.snd s hs;rcases h.cov s h3 h4 with⟨u,hu,hut,hule⟩|⟨_,h5⟩
  ·have e:=h.dst u hu r hr (hut.trans ht);subst e;rw[Qv hule hle ht.symm];exact hs
  ·rcases h5 r hr with h6|⟨h6,h7⟩
   ·rcases hle with hle|⟨hle,_⟩<;>omega
   ·rw[ht]at h7;exact absurd h7 (C7 _)
 ·exact .inr h3
theorem WJ {α:Type} {R:α->α->Prop} (hi:∀ a,¬R a a) (ha:∀ a b,R a b->¬R b a):∀ {l l':List α},l.Pairwise R->l'.Pairwise R->(∀ r∈l,r∈l')->(∀ r∈l',r∈l\/∀ s∈l,R s r)->∃ u,l'=l++u
 | [],l',_,_,_,_=>⟨l',rfl⟩
 | a::l,[],_,_,h,_=>by have:=h a (by simp);simp at this
 | a::l,b::l',p1,p2,h1,h2=>by
  rw[List.pairwise_cons]at p1 p2;have e:a=b:=by
   rcases List.mem_cons.1 (h1 a (by simp))with e|hm
   ·exact e
   ·have hba:=p2.1 a hm;rcases h2 b (by simp)with hb|hb
    ·rcases List.mem_cons.1 hb with e|hb
     ·exact e.symm
     ·exact absurd (p1.1 b hb) (ha _ _ hba)
    ·exact absurd (hb a (by simp)) (ha _ _ hba)
  subst e;obtain⟨u,rfl⟩:=WJ hi ha p1.2 p2.2 (λ r hr=>by
   rcases List.mem_cons.1 (h1 r (by simp[hr]))with e|hm
   ·subst e;exact absurd (p1.1 _ hr) (hi _)
   ·exact hm) λ r hr=>by
   rcases h2 r (by simp[hr])with hm|hm
   ·rcases List.mem_cons.1 hm with e|hm
    ·subst e;exact absurd (p2.1 _ hr) (hi _)
    ·exact .inl hm
   ·exact .inr λ s hs=>hm s (by simp[hs])
  exact⟨u,rfl⟩
theorem Bst.nodup {T:Ag->Prop} {B:Int} {M:Nat} {l:List Ag} (h:Bst T B M l):l.Nodup:=h.srt.imp λ hk e=>by subst e;exact CF _ hk
theorem Bst.take {T:Ag->Prop} {B:Int} {M M':Nat} {l l':List Ag} (h:Bst T B M l) (h':Bst T B M' l') (hM:M<=M'):l=l'.take M:=by
 by_cases hall:∀ r∈l,r∈l'
 ·obtain⟨u,hu⟩:=WJ CF (λ _ _=>Gh) h.srt h'.srt hall λ r hr=>by
   rcases h'.mem h hr with h1|⟨_,h1⟩
   ·exact .inl h1
   ·exact .inr h1
  cases u with
  | nil=>rw[List.append_nil]at hu;subst hu;exact(List.take_of_length_le h.len).symm
  | cons x u=>
   have hx:x∈l':=by rw[hu];simp
   have hxl:x ∉ l:=λ hx'=>by
    have:=h'.srt;rw[hu,List.pairwise_append]at this;exact CF x (this.2.2 x hx' x (by simp))
   rcases h'.mem h hx with h1|⟨h1,_⟩
   ·exact absurd h1 hxl
   ·rw[hu,← h1,List.take_left'];rfl
 ·exfalso;obtain⟨r,hr⟩:=Classical.not_forall.1 hall;obtain⟨hr,hr'⟩:=Classical.not_imp.1 hr;rcases h.mem h' hr with h1|⟨h1,h2⟩
  ·exact hr' h1
  ·have hsub:∀ s∈r::l',s∈l:=λ s hs=>by
    rcases List.mem_cons.1 hs with rfl|hs
    ·exact hr
    ·rcases h'.mem h hs with h3|⟨_,h3⟩
     ·exact h3
     ·exact absurd (h3 r hr) (Gh (h2 s hs))
   have hnd:(r::l').Nodup:=List.nodup_cons.2 ⟨hr',h'.nodup⟩;have:=Gg hnd hsub;have:=h.len;simp at *;omega
theorem Bst.has {T:Ag->Prop} {B:Int} {M:Nat} {l:List Ag} (h:Bst T B M l) (hl:l.length<M) {r:Ag} (hr:T r) (hb:r.Cost<=B):∃ s∈l,s.Text=r.Text/\le2 s r:=by
 rcases h.cov r hr hb with h1|⟨h1,_⟩
 ·exact h1
 ·omega
theorem Bst.ne {T:Ag->Prop} {B:Int} {M:Nat} {l:List Ag} (h:Bst T B M l) (hM:1<=M) {r:Ag} (hr:T r) (hb:r.Cost<=B):∃ s u,l=s::u/\¬klr r s:=by
 cases hl:l with
 | nil=>
  rw[hl]at h;rcases h.cov r hr hb with⟨s,hs,_⟩|⟨h1,_⟩
  ·simp at hs
  ·simp at h1;omega
 | cons s u=>
  rw[hl]at h;refine⟨s,u,rfl,λ hk=>?_⟩;rcases h.cov r hr hb with⟨v,hv,ht,hle⟩|⟨_,h1⟩
  ·have hvr:¬klr r v:=by
    rintro (h2|⟨h2,h3⟩)
    ·rcases hle with hle|⟨hle,_⟩<;>omega
    ·rw[ht]at h3;exact C7 _ h3
   rcases List.mem_cons.1 hv with rfl|hv
   ·exact hvr hk
   ·exact hvr (Fd hk ((List.pairwise_cons.1 h.srt).1 v hv))
  ·exact Gh hk (h1 s (by simp))
theorem Bst.congr {T T':Ag->Prop} {B:Int} {M:Nat} {l:List Ag} (h:Bst T B M l) (e:∀ r,r.Cost<=B->(T r↔T' r)):Bst T' B M l:=
 ⟨λ r hr=>⟨(e r (h.snd r hr).2).1 (h.snd r hr).1,(h.snd r hr).2⟩,h.srt,h.dst,λ r hr hb=>h.cov r ((e r hb).2 hr) hb,h.len⟩
theorem Bst.grow {T:Ag->Prop} {B B':Int} {M:Nat} {l l':List Ag} (h:Bst T B M l) (h':Bst T B' M l') (hB:B<=B'):(l'.length<M->l.length<M/\∃ u,l'=l++u):=by
 intro hl';have hll:∀ r∈l,∃ s∈l',s.Text=r.Text/\le2 s r:=λ r hr=>h'.has hl' (h.snd r hr).1 (by have:=(h.snd r hr).2;omega);have hinj:l.length<=l'.length:=by
  have hnd:(l.map (·.Text)).Nodup:=by
   rw[List.Nodup,List.pairwise_map];exact(List.pairwise_iff_forall_sublist.2 λ {a b} hs=>by
    have hab:=List.pairwise_iff_forall_sublist.1 h.srt hs;intro e;have ha:a∈l:=hs.subset (by simp);have hb:b∈l:=hs.subset (by simp);have:=h.dst a ha b hb e;subst this;exact CF _ hab)
  have hsub:∀ x∈l.map (·.Text),x∈l'.map (·.Text):=λ x hx=>by
   obtain⟨r,hr,rfl⟩:=Jk1.1 hx;obtain⟨s,hs,ht,_⟩:=hll r hr;exact Jk1.2 ⟨s,hs,ht⟩
  have:=Gg hnd hsub;simpa using this
 have hlt:l.length<M:=by omega
 refine⟨hlt,WJ CF (λ _ _=>Gh) h.srt h'.srt (λ r hr=>?_) λ r hr=>?_⟩
 ·obtain⟨s,hs,ht,hle⟩:=hll r hr;have hsB:s.Cost<=B:=by have:=(h.snd r hr).2;rcases hle with hle|⟨hle,_⟩<;>omega
  obtain⟨u,hu,hut,hule⟩:=h.has hlt (h'.snd s hs).1 hsB;have e:=h.dst u hu r hr (hut.trans ht);subst e;rw[Qv hule hle ht.symm];exact hs
 ·by_cases hrB:r.Cost<=B
  ·left;obtain⟨s,hs,ht,hle⟩:=h.has hlt (h'.snd r hr).1 hrB;obtain⟨u,hu,hut,hule⟩:=hll s hs;have e:=h'.dst u hu r hr (hut.trans ht);subst e;rw[Qv hule hle ht.symm];exact hs
  ·exact .inr λ s hs=>.inl (by have:=(h.snd s hs).2;omega)
end Go.AI
end
section
namespace Go.AI
open Go.Lib
theorem Vh:∀ (a b:List UInt8),compareBytes a b<0↔ltB a b
 | [],[]=>by simp[compareBytes,ltB,Op.bytesLess]
 | [],_::_=>by simp[compareBytes,ltB,Op.bytesLess]
 | _::_,[]=>by simp[compareBytes,ltB,Op.bytesLess]
 | a::x,b::y=>by
  rw[Id,compareBytes];split
  ·rename_i h;simp[h]
  ·rename_i h;split
   ·rename_i h2;have:a≠b:=λ e=>by subst e;exact h h2
    simp[h,this]
   ·rename_i h2;have e:a=b:=by
     rw[← UInt8.toNat_inj];rw[UInt8.lt_iff_toNat_lt]at h h2;omega
    subst e;rw[Vh x y];simp
theorem R4:∀ (a b:List UInt8),compareBytes a b=0↔a=b
 | [],[]=>by simp[compareBytes]
 | [],_::_=>by simp[compareBytes]
 | _::_,[]=>by simp[compareBytes]
 | a::x,b::y=>by
  rw[compareBytes];split
  ·rename_i h;have:a≠b:=λ e=>by subst e;rw[UInt8.lt_iff_toNat_lt]at h;omega
   simp[this]
  ·rename_i h;split
   ·rename_i h2;have:a≠b:=λ e=>by subst e;exact h h2
    simp[this]
   ·rename_i h2;have e:a=b:=by
     rw[← UInt8.toNat_inj];rw[UInt8.lt_iff_toNat_lt]at h h2;omega
    subst e;rw[R4 x y];simp
def Vi (r s:Ag):Int:=if r.Cost<s.Cost then -1 else if s.Cost<r.Cost then 1 else compareBytes r.Text s.Text
theorem Qx (r s:Ag):Vi r s<0↔klr r s:=by
 unfold Vi klr;split
 ·rename_i h;simp[h]
 ·rename_i h;split
  ·rename_i h2;simp[h];omega
  ·rename_i h2;rw[Vh];constructor
   ·intro h3;exact .inr ⟨by omega,h3⟩
   ·rintro (h3|⟨_,h3⟩)
    ·omega
    ·exact h3
theorem R5 (r s:Ag):Vi r s=0↔r.Cost=s.Cost/\r.Text=s.Text:=by
 unfold Vi;split
 ·rename_i h;simp;omega
 ·rename_i h;split
  ·rename_i h2;simp;omega
  ·rename_i h2;rw[R4];constructor
   ·intro h3;exact⟨by omega,h3⟩
   ·exact λ h3=>h3.2
theorem Jh6 (n:Nat) (a b:Int):Ha (n+3) [a,b]=some (if a=0 then b else a):=by
 have h2:¬(AX .i64 1 1<2):=by decide
 have h3:AX .i64 0 1=1:=by decide
 unfold Ha;simp only[whl,Gw];by_cases ha:a=0
 ·subst ha;by_cases hb:b=0
  ·subst hb;simp[idx,h3,h2]
  ·simp[idx,h3,hb]
 ·simp[idx,ha]
theorem OK (n:Nat) (r s:Ag):AW (n+3) r s=some (Vi r s):=by
 have hc:DD (n+3) r.Cost s.Cost=some (if r.Cost<s.Cost then -1 else if s.Cost<r.Cost then 1 else 0):=by
  unfold DD EI;simp only[JkP,bne_self_eq_false,Jll,if_false,decide_eq_true_eq];split
  ·rfl
  ·split<;>simp[*]
 unfold AW JL;rw[hc,JkP,JkP,Jh6,JkP];unfold Vi;split
 ·rfl
 ·split
  ·rfl
  ·rfl
theorem GN (n:Nat) (r s:Ag):ltC (λ x y=>AW (n+3) x y) r s=true↔klr r s:=by
 show decide ((AW (n+3) r s).getD 0<0)=true↔_;rw[OK,JkU,decide_eq_true_eq,Qx]
theorem Fe (n:Nat) (r s:Ag):ltC (λ x y=>AW (n+3) x y) r s=false↔¬klr r s:=by
 rw[← GN n,JkX]
theorem Qy (n:Nat):Xl (λ x y=>AW (n+3) x y):={
 tot x y:=by rw[OK];rfl
 irrefl x:=(Fe n x x).2 (CF x)
 trans x y z h1 h2:=(GN n x z).2 (Fd ((GN n x y).1 h1) ((GN n y z).1 h2))
 ntrans x y z h1 h2:=(Fe n x z).2 (Qu ((Fe n x y).1 h1) ((Fe n y z).1 h2)) }
theorem Vj {m:List Ag} (hd:∀ r∈m,∀ s∈m,r.Text=s.Text->r=s) (hl:m.length<4611686018427387904):∃ z:List Ag,z.Perm m/\z.Pairwise (λ a b=>¬klr b a)/\∀ n,JM (n+3) m=some z:=by
 have h1:∀ n,Xm (λ x y=>AW (n+3) x y) m:=λ n x hx y hy h1 h2=>by
  rw[Fe]at h1 h2;rcases Gi x y with h|h|⟨_,h⟩
  ·exact absurd h h1
  ·exact absurd h h2
  ·exact hd x hx y hy h
 have e:∀ n,ltC (λ x y=>AW (n+3) x y)=ltC (λ x y=>AW (0+3) x y):=λ n=>by
  funext x y;rw[Bool.eq_iff_iff,GN,GN]
 refine⟨Lp (ltC (λ x y=>AW (0+3) x y)) m,G6 m,?_,λ n=>?_⟩
 ·refine(Ht (λ x y z h1 h2=>(Qy 0).ntrans x y z h1 h2) (λ x y h=>?_) m).imp λ h=>(Fe 0 _ _).1 h;rw[GN]at h;exact(Fe 0 y x).2 (Gh h)
 ·unfold JM;rw[JaW (Qy n) (h1 n) hl,e n]
end Go.AI
end
section
namespace Go.AI
theorem JjP (hs:List Ai) (hl:hs.length<1000000000):Tot (λ n=>Mi n hs) (λ r=>(r=-1/\∀ h∈hs,h.List≠[])\/∃ i:Nat,r=(i:Int)/\i<hs.length/\(∀ h∈hs.take i,h.List≠[])/\∃ h,hs[i]?=some h/\h.List=[]):=by
 unfold Mi;refine Tot.bind (R:=λ y=>(y=.inl ()/\∀ h∈hs,h.List≠[])\/∃ i:Nat,y=.inr (i:Int)/\i<hs.length/\(∀ h∈hs.take i,h.List≠[])/\∃ h,hs[i]?=some h/\h.List=[]) ?_ ?_
 ·refine Tot.upto (body:=λ n x=>FD n hs x) hs.length (λ i x=>x=(i:Int)/\∀ h∈hs.take i,h.List≠[]) ?_ ?_ _ ⟨rfl,by simp⟩
  ·rintro i x hi ⟨rfl,hx⟩;unfold FD;refine Tot.iteT (GM hi) (Tot.bindC (Bf hi) (JkK (λ n=>rfl) (Tot.ite (λ h=>?_) λ h=>?_)))
   ·have he:hs[i].List=[]:=by simpa using h
    exact JkI (.inr ⟨i,rfl,hi,hx,hs[i],Jk9 hi,he⟩)
   ·refine JkI ⟨D7 (by omega),λ g hg=>?_⟩;rw[List.take_add_one,Jk9 hi]at hg;rcases List.mem_append.1 hg with hg|hg
    ·exact hx g hg
    ·have e:g=hs[i]:=by simpa using hg
     subst e;intro e;rw[e]at h;simp at h
  ·rintro x ⟨rfl,hx⟩;unfold FD;exact Tot.iteF (Jf _) (JkI (.inl ⟨rfl,by simpa using hx⟩))
 ·rintro y (⟨rfl,h⟩|⟨i,rfl,h⟩)
  ·exact JkI (.inl ⟨rfl,h⟩)
  ·exact JkI (.inr ⟨i,rfl,h⟩)
def neH (h:Ai):Bool:=!h.List.isEmpty
theorem Jh7 (hs:List Ai) (hl:hs.length<1000000000):Tot (λ n=>Ks n hs) (λ r=>r=hs.filter neH):=by
 have hall:∀ l:List Ai,(∀ h∈l,h.List≠[])->l.filter neH=l:=λ l h=>List.filter_eq_self.2 λ a ha=>by
  have:=h a ha;unfold neH;cases e:a.List with
  | nil=>exact absurd e this
  | cons=>rfl
 unfold Ks;refine Tot.bind (JjP hs hl) ?_;rintro r (⟨rfl,h⟩|⟨i,rfl,hi,hp,g,hg,hge⟩)
 ·exact Tot.iteT rfl (JkI (hall hs h).symm)
 refine Tot.iteF (by first|(simp;done)|(simp;omega)) ?_
 rw[D7 (by omega)];refine Tot.bind (R:=λ y=>∃ k:Nat,y.2=(k:Int)/\k<=y.1.length/\y.1.length=hs.length/\y.1.take k=hs.filter neH) ?_ ?_
 ·refine Tot.whl (body:=λ n (x:List Ai×Int×Int)=>F8 n x.1 x.2.1 x.2.2) (λ m x=>∃ j k:Nat,x.2.1=(k:Int)/\x.2.2=(j:Int)/\m=hs.length-j/\k<j/\j<=hs.length/\x.1.length=hs.length/\x.1.take k=(hs.take j).filter neH/\x.1.drop j=hs.drop j) ?_ (hs.length-(i+1)) _ ⟨i+1,i,rfl,rfl,rfl,by omega,by omega,rfl,?_,rfl⟩
  ·rintro m ⟨s,_,_⟩ ⟨j,k,rfl,rfl,rfl,hkj,hj,hsl,ht,hd⟩;simp only at *;unfold F8;rcases JkZ j hs.length with hlt|hge
   ·have hjs:j<s.length:=by omega
    have hsj:s[j]=hs[j]:=by
     have h1:(s.drop j)[0]?=(hs.drop j)[0]? := by rw[hd]
     rw[Jk2,Jk2,Nat.add_zero,Jk9 hjs,Jk9 hlt]at h1;exact Option.some.inj h1
    have hdd:s.drop (j+1)=hs.drop (j+1):=by
     have:=congrArg (List.drop 1) hd;simpa [List.drop_drop]using this
    refine Tot.iteT (by rw[hsl];exact GM hlt) (Tot.bindC (Bf hjs) (JkK (λ n=>rfl) (Tot.ite (λ h=>?_) λ h=>?_)))
    ·have hne:neH hs[j]=true:=by
      rw[hsj]at h;unfold neH;cases e:hs[j].List with
      | nil=>rw[e]at h;simp at h
      | cons=>rfl
     refine Tot.bindC (Bf (by omega:k<s.length)) (Tot.bindC (Tp (by omega)) (JkI ⟨hs.length-(j+1),by omega,j+1,k+1,D7 (by omega),D7 (by omega),rfl,by omega,by omega,by simpa using hsl,?_,?_⟩))
     ·rw[List.take_add_one (l:=hs),Jk9 hlt,List.filter_append,← ht,List.take_add_one,Jlk (by omega),List.take_set_of_le (JkY _),hsj];simp[hne]
     ·rw[List.drop_set_of_lt (by omega)];exact hdd
    ·have hne:neH hs[j]=false:=by
      rw[hsj]at h;unfold neH;cases e:hs[j].List with
      | nil=>rfl
      | cons=>rw[e]at h;simp at h;omega
     refine JkI ⟨hs.length-(j+1),by omega,j+1,k,rfl,D7 (by omega),rfl,by omega,by omega,hsl,?_,hdd⟩;rw[List.take_add_one (l:=hs),Jk9 hlt,List.filter_append,← ht];simp[hne]
   ·have:j=hs.length:=by omega
    subst this;refine Tot.iteF (by rw[hsl];exact Jf _) (JkI ⟨k,rfl,(show k<=s.length by omega),hsl,?_⟩);simpa using ht
  ·rw[List.take_add_one,hg,List.filter_append,hall _ hp];have:neH g=false:=by unfold neH;rw[hge];rfl
   simp[this]
 ·rintro⟨s,_⟩ ⟨k,rfl,hk,hsl,ht⟩;simp only at *;refine Tot.bindC (Xq (by omega) (by omega) (by omega)) ?_;have hclr:We s (0+Int.toNat (k:Int)) (Int.toNat ((s.length:Nat):Int)-Int.toNat (k:Int)) (⟨⟨[],[],0⟩,0,[],⟨0,[],[]⟩⟩:Ai)=some (s.take k++List.replicate (s.length-k) ⟨⟨[],[],0⟩,0,[],⟨0,[],[]⟩⟩):=by
   unfold We spl;rw[if_pos (by simp;omega)];congr 1;simp;omega
  refine Tot.bindC hclr (Tot.bindC (Xq (Int.le_refl 0) (by omega) (by simp;omega)) (JkI ?_));rw[← ht];simp only[Jli,Int.toNat_zero,List.drop_zero];exact List.take_left' (by simp;omega)
theorem Jd9 (hs:List Ai) (h0:hs≠[]) (hl:hs.length<1000000000):Tot (λ n=>II n hs) (λ m=>m∈hs/\∀ h∈hs,¬klr h.First m.First):=by
 have hpos:0<hs.length:=List.length_pos_iff.2 h0;unfold II;refine Tot.iteF (by simp;omega) (Tot.bindC (Bf (i:=0) hpos) (Tot.bind (R:=λ m=>m∈hs/\∀ h∈hs,¬klr h.First m.First) ?_ λ m hm=>JkI hm));refine Tot.whl (body:=λ n (x:Ai×Int)=>Fp n hs x.1 x.2) (λ k x=>∃ i:Nat,x.2=(i:Int)/\k=hs.length-i/\i<=hs.length/\x.1∈hs/\∀ h∈hs.take i,¬klr h.First x.1.First) ?_ (hs.length-1) _ ⟨1,rfl,rfl,by omega,JkV hpos,?_⟩
 ·rintro k ⟨m,_⟩ ⟨i,rfl,rfl,hi,hm,hx⟩;simp only at *;unfold Fp;rcases JkZ i hs.length with hlt|hge
  ·refine Tot.iteT (GM hlt) (Tot.bindC (Bf hlt) ?_);have hcmp:Ev (λ n=>EJ n hs[i] m) (Vi hs[i].First m.First):=⟨3,λ n hn=>by
    obtain⟨q,rfl⟩:∃ q,n=q+3:=⟨n-3,by omega⟩;show(AW (q+3) _ _).bind _=_;rw[OK];rfl⟩
   have nx:∀ m',m'∈hs->(∀ h∈hs.take i,¬klr h.First m'.First)->¬klr hs[i].First m'.First->Tot (λ n=>Fn n (i:Int) m') (Rd2 (λ y=>∃ j,j<hs.length-i/\∃ i:Nat,y.2=(i:Int)/\j=hs.length-i/\i<=hs.length/\y.1∈hs/\∀ h∈hs.take i,¬klr h.First y.1.First) (λ m=>m∈hs/\∀ h∈hs,¬klr h.First m.First)):=λ m' h1 h2 h3=>by
    refine JkI ⟨hs.length-(i+1),by omega,i+1,D7 (by omega),rfl,by omega,h1,λ g hg=>?_⟩;rw[List.take_add_one,Jk9 hlt]at hg;rcases List.mem_append.1 hg with hg|hg
    ·exact h2 g hg
    ·have e:g=hs[i]:=by simpa using hg
     subst e;exact h3
   refine JkJ hcmp (Tot.ite (λ h=>?_) λ h=>?_)
   ·have hk:klr hs[i].First m.First:=(Qx _ _).1 (by simpa using h);refine Tot.bindC (Bf hlt) (nx _ (JkV hlt) (λ g hg hgk=>hx g hg (Fd hgk hk)) (CF _))
   ·exact nx _ hm hx λ hk=>by have:=(Qx _ _).2 hk;simp at h;omega
  ·have:i=hs.length:=by omega
   subst this;exact Tot.iteF (Jf _) (JkI ⟨hm,by simpa using hx⟩)
 ·intro h hh;rw[List.take_one]at hh;cases hs with
  | nil=>exact absurd rfl h0
  | cons a r=>simp at hh;subst hh;exact CF _
theorem Jea (hs:List Ai) (m:Ai) (hm:m∈hs) (hl:hs.length<1000000000):Tot (λ n=>Hb n m hs) (λ r=>∃ (i:Nat) (h:Ai),r=(i:Int)/\hs[i]?=some h/\h.First.Cost=m.First.Cost/\h.First.Text=m.First.Text):=by
 unfold Hb;refine Tot.bind (R:=λ y=>∃ (i:Nat) (h:Ai),y=.inr (i:Int)/\hs[i]?=some h/\h.First.Cost=m.First.Cost/\h.First.Text=m.First.Text) ?_ ?_
 ·refine Tot.upto (body:=λ n x=>EK n m hs x) hs.length (λ i x=>x=(i:Int)/\∀ h∈hs.take i,¬(h.First.Cost=m.First.Cost/\h.First.Text=m.First.Text)) ?_ ?_ _ ⟨rfl,by simp⟩
  ·rintro i x hi ⟨rfl,hx⟩;unfold EK;have hcmp:Ev (λ n=>Eg n hs[i] m) (Vi hs[i].First m.First==0):=⟨3,λ n hn=>by
    obtain⟨q,rfl⟩:∃ q,n=q+3:=⟨n-3,by omega⟩;show((AW (q+3) _ _).bind _).bind _=_;rw[OK];rfl⟩
   refine Tot.iteT (GM hi) (Tot.bindC (Bf hi) (JkJ hcmp (Tot.ite (λ h=>?_) λ h=>?_)))
   ·exact JkI ⟨i,hs[i],rfl,Jk9 hi,(R5 _ _).1 (by simpa using h)⟩
   ·refine JkI ⟨D7 (by omega),λ g hg=>?_⟩;rw[List.take_add_one,Jk9 hi]at hg;rcases List.mem_append.1 hg with hg|hg
    ·exact hx g hg
    ·have e:g=hs[i]:=by simpa using hg
     subst e;intro hc;have:=(R5 _ _).2 hc;rw[this]at h;simp at h
  ·rintro x ⟨rfl,hx⟩;exact absurd ⟨rfl,rfl⟩ (hx m (by simpa using hm))
 ·rintro y ⟨i,h,rfl,h1⟩;exact JkI ⟨i,h,rfl,h1⟩
def mpR (h:Ai) (r:Ag):Ag:=⟨h.More+r.Cost,h.Arc.Print++r.Text,h.Arc.Cells++r.Cells⟩
def ldH (h:Ai):Ai:=match h.List with
 | []=>h
 | r::_=>{ h with First:=⟨h.More+r.Cost,h.Arc.Print++r.Text,[]⟩ }
structure SmR (r:Ag):Prop where
 c0:0<=r.Cost
 c1:r.Cost<=1000000
 tx:r.Text.length<=1000000
 cl:r.Cells.length<=1000000
structure SmH (h:Ai):Prop where
 m0:0<=h.More
 m1:h.More<=1000000
 pr:h.Arc.Print.length<=1000000
 cl:h.Arc.Cells.length<=1000000
 rs:∀ r∈h.List,SmR r
theorem XD {hs:List Ai} {i:Nat} {h:Ai} (hi:hs[i]?=some h) (hs1:SmH h) (hne:h.List≠[]) (n:Nat):DU n (i:Int) hs=some (hs.set i (ldH h)):=by
 unfold DU;have e:=C6 hi;have hlt:=AC hi;cases hL:h.List with
 | nil=>exact absurd hL hne
 | cons r l=>
  have hr:SmR r:=hs1.rs r (by rw[hL];simp);have e0:idx h.List 0=some r:=by rw[hL];rfl
  have e1:AX .i64 h.More r.Cost=h.More+r.Cost:=Lf (by have:=hs1.m0;have:=hr.c0;omega) (by have:=hs1.m1;have:=hr.c1;omega);simp only[e,JkP,e0,Tq (show h.Arc.Print.length+r.Text.length<=9223372036854775807 by have:=hs1.pr;have:=hr.tx;omega),e1,Tp hlt];unfold ldH;rw[hL]
end Go.AI
end
section
namespace Go.AI
def gam (h:Ai):List Ag:=h.List.map (mpR h)
def Ld8 (h:Ai):Prop:=∃ r l,h.List=r::l/\h.First=⟨h.More+r.Cost,h.Arc.Print++r.Text,[]⟩
theorem Jcx {h:Ai} (hne:h.List≠[]):Ld8 (ldH h):=by
 unfold Ld8 ldH;split
 ·rename_i e;exact absurd e hne
 ·rename_i r l e;exact⟨r,l,e,rfl⟩
theorem Qz (h:Ai):(ldH h).List=h.List:=by unfold ldH;split<;>rfl
theorem Tu (h:Ai):(ldH h).Arc=h.Arc:=by unfold ldH;split<;>rfl
theorem QA (h:Ai):(ldH h).More=h.More:=by unfold ldH;split<;>rfl
theorem Kz (h:Ai):gam (ldH h)=gam h:=by
 unfold gam;rw[Qz];exact Jk7 λ r _=>by unfold mpR;rw[Tu,QA]
theorem Jcy {h:Ai} (hs:SmH h):SmH (ldH h):=⟨by rw[QA];exact hs.m0,by rw[QA];exact hs.m1,by rw[Tu];exact hs.pr,by rw[Tu];exact hs.cl,by rw[Qz];exact hs.rs⟩
theorem Jcz {α:Type} {l:List α} {i:Nat} {x:α} (h:l[i]?=some x):∃ u v,l=u++x::v/\u.length=i:=by
 have hl:=AC h;refine⟨l.take i,l.drop (i+1),?_,by simp;omega⟩;have e:l[i]=x:=by rw[Jk9 hl]at h;exact Option.some.inj h
 rw[← e,← List.drop_eq_getElem_cons hl,List.take_append_drop]
theorem OL {α:Type} (u v:List α) (x y:α):(u++x::v).set u.length y=u++y::v:=by simp
def mes (hs:List Ai):Nat:=(hs.map λ h=>h.List.length).sum
theorem JcA {hs:List Ai} (h1:∀ h∈hs,SmH h/\h.List≠[]) (hl:hs.length<1000000000) (p:Int) (s:Ab):Tot (λ n=>whl (λ (x:List Ai×Int)=>BX n p s hs x.1 x.2) n (hs,0)) (λ r=>r=hs.map ldH):=by
 refine Tot.upto (body:=λ n (x:List Ai×Int)=>BX n p s hs x.1 x.2) hs.length (λ i x=>x.2=(i:Int)/\x.1=(hs.take i).map ldH++hs.drop i) ?_ ?_ _ ⟨rfl,by simp⟩
 ·rintro i ⟨x,_⟩ hi ⟨rfl,hx⟩;simp only at hx;subst hx;unfold BX;have e:((hs.take i).map ldH++hs.drop i)=(hs.take i).map ldH++hs[i]::hs.drop (i+1):=by rw[List.drop_eq_getElem_cons hi]
  have hlen:((hs.take i).map ldH).length=i:=by simp;omega
  have hat:((hs.take i).map ldH++hs.drop i)[i]?=some hs[i]:=by
   rw[e,Jlr (by omega),hlen];simp
  obtain⟨g1,g2⟩:=h1 _ (JkV hi);have e2:((hs.take i).map ldH++hs.drop i).set i (ldH hs[i])=(hs.take (i+1)).map ldH++hs.drop (i+1):=by
   rw[e];have:=OL ((hs.take i).map ldH) (hs.drop (i+1)) hs[i] (ldH hs[i]);rw[hlen]at this;rw[this,List.take_add_one,Jk9 hi];simp only[Option.toList_some,List.map_append,Jk5,List.map_nil,List.append_assoc,List.singleton_append]
  refine Tot.iteT (GM hi) (Tot.bindC (C6 hat) (JkK (λ n=>XD hat g1 g2 n) (Tot.bindC (CP (by simp)) (JkI ⟨D7 (by omega),e2⟩))))
 ·rintro⟨x,_⟩ ⟨rfl,hx⟩;unfold BX;refine Tot.iteF (Jf _) (JkI ?_);simp only at hx;subst hx;show _=_;simp
theorem Jeb {hs:List Ai} {u v:List Ai} {h:Ai} {r:Ag} {l:List Ag} (he:hs=u++h::v) (hL:h.List=r::l) (hsm:SmH h) (hl:hs.length<1000000000) (f:List (List UInt8×Ag)) :
  Tot (λ n=>BY n hs (u.length:Int) f) (Rd2 (λ y=>y.2=f/\((l≠[]/\y.1=u++ldH { h with List:=l }::v)\/(l=[]/\y.1=u++v))) (λ _=>False)):=by
 subst he;unfold BY;have hat:(u++h::v)[u.length]?=some h:=by simp
 have hsub:sub h.List 1 ((h.List.length:Nat):Int)=some l:=by rw[hL,Xq (by omega) (by simp;omega) (by omega)];simp
 have hll:u.length<(u++h::v).length:=by simp
 refine Tot.bindC (C6 hat) (Tot.bindC hsub (Tot.bindC (C6 hat) (Tot.bindC (Tp hll) ?_)));rw[OL];have hat2:(u++{ Arc:=h.Arc,More:=h.More,List:=l,First:=h.First }::v:List Ai)[u.length]?=some { Arc:=h.Arc,More:=h.More,List:=l,First:=h.First }:=by simp
 refine Tot.bindC (C6 hat2) (Tot.ite (λ hc=>?_) λ hc=>?_)
 ·have hne:l≠[]:=λ e=>by subst e;simp at hc
  have hsm2:SmH { Arc:=h.Arc,More:=h.More,List:=l,First:=h.First }:=⟨hsm.m0,hsm.m1,hsm.pr,hsm.cl,λ q hq=>hsm.rs q (by rw[hL];simp[hq])⟩;refine JkK (λ n=>XD hat2 hsm2 hne n) (Tot.bindC (CP (by simp)) (JkI ⟨rfl,.inl ⟨hne,?_⟩⟩));exact OL _ _ _ _
 ·have hne:l=[]:=by
   cases l with
   | nil=>rfl
   | cons=>simp at hc<;>omega
  have hd:S2 0 (u.length:Int) (AX .i64 (u.length:Int) 1) (u++{ Arc:=h.Arc,More:=h.More,List:=l,First:=h.First }::v)=some (u++v):=by
   unfold S2 JdY;rw[D7 (by simp at hl;omega),if_pos ⟨by omega,by omega,by simp;omega⟩];simp
  exact Tot.bindC hd (JkI ⟨rfl,.inr ⟨hne,rfl⟩⟩)
structure MI (All:Ag->Prop) (B:Int) (M:Nat) (hs:List Ai) (f:List (List UInt8×Ag)) (dn:Ag->Prop):Prop where
 ld:∀ h∈hs,Ld8 h/\SmH h/\(gam h).Pairwise klr
 rem:∀ h∈hs,∀ c∈gam h,∀ d,dn d->¬klr c d
 tot:∀ c,All c->dn c\/∃ h∈hs,c∈gam h
 snd:∀ d,dn d->All d/\d.Cost<=B
 sndh:∀ h∈hs,∀ c∈gam h,All c
 key:∀ x r,AT x f=some r->r.Text=x/\dn r
 fnd:∀ d,dn d->∃ r,AT d.Text f=some r/\le2 r d
 nd:(f.map Prod.fst).Nodup
 len:f.length<=M
def XE (All:Ag->Prop) (B:Int) (M:Nat) (f:List (List UInt8×Ag)):Prop:=
 ∃ hs dn,MI All B M hs f dn/\(hs=[]\/∃ f0:Ag,(∃ h∈hs,f0∈gam h)/\(∀ h∈hs,∀ c∈gam h,¬klr c f0)/\(B<f0.Cost\/(AT f0.Text f=none/\f.length=M)))
theorem Nx {α:Type} (k:List UInt8) (v:α):∀ m:List (List UInt8×α),(BP k v m).map Prod.fst=if k∈m.map Prod.fst then m.map Prod.fst else m.map Prod.fst++[k]
 | []=>by simp[BP]
 | p::m=>by
  unfold BP;by_cases e:k=p.1
  ·rw[if_pos e];simp[e]
  ·rw[if_neg e,Jk5,Nx k v m];by_cases hm:k∈m.map Prod.fst
   ·rw[if_pos hm,if_pos (by simp only[Jk5,List.mem_cons];exact .inr hm)];rfl
   ·rw[if_neg hm,if_neg (by simp only[Jk5,List.mem_cons,not_or];exact⟨e,hm⟩)];rfl
theorem Ny {α:Type} (k:List UInt8):∀ m:List (List UInt8×α),k∈m.map Prod.fst↔(AT k m).isSome=true
 | []=>by simp[AT]
 | p::m=>by
  unfold AT;by_cases e:k=p.1
  ·rw[if_pos e];simp[e]
  ·rw[if_neg e,Jk5,List.mem_cons,Ny k m];simp[e]
theorem Zf {α:Type} (k:List UInt8) (v:α) (m:List (List UInt8×α)):(BP k v m).length=if(AT k m).isSome=true then m.length else m.length+1:=by
 have:=congrArg List.length (Nx k v m);rw[Jk4]at this;rw[this];by_cases h:k∈m.map Prod.fst
 ·rw[if_pos h,if_pos ((Ny k m).1 h)];simp
 ·rw[if_neg h,if_neg λ h'=>h ((Ny k m).2 h')];simp
theorem JcB {α:Type} (k:List UInt8) (v:α) (m:List (List UInt8×α)) (h:(m.map Prod.fst).Nodup):((BP k v m).map Prod.fst).Nodup:=by
 rw[Nx];split
 ·exact h
 ·rename_i hk;rw[List.nodup_append];refine⟨h,by simp,λ a ha b hb=>?_⟩;simp at hb;subst hb;intro e;subst e;exact hk ha
theorem MI.step {All:Ag->Prop} {B:Int} {M:Nat} {u v:List Ai} {h:Ai} {r:Ag} {l:List Ag} {f f':List (List UInt8×Ag)} {dn:Ag->Prop} {hs':List Ai}
  (hI:MI All B M (u++h::v) f dn) (hL:h.List=r::l) (hmin:∀ g∈u++h::v,∀ c∈gam g,¬klr c (mpR h r)) (hc:(mpR h r).Cost<=B)
  (hhs:(l≠[]/\hs'=u++ldH { h with List:=l }::v)\/(l=[]/\hs'=u++v))
  (hf:(f'=BP (mpR h r).Text (mpR h r) f/\((AT (mpR h r).Text f=none/\f.length<M)\/∃ o,AT (mpR h r).Text f=some o/\o.Cost=(mpR h r).Cost/\ltB (mpR h r).Cells o.Cells)) \/
   (f'=f/\∃ o,AT (mpR h r).Text f=some o/\¬(o.Cost=(mpR h r).Cost/\ltB (mpR h r).Cells o.Cells))) :
  MI All B M hs' f' (λ d=>dn d\/d=mpR h r):=by
 have hg:gam h=mpR h r::gam { h with List:=l }:=by unfold gam;rw[hL];rfl
 have hmem:∀ g∈hs',g∈u++h::v\/(l≠[]/\g=ldH { h with List:=l }):=λ g hg'=>by
  rcases hhs with⟨h1,rfl⟩|⟨h1,rfl⟩
  ·simp only[List.mem_append,List.mem_cons]at hg'⊢;rcases hg' with h2|h2|h2
   ·exact .inl (.inl h2)
   ·exact .inr ⟨h1,h2⟩
   ·exact .inl (.inr (.inr h2))
  ·simp only[List.mem_append,List.mem_cons]at hg'⊢;rcases hg' with h2|h2
   ·exact .inl (.inl h2)
   ·exact .inl (.inr (.inr h2))
 have hh:h∈u++h::v:=by simp
 obtain⟨_,hsm,hpw⟩:=hI.ld h hh;rw[hg,List.pairwise_cons]at hpw;have hgam:∀ g∈hs',∀ c∈gam g,∃ g0∈u++h::v,c∈gam g0:=λ g hg' c hc'=>by
  rcases hmem g hg' with h1|⟨_,rfl⟩
  ·exact⟨g,h1,hc'⟩
  ·exact⟨h,hh,by rw[Kz]at hc';rw[hg];exact List.mem_cons_of_mem _ hc'⟩
 have hold:∀ d,dn d->d.Text=(mpR h r).Text->d.Cost<=(mpR h r).Cost:=λ d hd ht=>by
  have:=hI.rem h hh (mpR h r) (by rw[hg];simp) d hd;rcases Int.lt_or_le (mpR h r).Cost d.Cost with h1|h1
  ·exact absurd (.inl h1) this
  ·exact h1
 refine⟨λ g hg'=>?_,λ g hg' c hc' d hd=>?_,λ c hc'=>?_,λ d hd=>?_,λ g hg' c hc'=>?_,λ x q hq=>?_,λ d hd=>?_,?_,?_⟩
 ·rcases hmem g hg' with h1|⟨h1,rfl⟩
  ·exact hI.ld g h1
  ·refine⟨Jcx h1,Jcy ⟨hsm.m0,hsm.m1,hsm.pr,hsm.cl,λ q hq=>hsm.rs q (by rw[hL];exact List.mem_cons_of_mem _ hq)⟩,?_⟩;rw[Kz];exact hpw.2
 ·obtain⟨g0,hg0,hc0⟩:=hgam g hg' c hc';rcases hd with hd|rfl
  ·exact hI.rem g0 hg0 c hc0 d hd
  ·exact hmin g0 hg0 c hc0
 ·rcases hI.tot c hc' with h1|⟨g,hg',hc''⟩
  ·exact .inl (.inl h1)
  ·by_cases e:g=h
   ·subst e;rw[hg]at hc'';rcases List.mem_cons.1 hc'' with h1|h1
    ·exact .inl (.inr h1)
    ·right;rcases hhs with⟨h2,rfl⟩|⟨h2,rfl⟩
     ·exact⟨ldH { g with List:=l },by simp,by rw[Kz];exact h1⟩
     ·subst h2;simp[gam]at h1
   ·right;refine⟨g,?_,hc''⟩;simp only[List.mem_append,List.mem_cons]at hg';rcases hhs with⟨h2,rfl⟩|⟨h2,rfl⟩
    ·simp only[List.mem_append,List.mem_cons];rcases hg' with h3|h3|h3
     ·exact .inl h3
     ·exact absurd h3 e
     ·exact .inr (.inr h3)
    ·simp only[List.mem_append];rcases hg' with h3|h3|h3
     ·exact .inl h3
     ·exact absurd h3 e
     ·exact .inr h3
 ·rcases hd with hd|rfl
  ·exact hI.snd d hd
  ·exact⟨hI.sndh h hh (mpR h r) (by rw[hg];simp),hc⟩
 ·obtain⟨g0,hg0,hc0⟩:=hgam g hg' c hc';exact hI.sndh g0 hg0 c hc0
 ·rcases hf with⟨rfl,_⟩|⟨rfl,_⟩
  ·rw[Ib]at hq;split at hq
   ·rename_i e;cases hq;exact⟨e.symm,.inr rfl⟩
   ·obtain⟨h1,h2⟩:=hI.key x q hq;exact⟨h1,.inl h2⟩
  ·obtain⟨h1,h2⟩:=hI.key x q hq;exact⟨h1,.inl h2⟩
 ·rcases hf with⟨rfl,h3⟩|⟨rfl,o,ho,h3⟩
  ·rcases hd with hd|rfl
   ·obtain⟨q,hq,hle⟩:=hI.fnd d hd;rw[Ib];split
    ·rename_i e;refine⟨_,rfl,?_⟩;rcases h3 with⟨h3,_⟩|⟨o,ho,h4,h5⟩
     ·rw[e,h3]at hq;cases hq
     ·rw[e,ho]at hq;cases hq;exact R3 (.inr ⟨h4.symm,λ h6=>R1 h5 h6⟩) hle
    ·exact⟨q,hq,hle⟩
   ·exact⟨_,by rw[Ib,if_pos rfl],Vg _⟩
  ·rcases hd with hd|rfl
   ·exact hI.fnd d hd
   ·refine⟨o,ho,?_⟩;obtain⟨h4,h5⟩:=hI.key _ _ ho;have h6:=hold o h5 h4;rcases Int.lt_or_eq_of_le h6 with h7|h7
    ·exact .inl h7
    ·exact .inr ⟨h7,λ h8=>h3 ⟨h7,h8⟩⟩
 ·rcases hf with⟨rfl,_⟩|⟨rfl,_⟩
  ·exact JcB _ _ _ hI.nd
  ·exact hI.nd
 ·rcases hf with⟨rfl,h3⟩|⟨rfl,_⟩
  ·rw[Zf];rcases h3 with⟨h3,h4⟩|⟨o,h3,_⟩
   ·rw[h3,if_neg (by simp)];omega
   ·rw[h3];simpa using hI.len
  ·exact hI.len
end Go.AI
end
section
namespace Go.AI
theorem Nz {a b c d:Ag} (h1:a.Cost=b.Cost) (h2:a.Text=b.Text) (h3:c.Cost=d.Cost) (h4:c.Text=d.Text):klr a c↔klr b d:=by unfold klr;rw[h1,h2,h3,h4]
theorem Jec {u v:List Ai} {h:Ai}:mes (u++h::v)=mes (u++v)+h.List.length:=by simp[mes];omega
theorem Jed {u v:List Ai} {h g:Ai}:mes (u++h::v)+g.List.length=mes (u++g::v)+h.List.length:=by simp[mes];omega
theorem JcC {All:Ag->Prop} {B:Int} {M:Nat} {s:Ab} (hM:s.Most=(M:Int)) {hs:List Ai} (hI:MI All B M hs [] (λ _=>False)) (hl:hs.length<1000000000) :
  Tot (λ n=>whl (λ (x:List Ai×List (List UInt8×Ag))=>Ch n B s x.1 x.2) n (hs,[])) (XE All B M):=by
 refine Tot.whl (body:=λ n (x:List Ai×List (List UInt8×Ag))=>Ch n B s x.1 x.2) (λ k x=>∃ dn,MI All B M x.1 x.2 dn/\k=mes x.1/\x.1.length<1000000000) ?_ (mes hs) _ ⟨_,hI,rfl,hl⟩;rintro k ⟨hs,f⟩ ⟨dn,hI,rfl,hl⟩;simp only at *;unfold Ch;by_cases h0:hs=[]
 ·subst h0;exact Tot.iteF (by simp) (JkI ⟨[],dn,hI,.inl rfl⟩)
 have hpos:0<hs.length:=List.length_pos_iff.2 h0;refine Tot.iteT (by simp;omega) (Tot.bind (Jd9 hs h0 hl) λ m ⟨hm,hmin⟩=>Tot.bind (Jea hs m hm hl) ?_);rintro _ ⟨i,h,rfl,hi,e1,e2⟩;obtain⟨u,v,he,hul⟩:=Jcz hi;have hh:h∈hs:=Jlb hi;obtain⟨⟨r,l,hL,hF⟩,hsm,hpw⟩:=hI.ld h hh;have hFc:h.First.Cost=(mpR h r).Cost:=by rw[hF];rfl
 have hFt:h.First.Text=(mpR h r).Text:=by rw[hF];rfl
 have hle:∀ g∈hs,∀ c∈gam g,¬klr c (mpR h r):=λ g hg c hc hk=>by
  obtain⟨⟨r',l',hL',hF'⟩,_,hpw'⟩:=hI.ld g hg;have h3:¬klr g.First m.First:=hmin g hg;rw[Nz (b:=mpR g r') (d:=mpR h r) (by rw[hF'];rfl) (by rw[hF'];rfl) (by rw[← e1,hFc]) (by rw[← e2,hFt])]at h3;have hg':gam g=mpR g r'::l'.map (mpR g):=by unfold gam;rw[hL'];rfl
  rw[hg']at hc hpw';rcases List.mem_cons.1 hc with rfl|hc
  ·exact h3 hk
  ·exact h3 (Fd ((List.pairwise_cons.1 hpw').1 c hc) hk)
 refine Tot.bindC (C6 hi) (Tot.ite (λ hc=>?_) λ hc=>?_)
 ·refine JkI ⟨hs,dn,hI,.inr ⟨mpR h r,⟨h,hh,by unfold gam;rw[hL];simp⟩,hle,?_⟩⟩;rw[← hFc,← hFt];simp only[Jls,decide_eq_true_eq,Jla,Bool.not_eq_true',Option.isSome_eq_false_iff,Option.isNone_iff_eq_none,beq_iff_eq,hM]at hc;rcases hc with hc|⟨hc,hc2⟩
  ·exact .inl (by omega)
  ·exact .inr ⟨hc,by omega⟩
 ·simp only[Jk8,decide_eq_false_iff_not,hM]at hc;obtain⟨hc1,hc2⟩:=hc;have hcB:(mpR h r).Cost<=B:=by rw[← hFc];omega
  have h00:idx h.List 0=some r:=by rw[hL];rfl
  have hr:=hsm.rs r (by rw[hL];simp);refine Tot.bindC h00 (Tot.bindC (Tq (by have:=hsm.cl;have:=hr.cl;omega)) ?_);have nx:∀ f',((f'=BP (mpR h r).Text (mpR h r) f/\((AT (mpR h r).Text f=none/\f.length<M)\/∃ o,AT (mpR h r).Text f=some o/\o.Cost=(mpR h r).Cost/\ltB (mpR h r).Cells o.Cells)) \/
   (f'=f/\∃ o,AT (mpR h r).Text f=some o/\¬(o.Cost=(mpR h r).Cost/\ltB (mpR h r).Cells o.Cells))) ->
   Tot (λ n=>BY n hs (i:Int) f') (Rd2 (λ y=>∃ j,j<mes hs/\∃ dn,MI All B M y.1 y.2 dn/\j=mes y.1/\y.1.length<1000000000) (XE All B M)):=λ f' hf'=>by
   rw[← hul];refine(Jeb he hL hsm hl f').mono λ z hz=>?_;cases z with
   | inr z=>exact hz.elim
   | inl z=>
    obtain⟨hz1,hz2⟩:=hz;rw[he]at hI hle;have hst:=hI.step hL hle hcB hz2 hf';refine⟨mes z.1,?_,_,by rw[hz1];exact hst,rfl,?_⟩
    ·rw[he];rcases hz2 with⟨_,e⟩|⟨_,e⟩
     ·rw[e];have:=Jed (u:=u) (v:=v) (h:=h) (g:=ldH { h with List:=l });rw[Qz,hL]at this;simp only[List.length_cons]at this;omega
     ·rw[e,Jec,hL];simp
    ·rw[he]at hl;rcases hz2 with⟨_,e⟩|⟨_,e⟩<;>rw[e]<;>simp at hl⊢<;>omega
  rw[hFt,hFc]at *;refine Tot.ite (λ hd=>?_) λ hd=>?_
  ·refine nx _ (.inl ⟨rfl,?_⟩);cases hg:AT (mpR h r).Text f with
   | none=>
    rw[hg]at hc2;left;refine⟨rfl,?_⟩;have:=hI.len;simp at hc2;omega
   | some o=>
    right;rw[hg]at hd;simp only[Option.isSome_some,JkW,Bool.false_or,JkU,Jla,beq_iff_eq]at hd;exact⟨o,rfl,hd.1,hd.2⟩
  ·refine nx _ (.inr ⟨rfl,?_⟩);cases hg:AT (mpR h r).Text f with
   | none=>rw[hg]at hd;simp at hd
   | some o=>
    rw[hg]at hd;refine⟨o,rfl,λ hx=>?_⟩;have h2:Op.bytesLess (h.Arc.Cells++r.Cells) o.Cells=true:=hx.2;simp[hx.1,h2]at hd
theorem Ke {α:Type} {p:List UInt8×α}:∀ {f:List (List UInt8×α)},p∈f->(f.map Prod.fst).Nodup->AT p.1 f=some p.2
 | q::f,hp,hnd=>by
  unfold AT;rw[Jk5,List.nodup_cons]at hnd;rcases List.mem_cons.1 hp with rfl|hp
  ·rw[if_pos rfl]
  ·rw[if_neg (λ e=>hnd.1 (by rw[← e];exact List.mem_map_of_mem hp))];exact Ke hp hnd.2
theorem XF {α:Type} {x:List UInt8} {r:α}:∀ {f:List (List UInt8×α)},AT x f=some r->(x,r)∈f
 | q::f,hx=>by
  unfold AT at hx;split at hx
  ·rename_i e;cases hx;subst e;simp
  ·exact List.mem_cons_of_mem _ (XF hx)
theorem XE.bst {All T:Ag->Prop} {B:Int} {M:Nat} {f:List (List UInt8×Ag)} (h:XE All B M f) {l:List Ag} (hp:l.Perm (f.map Prod.snd)) (hs:l.Pairwise λ a b=>¬klr b a)
  (hsnd:∀ c,All c->T c) (hcov:∀ r,T r->r.Cost<=B->(∃ c,All c/\c.Text=r.Text/\le2 c r)\/∃ cs:List Ag,cs.length=M/\cs.Pairwise (λ a b=>a.Text≠b.Text)/\∀ c∈cs,All c/\klr c r):Bst T B M l:=by
 obtain⟨hs',dn,hI,hend⟩:=h;have hml:∀ r∈l,AT r.Text f=some r/\dn r:=λ r hr=>by
  obtain⟨p,hp,rfl⟩:=Jk1.1 (hp.mem_iff.1 hr);have hm:=Ke hp hI.nd;obtain⟨h1,h2⟩:=hI.key _ _ hm;exact⟨by rw[h1];exact hm,h2⟩
 have hin:∀ x r,AT x f=some r->r∈l:=λ x r hx=>by
  rw[hp.mem_iff];exact Jk1.2 ⟨_,XF hx,rfl⟩
 have hlen:l.length=f.length:=by rw[hp.length_eq,Jk4]
 have hdst:∀ r∈l,∀ s∈l,r.Text=s.Text->r=s:=λ r hr s hs2 e=>by
  have h1:=(hml r hr).1;rw[e,(hml s hs2).1]at h1;exact(Option.some.inj h1).symm
 have hnd:l.Nodup:=by
  rw[hp.nodup_iff];have h1:=hI.nd;rw[List.Nodup,List.pairwise_map]at h1⊢;refine List.Pairwise.imp_of_mem (λ {a b} ha hb hab e=>hab ?_) h1;rw[← (hI.key _ _ (Ke ha hI.nd)).1,← (hI.key _ _ (Ke hb hI.nd)).1,e]
 have hsrt:l.Pairwise klr:=by
  refine List.Pairwise.imp_of_mem (λ {a b} ha hb hab=>?_) (hs.and hnd);obtain⟨h1,h2⟩:=hab;rcases Gi a b with h3|h3|⟨_,h3⟩
  ·exact h3
  ·exact absurd h3 h1
  ·exact absurd (hdst a ha b hb h3) h2
 refine⟨λ r hr=>⟨hsnd r (hI.snd r (hml r hr).2).1,(hI.snd r (hml r hr).2).2⟩,hsrt,hdst,λ r hr hrB=>?_,by rw[hlen];exact hI.len⟩;have hdone:∀ c,dn c->∃ s∈l,s.Text=c.Text/\le2 s c:=λ c hc=>by
  obtain⟨s,h1,h2⟩:=hI.fnd c hc;exact⟨s,hin _ _ h1,(hI.key _ _ h1).1,h2⟩
 have hrest:∀ c,All c->c.Cost<=B->¬dn c->l.length=M/\∃ f0:Ag,¬klr c f0/\AT f0.Text f=none/\∀ s∈l,klr s f0:=λ c hc hcB hnd=>by
  rcases hI.tot c hc with h1|⟨g,hg,hcg⟩
  ·exact absurd h1 hnd
  ·rcases hend with rfl|⟨f0,⟨g0,hg0,hf0⟩,h1,h2⟩
   ·simp at hg
   ·have h3:=h1 g hg c hcg;rcases h2 with h2|⟨h2,h4⟩
    ·exact absurd (.inl (by omega)) h3
    ·refine⟨by rw[hlen];exact h4,f0,h3,h2,λ s hs2=>?_⟩;obtain⟨h5,h6⟩:=hml s hs2;have h7:=hI.rem g0 hg0 f0 hf0 s h6;rcases Gi s f0 with h8|h8|⟨_,h8⟩
     ·exact h8
     ·exact absurd h8 h7
     ·rw[h8,h2]at h5;cases h5
 have hbehind:∀ c,All c->c.Cost<=B->¬dn c->∀ r:Ag,¬klr r c->l.length=M/\∀ s∈l,klr s r:=λ c hc hcB hnd r hrc=>by
  obtain⟨h1,f0,h2,_,h4⟩:=hrest c hc hcB hnd;refine⟨h1,λ s hs2=>?_⟩;have h5:¬klr r f0:=Qu hrc h2;rcases Gi s r with h6|h6|⟨h6,h7⟩
  ·exact h6
  ·exact absurd (Fd h6 (h4 s hs2)) h5
  ·exact absurd ((Nz h6 h7 rfl rfl).1 (h4 s hs2)) h5
 rcases hcov r hr hrB with⟨c,hc,hct,hcle⟩|⟨cs,hcl,hcd,hcs⟩
 ·have hcB:c.Cost<=B:=by rcases hcle with h1|⟨h1,_⟩<;>omega
  by_cases hd:dn c
  ·left;obtain⟨s,hs2,hst,hsle⟩:=hdone c hd;exact⟨s,hs2,hst.trans hct,R3 hsle hcle⟩
  ·right;refine hbehind c hc hcB hd r λ hk=>?_;rcases hk with hk|⟨_,hk⟩
   ·rcases hcle with h1|⟨h1,_⟩<;>omega
   ·rw[hct]at hk;exact C7 _ hk
 ·right;by_cases hall:∀ c∈cs,dn c
  ·
   have hcB:∀ c∈cs,∃ s∈l,s.Text=c.Text/\le2 s c:=λ c hc=>hdone c (hall c hc);have htx:∀ x∈cs.map (·.Text),x∈l.map (·.Text):=λ x hx=>by
    obtain⟨c,hc,rfl⟩:=Jk1.1 hx;obtain⟨s,h1,h2,_⟩:=hcB c hc;exact Jk1.2 ⟨s,h1,h2⟩
   have hcn:(cs.map (·.Text)).Nodup:=by rw[List.Nodup,List.pairwise_map];exact hcd
   have hle:=Gg hcn htx;simp only[Jk4,hcl]at hle;have hlM:l.length=M:=by have:=hI.len;omega
   refine⟨hlM,λ s hs2=>?_⟩;have hsub:∀ x∈l.map (·.Text),x∈cs.map (·.Text):=by
    intro x hx;by_cases hxc:x∈cs.map (·.Text)
    ·exact hxc
    ·exfalso;have h1:(x::cs.map (·.Text)).Nodup:=List.nodup_cons.2 ⟨hxc,hcn⟩;have h2:=Gg h1 (m:=l.map (·.Text)) λ y hy=>by
      rcases List.mem_cons.1 hy with rfl|hy
      ·exact hx
      ·exact htx y hy
     simp[hcl,hlM]at h2;omega
   obtain⟨c,hc,hct⟩:=Jk1.1 (hsub s.Text (List.mem_map_of_mem hs2));obtain⟨s',hs3,hst,hsle⟩:=hcB c hc;have:=hdst s' hs3 s hs2 (hst.trans hct);subst this;have h3:=(hcs c hc).2;rcases hsle with h4|⟨h4,_⟩
   ·rcases h3 with h3|⟨h3,_⟩
    ·exact .inl (by omega)
    ·exact .inl (by omega)
   ·exact(Nz h4 hst rfl rfl).2 h3
  ·obtain⟨c,hc⟩:=Classical.not_forall.1 hall;obtain⟨hc,hnd2⟩:=Classical.not_imp.1 hc;obtain⟨h1,h2⟩:=hcs c hc;exact hbehind c h1 (by rcases h2 with h2|⟨h2,_⟩<;>omega) hnd2 r (Gh h2)
end Go.AI
end
section
namespace Go.AI
theorem R6 {α:Type}:∀ l:List α,∃ L:List (List α),∀ o:List α,o.Perm l->o∈L
 | []=>⟨[[]],λ o ho=>by rw[ho.eq_nil];simp⟩
 | a::l=>by
  obtain⟨L,hL⟩:=R6 l;refine⟨L.flatMap λ u=>(List.range (u.length+1)).map λ i=>u.take i++a::u.drop i,λ o ho=>?_⟩;obtain⟨x,y,rfl⟩:=List.append_of_mem (ho.mem_iff.2 (List.mem_cons_self));have h1:(x++y).Perm l:=(List.perm_middle.symm.trans ho).cons_inv;rw[List.mem_flatMap];refine⟨x++y,hL _ h1,Jk1.2 ⟨x.length,List.mem_range.2 (by simp;omega),by simp⟩⟩
theorem Ev.demP {ε ζ:Type} {k:Nat->List ε->Option ζ} {m:List ε} {z:ζ} (h:∀ o:List ε,o.Perm m->Ev (λ n=>k n o) z):Ev (λ n=>dem (λ o:List ε=>List.Perm o m) (k n)) z:=by
 obtain⟨L,hL⟩:=R6 m;have:∀ L:List (List ε),∃ N,∀ o∈L,o.Perm m->∀ n,N<=n->k n o=some z:=by
  intro L;induction L with
  | nil=>exact⟨0,λ o ho=>by simp at ho⟩
  | cons a L ih=>
   obtain⟨N,hN⟩:=ih;by_cases hp:a.Perm m
   ·obtain⟨N2,h2⟩:=h a hp;refine⟨max N N2,λ o ho hop n hn=>?_⟩;rcases List.mem_cons.1 ho with rfl|ho
    ·exact h2 n (by omega)
    ·exact hN o ho hop n (by omega)
   ·refine⟨N,λ o ho hop n hn=>?_⟩;rcases List.mem_cons.1 ho with rfl|ho
    ·exact absurd hop hp
    ·exact hN o ho hop n hn
 obtain⟨N,hN⟩:=this L;exact⟨N,λ n hn=>Jaz ⟨m,List.Perm.refl m⟩ λ o ho=>hN o (hL o ho) ho n hn⟩
theorem Tot.demP {ε ζ:Type} {P:ζ->Prop} {k:Nat->List ε->Option ζ} {m:List ε} (z:ζ) (h:∀ o:List ε,o.Perm m->Tot (λ n=>k n o) (λ y=>y=z)) (hp:P z):Tot (λ n=>dem (λ o:List ε=>List.Perm o m) (k n)) P:=
 (Ev.demP λ o ho=>(h o ho).ev).tot hp
theorem Tot.mapW {ε σ:Type} {F:Nat->ε->σ->Option (σ⊕Empty)} {o:List ε} (I:List ε->σ->Prop) (step:∀ u e v x,o=u++e::v->I u x->Tot (λ n=>F n e x) (Rd2 (I (u++[e])) (λ _=>True))) {x:σ} (h0:I [] x):Tot (λ n=>Go.AI.mapW (F n) o x) (Rd2 (I o) (λ _=>True)):=by
 have key:∀ (v u:List ε) (x:σ),o=u++v->I u x->Tot (λ n=>Go.AI.mapW (F n) v x) (Rd2 (I o) (λ _=>True)):=by
  intro v;induction v with
  | nil=>intro u x ho hx;rw[List.append_nil]at ho;subst ho;exact JkI hx
  | cons e v ih=>
   intro u x ho hx;obtain⟨z,hz,N1,h1⟩:=step u e v x ho hx;cases z with
   | inr z=>exact nomatch z
   | inl y=>
    obtain⟨w,hw,N2,h2⟩:=ih (u++[e]) y (by rw[ho];simp) hz;refine⟨w,hw,max N1 N2,λ n hn=>?_⟩;have e1:=h1 n (by omega);have e2:=h2 n (by omega);simp only at e1 e2;simp only[Go.AI.mapW,e1];exact e2
 exact key o [] x rfl h0
theorem JcD {T:Ag->Prop} {B:Int} {M:Nat} {s:Ab} (hM:s.Most=(M:Int)) (hM1:M<=1000) {hs:List Ai} (hl:hs.length<1000000000) (hsm:∀ h∈hs,SmH h)
  (hsnd:∀ h∈hs,∀ c∈gam h,T c) (hsrt:∀ h∈hs,(gam h).Pairwise klr) (hdst:∀ h∈hs,(gam h).Pairwise λ a b=>a.Text≠b.Text)
  (hcov:∀ r,T r->r.Cost<=B->∃ h∈hs,h.List≠[]/\((∃ c∈gam h,c.Text=r.Text/\le2 c r)\/((gam h).length=M/\∀ c∈gam h,klr c r))):Tot (λ n=>CN n B s hs) (Bst T B M):=by
 unfold CN;refine Tot.bind (Jh7 hs hl) ?_;rintro _ rfl;have hne:∀ h∈hs.filter neH,h∈hs/\h.List≠[]:=λ h hh=>by
  rw[List.mem_filter]at hh;refine⟨hh.1,λ e=>?_⟩;have:=hh.2;unfold neH at this;rw[e]at this;simp at this
 have hnf:∀ h∈hs,h.List≠[]->h∈hs.filter neH:=λ h h1 h2=>by
  rw[List.mem_filter];refine⟨h1,?_⟩;unfold neH;cases e:h.List with
  | nil=>exact absurd e h2
  | cons=>rfl
 have hlf:(hs.filter neH).length<1000000000:=by have:=List.length_filter_le neH hs;omega
 refine Tot.bind (JcA (λ h hh=>⟨hsm h (hne h hh).1,(hne h hh).2⟩) hlf B s) ?_;rintro _ rfl;let All:Ag->Prop:=λ c=>∃ h∈hs.filter neH,c∈gam h;have hI:MI All B M ((hs.filter neH).map ldH) [] (λ _=>False):=by
  refine⟨λ h hh=>?_,λ _ _ _ _ _ hd=>hd.elim,λ c hc=>?_,λ _ hd=>hd.elim,λ h hh c hc=>?_,λ x r hx=>(by cases hx),λ _ hd=>hd.elim,by simp,by simp⟩
  ·obtain⟨g,hg,rfl⟩:=Jk1.1 hh;obtain⟨h1,h2⟩:=hne g hg;exact⟨Jcx h2,Jcy (hsm g h1),by rw[Kz];exact hsrt g h1⟩
  ·obtain⟨h,hh,hc⟩:=hc;exact .inr ⟨ldH h,List.mem_map_of_mem hh,by rw[Kz];exact hc⟩
  ·obtain⟨g,hg,rfl⟩:=Jk1.1 hh;rw[Kz]at hc;exact⟨g,hg,hc⟩
 refine Tot.bind (JcC hM hI (by simpa using hlf)) λ f hf=>?_;have hfl:f.length<=M:=by obtain⟨_,_,h,_⟩:=hf;exact h.len
 have hfd:∀ r∈f.map Prod.snd,∀ s∈f.map Prod.snd,r.Text=s.Text->r=s:=by
  obtain⟨_,dn,hI,_⟩:=hf;have hml:∀ r∈f.map Prod.snd,AT r.Text f=some r:=λ r hr=>by
   obtain⟨p,hp,rfl⟩:=Jk1.1 hr;have hm:=Ke hp hI.nd;rw[(hI.key _ _ hm).1];exact hm
  intro r hr s hs e;have h1:=hml r hr;rw[e,hml s hs]at h1;exact(Option.some.inj h1).symm
 obtain⟨z,hzp,hzs,hz⟩:=Vj hfd (by simp;omega);refine Tot.demP z (λ o ho=>?_) ?_
 ·have hmw:Tot (λ n=>mapW (λ (e:List UInt8×Ag) (x:List Ag)=>BA n e x) o ([]:List Ag)) (Rd2 (λ x=>x=o.map Prod.snd) (λ _=>True)):=by
   refine Tot.mapW (F:=λ n e x=>BA n e x) (λ u x=>x=u.map Prod.snd) (λ u e v x hu hx=>?_) rfl;subst hx;unfold BA;have:u.length<=f.length:=by rw[← ho.length_eq,hu];simp
   exact Tot.bindC (Eh (by simp;omega)) (JkI (by show _=_;simp))
  refine Tot.bind hmw ?_;rintro (y|y) hy
  ·have hy:y=o.map Prod.snd:=hy;subst hy;have hpo:(o.map Prod.snd).Perm (f.map Prod.snd):=ho.map _;obtain⟨z',hzp',hzs',hz'⟩:=Vj (m:=o.map Prod.snd) (λ r hr s hs e=>hfd r (hpo.mem_iff.1 hr) s (hpo.mem_iff.1 hs) e) (by rw[hpo.length_eq];simp;omega);have ezz:z'=z:=by
    refine List.Perm.eq_of_pairwise (le:=λ a b=>¬klr b a) (λ a b ha hb h1 h2=>?_) hzs' hzs (hzp'.trans (hpo.trans hzp.symm));rcases Gi a b with h3|h3|⟨_,h3⟩
    ·exact absurd h3 h2
    ·exact absurd h3 h1
    ·exact hfd a (hpo.mem_iff.1 (hzp'.mem_iff.1 ha)) b (hzp.mem_iff.1 hb) h3
   subst ezz;have hev:Ev (λ n=>JM n (o.map Prod.snd)) z':=⟨3,λ n hn=>by
    obtain⟨q,rfl⟩:∃ q,n=q+3:=⟨n-3,by omega⟩;exact hz' q⟩
   exact JkJ hev (Tot.bindC (CP (by rw[hzp'.length_eq];simp)) (JkI rfl))
  ·exact nomatch y
 ·refine hf.bst hzp hzs (λ c hc=>?_) λ r hr hrB=>?_
  ·obtain⟨h,hh,hc⟩:=hc;exact hsnd h (hne h hh).1 c hc
  ·obtain⟨h,hh,hn,h1⟩:=hcov r hr hrB;rcases h1 with⟨c,hc,h2,h3⟩|⟨h2,h3⟩
   ·exact .inl ⟨c,⟨h,hnf h hh hn,hc⟩,h2,h3⟩
   ·exact .inr ⟨gam h,h2,hdst h hh,λ c hc=>⟨⟨h,hnf h hh hn,hc⟩,h3 c hc⟩⟩
end Go.AI
end
section
namespace Go.AI
def clb (t:Aa) (k:Nat):List UInt8:=(cls t k).map λ c=>UInt8.ofNat c.toNat
structure JcE (t:Aa) (st:List Ae) (i m:Nat) (l:List Hu):Prop where
 len:l.length<=m
 snd:∀ a∈l,∃ j k:Nat,Edge t st i k j/\a=⟨prt t k,clb t k,(j:Int)⟩
 cov:∀ k j:Nat,k<m->Edge t st i k j->(⟨prt t k,clb t k,(j:Int)⟩:Hu)∈l
structure SrK (t:Aa) (fl:List AD) (bu mo:Int) (s:Ab):Prop where
 felt:s.Felt=fl
 bud:s.Budget=bu
 most:s.Most=mo
 len:s.Arcs.length=(AB t).length
 acc:∀ (i:Nat) q,(AB t)[i]?=some q->s.Accepts[i]?=some (A2 t q)
 arcs:∀ (i:Nat) l,s.Arcs[i]?=some l->JcE t (AB t) i t.Rules.length l
structure SJ (t:Aa) (fl:List AD) (bu mo:Int) (i m c:Nat) (s:Ab):Prop where
 felt:s.Felt=fl
 bud:s.Budget=bu
 most:s.Most=mo
 len:s.Arcs.length=(AB t).length
 aln:s.Accepts.length=(AB t).length
 acc:∀ (j:Nat) q,j<c->(AB t)[j]?=some q->s.Accepts[j]?=some (A2 t q)
 arcs:∀ (j:Nat) l,s.Arcs[j]?=some l->(j<i->JcE t (AB t) j t.Rules.length l)/\(j=i->JcE t (AB t) i m l)/\(i<j->l=[])
theorem JcE.nil (t:Aa) (st:List Ae) (i:Nat):JcE t st i 0 []:=⟨JkY _,λ a h=>by simp at h,λ k j h=>by omega⟩
theorem WK {t:Aa} (ht:TbK t) {fl:List AD} {bu mo:Int} {nb:List (Ae×Int)} (hN:Je (AB t) nb) {i:Nat} {q:Ae} (hi:(AB t)[i]?=some q) {s:Ab} (hs:SJ t fl bu mo i 0 (i+1) s) :
  Tot (λ n=>whl (λ (x:Ab×Int)=>Ck n t (AB t) nb (i:Int) q x.1 x.2) n (s,0)) (SJ t fl bu mo (i+1) 0 (i+1)):=by
 obtain⟨hF,hD⟩:=Cl ht.tab;have hil:=AC hi;have h768:=hF.len;have hr:=ht.tab.1;refine Tot.upto (body:=λ n (x:Ab×Int)=>Ck n t (AB t) nb (i:Int) q x.1 x.2) t.Rules.length (λ m x=>x.2=(m:Int)/\SJ t fl bu mo i m (i+1) x.1) ?_ ?_ _ ⟨rfl,hs⟩
 ·rintro m ⟨s,_⟩ hm ⟨rfl,hs⟩;unfold Ck;refine Tot.iteT (by simp;omega) (Tot.bindC (MG (k:=(m:Int)) (by omega) (by omega)) (JkK (λ n=>OH ht.tab.short n q (m:Nat)) ?_));have nxt:∀ s',SJ t fl bu mo i (m+1) (i+1) s'->Tot (λ n=>DE n (m:Int) s') (Rd2 (λ x=>x.2=((m+1:Nat):Int)/\SJ t fl bu mo i (m+1) (i+1) x.1) (SJ t fl bu mo (i+1) 0 (i+1))):=λ s' hs'=>JkI ⟨D7 (by omega),hs'⟩;by_cases hst:(Bl t q (m:Nat)).2=true
  ·have hmem:=hD (i+1) i q (by omega) hi m hm hst;obtain⟨j,hjl,hj⟩:=List.mem_iff_getElem.1 hmem;have hj':(AB t)[j]?=some (Bl t q (m:Nat)).1:=by rw[Jk9 hjl,hj]
   have hE:Edge t (AB t) i m j:=⟨q,_,hi,hm,hj',by rw[← hst]⟩;have hnum:Option.getD (AT (Bl t q (m:Nat)).1 nb) 0=(j:Int):=by rw[hN,C5 hF.nodup hj'];rfl
   refine Tot.iteF (by rw[hst];rfl) ?_;obtain⟨_,c4,_,c63⟩:=DS ht hm;have hcells:Tot (λ n=>whl (λ (x:List Int×Int)=>Cj n t (AB t) nb (i:Int) q s (m:Int) (DB t (m:Int)) (Bl t q (m:Nat)) x.1 x.2) n (([]:List Int),0)) (λ r=>r=cls t m):=by
    refine Tot.upto (body:=λ n (x:List Int×Int)=>Cj n t (AB t) nb (i:Int) q s (m:Int) (DB t (m:Int)) (Bl t q (m:Nat)) x.1 x.2) (cls t m).length (λ a x=>x.2=(a:Int)/\x.1=(cls t m).take a) ?_ ?_ _ ⟨rfl,rfl⟩
    ·rintro a ⟨x,_⟩ ha ⟨rfl,hx⟩;simp only at hx;subst hx;unfold Cj;refine Tot.iteT (GM ha) (Tot.bindC (Bf ha) (Tot.bindC (Eh (by simp;omega)) (JkI ⟨D7 (by omega),?_⟩)));show _=_;rw[List.take_add_one,Jk9 ha];rfl
    ·rintro⟨x,_⟩ ⟨rfl,hx⟩;simp only at hx;subst hx;unfold Cj;exact Tot.iteF (Jf _) (JkI (List.take_length))
   refine Tot.bind hcells ?_;rintro _ rfl;have hial:i<s.Arcs.length:=by rw[hs.len];exact hil
   have hai:=Jk9 hial;obtain⟨_,hA,_⟩:=hs.arcs i _ hai;have hA:=hA rfl;have hb:Us (cls t m)=some (clb t m):=by
    unfold Us;rw[if_pos]
    ·rfl
    ·rw[JkT];intro c hc;have:=c63 c hc;simp;omega
   refine Tot.bindC (Bf hial) (Tot.bindC hb (Tot.bindC (Eh (by have:=hA.len;simp;omega)) (nxt _ ?_)));refine⟨hs.felt,hs.bud,hs.most,by simpa using hs.len,hs.aln,hs.acc,λ j' l hl=>?_⟩;rw[hnum,Jli,List.getElem?_set]at hl;split at hl
   ·rename_i e;subst e
    try rw[if_pos hial]at hl
    cases hl;refine⟨λ h=>absurd h (Nat.lt_irrefl _),λ _=>⟨by have:=hA.len;simp;omega,λ a ha=>?_,λ k j2 hk hE2=>?_⟩,λ h=>absurd h (Nat.lt_irrefl _)⟩
    ·rcases List.mem_append.1 ha with h|h
     ·exact hA.snd a h
     ·simp only[List.mem_singleton]at h;subst h;exact⟨j,m,hE,rfl⟩
    ·by_cases e:k=m
     ·subst e;obtain⟨s1,s2,k1,_,k3,k4⟩:=hE2;rw[hi]at k1;cases k1;have:j2=j:=Xw hF.nodup (s:=s2) k3 (by rw[hj'];rw[k4]);subst this;exact List.mem_append_right _ (List.mem_singleton.2 rfl)
     ·exact List.mem_append_left _ (hA.cov k j2 (by omega) hE2)
   ·rename_i e;obtain⟨h1,h2,h3⟩:=hs.arcs j' l hl;exact⟨h1,λ h=>absurd h.symm e,h3⟩
  ·have hs':(Bl t q (m:Nat)).2=false:=by simpa using hst
   refine Tot.iteT (by rw[hs'];rfl) (nxt _ ⟨hs.felt,hs.bud,hs.most,hs.len,hs.aln,hs.acc,λ j l hl=>?_⟩);obtain⟨h1,h2,h3⟩:=hs.arcs j l hl;refine⟨h1,λ e=>?_,h3⟩;obtain⟨q1,q2,q3⟩:=h2 e;refine⟨by omega,q2,λ k j hk hE=>?_⟩;by_cases e:k=m
   ·subst e;obtain⟨s1,s2,k1,_,k3,k4⟩:=hE;rw[hi]at k1;cases k1;rw[k4]at hs';cases hs'
   ·exact q3 k j (by omega) hE
 ·rintro⟨s,_⟩ ⟨rfl,hs⟩;unfold Ck;refine Tot.iteF (by simp) (JkI ⟨hs.felt,hs.bud,hs.most,hs.len,hs.aln,hs.acc,λ j l hl=>?_⟩);obtain⟨h1,h2,h3⟩:=hs.arcs j l hl;refine⟨λ h=>?_,λ h=>?_,λ h=>h3 (by omega)⟩
  ·by_cases e:j=i
   ·subst e;exact h2 rfl
   ·exact h1 (by omega)
  ·have:=h3 (by omega);subst this;exact .nil _ _ _
theorem Tv {t:Aa} (ht:TbK t) (fl:List AD) (bu mo:Int):Tot (λ n=>Fm n t fl bu mo) (SrK t fl bu mo):=by
 obtain⟨hF,hD⟩:=Cl ht.tab;have h768:=hF.len;unfold Fm;refine JkJ (WC ht.tab) (Tot.bind (R:=Je (AB t)) ?_ λ nb hN=>Tot.bindC (Jcb (by omega) (by omega)) (Tot.bindC (Jcb (by omega) (by omega)) ?_))
 ·refine Tot.upto (body:=λ n (x:(List (Ae×Int))×Int)=>CL n t fl bu mo (AB t) x.1 x.2) (AB t).length (λ i x=>x.2=(i:Int)/\Je ((AB t).take i) x.1) ?_ ?_ _ ⟨rfl,λ s=>rfl⟩
  ·rintro i ⟨nb,_⟩ hi ⟨rfl,hN⟩;unfold CL;refine Tot.iteT (by simp;omega) (Tot.bindC (Bf hi) (JkI ⟨D7 (by omega),?_⟩));rw[List.take_add_one,Jk9 hi,Option.toList_some];have:=hN.snoc (p:=(AB t)[i]) (hF.nodup.sublist (List.take_sublist _ _)) (λ h=>by
    obtain⟨j,hj,e⟩:=List.mem_iff_getElem.1 h;rw[List.getElem_take]at e;have hj':j<i:=by rw[List.length_take]at hj;omega
    have:=Xw hF.nodup (i:=i) (j:=j) (Jk9 hi) (by rw[Jk9 (show j<(AB t).length by omega),e]);omega)
   rw[List.length_take,Nat.min_eq_left (by omega)]at this;exact this
  ·rintro⟨nb,_⟩ ⟨rfl,hN⟩;unfold CL;refine Tot.iteF (by simp) (JkI ?_);rw[List.take_length]at hN;exact hN
 ·refine Tot.bind (R:=SrK t fl bu mo) ?_ λ s hs=>JkI hs;refine Tot.upto (body:=λ n (x:Ab×Int)=>CM n t (AB t) nb x.1 x.2) (AB t).length (λ i x=>x.2=(i:Int)/\SJ t fl bu mo i 0 i x.1) ?_ ?_ _ ⟨rfl,rfl,rfl,rfl,by simp,by simp,λ j s h=>by omega,λ j l hl=>?_⟩
  ·rintro i ⟨s,_⟩ hi ⟨rfl,hs⟩;have hia:i<s.Accepts.length:=by rw[hs.aln];exact hi
   have hsi:=Jk9 hi;unfold CM;refine Tot.iteT (by simp;omega) (Tot.bindC (Bf hi) (JkK (λ n=>Wz n t _) (Tot.bindC (Bf hia) (Tot.bindC (Tp hia) (Tot.bind (WK ht hN hsi ?_) λ s' hs'=>JkI ⟨D7 (by omega),hs'⟩)))));refine⟨hs.felt,hs.bud,hs.most,hs.len,by simpa using hs.aln,λ j q hj hq=>?_,hs.arcs⟩;rw[List.getElem?_set];split
   ·rename_i e;subst e;rw[hsi]at hq;cases hq
    first|rfl|rw[if_pos hia]
   ·exact hs.acc j q (by omega) hq
  ·rintro⟨s,_⟩ ⟨rfl,hs⟩;unfold CM;exact Tot.iteF (by simp) (JkI ⟨hs.felt,hs.bud,hs.most,hs.len,λ i q hq=>hs.acc i q (AC hq) hq,λ i l hl=>(hs.arcs i l hl).1 (by have:=AC hl;rw[hs.len]at this;exact this)⟩)
  ·have:l=[]:=List.eq_of_mem_replicate (Jlb hl);subst this;exact⟨λ h=>by omega,λ h=>by subst h;exact .nil _ _ _,λ _=>rfl⟩
end Go.AI
end
section
namespace Go.AI
def KM {α:Type} (m:List (Int×α)):Prop:=m.Pairwise λ a b=>a.1<b.1
theorem KM.nd {α:Type} {m:List (Int×α)} (h:KM m):(m.map Prod.fst).Nodup:=by
 rw[List.Nodup,List.pairwise_map];exact h.imp λ h=>by omega
theorem JcF {α:Type} {p:Int×α}:∀ {f:List (Int×α)},p∈f->(f.map Prod.fst).Nodup->AT p.1 f=some p.2
 | q::f,hp,hnd=>by
  unfold AT;rw[Jk5,List.nodup_cons]at hnd;rcases List.mem_cons.1 hp with rfl|hp
  ·rw[if_pos rfl]
  ·rw[if_neg (λ e=>hnd.1 (by rw[← e];exact List.mem_map_of_mem hp))];exact JcF hp hnd.2
theorem gin {α:Type} {x:Int} {r:α}:∀ {f:List (Int×α)},AT x f=some r->(x,r)∈f
 | q::f,hx=>by
  unfold AT at hx;split at hx
  ·rename_i e;cases hx;subst e;simp
  ·exact List.mem_cons_of_mem _ (gin hx)
theorem KM.mem {α:Type} {m:List (Int×α)} (h:KM m) (k:Int) (v:α):(k,v)∈m↔AT k m=some v:=⟨λ hm=>JcF hm h.nd,gin⟩
theorem KM.ext {α:Type} {m m':List (Int×α)} (h:KM m) (h':KM m') (e:∀ k,AT k m=AT k m'):m=m':=by
 refine RP ?_ h.nd (h.imp λ h=>by omega) (h'.imp λ h=>by omega);have n1:m.Nodup:=h.imp λ h e=>by subst e;omega
 have n2:m'.Nodup:=h'.imp λ h e=>by subst e;omega
 rw[List.perm_ext_iff_of_nodup n1 n2];rintro⟨k,v⟩;rw[h.mem,h'.mem,e]
theorem QB {α:Type} (k:Int) (v:α):∀ m:List (Int×α),(BP k v m).map Prod.fst=if k∈m.map Prod.fst then m.map Prod.fst else m.map Prod.fst++[k]
 | []=>by simp[BP]
 | p::m=>by
  unfold BP;by_cases e:k=p.1
  ·rw[if_pos e];simp[e]
  ·rw[if_neg e,Jk5,QB k v m];by_cases hm:k∈m.map Prod.fst
   ·rw[if_pos hm,if_pos (by simp only[Jk5,List.mem_cons];exact .inr hm)];rfl
   ·rw[if_neg hm,if_neg (by simp only[Jk5,List.mem_cons,not_or];exact⟨e,hm⟩)];rfl
theorem Vk {α:Type} (k:Int) (v:α) (m:List (Int×α)) (h:(m.map Prod.fst).Nodup):((BP k v m).map Prod.fst).Nodup:=by
 rw[QB];split
 ·exact h
 ·rename_i hk;rw[List.nodup_append];refine⟨h,by simp,λ a ha b hb=>?_⟩;simp at hb;subst hb;intro e;subst e;exact hk ha
theorem Vl {α:Type} {m:List (Int×α)} (h:(m.map Prod.fst).Nodup):KM (B8 m):=by
 have h2:((B8 m).map Prod.fst).Nodup:=(((Ef m).map _).nodup_iff).2 h;rw[List.Nodup,List.pairwise_map]at h2;exact((PR m).and h2).imp λ⟨h3,h4⟩=>by omega
theorem Zg {α:Type} {m:List (Int×α)} (h:(m.map Prod.fst).Nodup) (k:Int):AT k (B8 m)=AT k m:=by
 have hk:=Vl h;cases hg:AT k m with
 | some v=>rw[← hk.mem];exact(Ef m).mem_iff.2 (gin hg)
 | none=>
  cases hg':AT k (B8 m)with
  | none=>rfl
  | some v=>
   have:=JcF ((Ef m).mem_iff.1 (gin hg')) h;simp only at this;rw[hg]at this;cases this
theorem XG {α:Type} {m:List (Int×α)} (h:KM m) (k:Int) (v:α):KM (B8 (BP k v m)):=Vl (Vk k v m h.nd)
theorem ML {α:Type} {m:List (Int×α)} (h:KM m) (k k':Int) (v:α):AT k' (B8 (BP k v m))=if k'=k then some v else AT k' m:=by
 rw[Zg (Vk k v m h.nd),Ib]
structure Jp (C:Int->Int->Prop) (m:List (Int×Int)):Prop where
 km:KM m
 lst:∀ k v,AT k m=some v->C k v/\∀ w,C k w->v<=w
 non:∀ k,AT k m=none->∀ v,¬C k v
theorem Jp.ext {C:Int->Int->Prop} {m m':List (Int×Int)} (h:Jp C m) (h':Jp C m'):m=m':=by
 refine h.km.ext h'.km λ k=>?_;cases e:AT k m with
 | none=>
  cases e':AT k m' with
  | none=>rfl
  | some v=>exact absurd (h'.lst k v e').1 (h.non k e v)
 | some v=>
  cases e':AT k m' with
  | none=>exact absurd (h.lst k v e).1 (h'.non k e' v)
  | some w=>
   have h1:=(h.lst k v e).2 w (h'.lst k w e').1;have h2:=(h'.lst k w e').2 v (h.lst k v e).1;congr 1;omega
theorem Jp.congr {C C':Int->Int->Prop} {m:List (Int×Int)} (h:Jp C m) (e:∀ k v,C k v↔C' k v):Jp C' m:=by
 have:C=C':=by funext k v;exact propext (e k v)
 subst this;exact h
theorem Jp.has {C:Int->Int->Prop} {m:List (Int×Int)} (h:Jp C m) {k v:Int} (hc:C k v):∃ w,AT k m=some w/\w<=v:=by
 cases e:AT k m with
 | none=>exact absurd hc (h.non k e v)
 | some w=>exact⟨w,rfl,(h.lst k w e).2 v hc⟩
def JcG (k v:Int) (m:List (Int×Int)):List (Int×Int):=if((!(Option.isSome (AT k m)))||(decide (v<Option.getD (AT k m) (0:Int))))=true then B8 (BP k v m)else m
theorem Jp.upd {C:Int->Int->Prop} {m:List (Int×Int)} (h:Jp C m) (k v:Int):Jp (λ k' v'=>C k' v'\/(k'=k/\v'=v)) (JcG k v m):=by
 unfold JcG;split
 ·rename_i hc;refine⟨XG h.km k v,λ k' w hw=>?_,λ k' hn w=>?_⟩
  ·rw[ML h.km]at hw;split at hw
   ·rename_i e;cases hw;subst e;refine⟨.inr ⟨rfl,rfl⟩,λ w' hw'=>?_⟩;rcases hw' with hw'|⟨_,rfl⟩
    ·obtain⟨x,hx,hxw⟩:=h.has hw';rw[hx]at hc;simp at hc;omega
    ·exact Int.le_refl _
   ·rename_i e;obtain⟨h1,h2⟩:=h.lst k' w hw;refine⟨.inl h1,λ w' hw'=>?_⟩;rcases hw' with hw'|⟨e',_⟩
    ·exact h2 w' hw'
    ·exact absurd e' e
  ·rw[ML h.km]at hn;split at hn
   ·cases hn
   ·rename_i e;rintro (h1|⟨e',_⟩)
    ·exact h.non k' hn w h1
    ·exact e e'
 ·rename_i hc;refine⟨h.km,λ k' w hw=>?_,λ k' hn w=>?_⟩
  ·obtain⟨h1,h2⟩:=h.lst k' w hw;refine⟨.inl h1,λ w' hw'=>?_⟩;rcases hw' with hw'|⟨rfl,rfl⟩
   ·exact h2 w' hw'
   ·rw[hw]at hc;simp at hc;omega
  ·rintro (h1|⟨rfl,rfl⟩)
   ·exact h.non k' hn w h1
   ·rw[hn]at hc;simp at hc
abbrev Rws:=List (Option (Bool×List (Int×Int)))
structure RKr (L fl:Nat) (C:Nat->Int->Int->Prop) (rows:Rws):Prop where
 len:rows.length=L+1
 row:∀ p,p<=L->∃ m,rows[p]?=some (some (decide (p<fl),m))/\Jp (C p) m
theorem RKr.ext {L fl:Nat} {C:Nat->Int->Int->Prop} {a b:Rws} (h:RKr L fl C a) (h':RKr L fl C b):a=b:=by
 apply List.ext_getElem?;intro p;rcases JkZ L p with h1|h1
 ·rw[Jlu (by rw[h.len];omega),Jlu (by rw[h'.len];omega)]
 ·obtain⟨m,e,hm⟩:=h.row p h1;obtain⟨m',e',hm'⟩:=h'.row p h1;rw[e,e',hm.ext hm']
theorem RKr.congr {L fl:Nat} {C C':Nat->Int->Int->Prop} {a:Rws} (h:RKr L fl C a) (e:∀ p k v,C p k v↔C' p k v):RKr L fl C' a:=by
 have:C=C':=by funext p k v;exact propext (e p k v)
 subst this;exact h
theorem RKr.rowM {L fl p:Nat} {C:Nat->Int->Int->Prop} {a:Rws} (h:RKr L fl C a) (h1:fl<=p) (h2:p<=L):∃ m,Go.AI.rowM a (p:Int)=some m/\Jp (C p) m:=by
 obtain⟨m,e,hm⟩:=h.row p h2;refine⟨m,?_,hm⟩;unfold Go.AI.rowM;rw[C6 e,show decide (p<fl)=false from by simpa using h1];rfl
theorem RKr.rowA {L fl p:Nat} {C:Nat->Int->Int->Prop} {a:Rws} (h:RKr L fl C a) (h2:p<=L):∃ m,Go.AI.rowA a (p:Int)=some (decide (p<fl),m)/\Jp (C p) m:=by
 obtain⟨m,e,hm⟩:=h.row p h2;refine⟨m,?_,hm⟩;unfold Go.AI.rowA;rw[C6 e];rfl
theorem RKr.frz {L fl:Nat} {C:Nat->Int->Int->Prop} {a:Rws} (h:RKr L fl C a) {m:List (Int×Int)} (hm:Jp (C fl) m):RKr L (fl+1) C (a.set fl (some (true,m))):=by
 refine⟨by rw[Jlq];exact h.len,λ p hp=>?_⟩;by_cases e:fl=p
 ·subst e;exact⟨m,by rw[Jlk (by rw[h.len];omega)];simp,hm⟩
 ·obtain⟨m',e',hm'⟩:=h.row p hp;refine⟨m',?_,hm'⟩;rw[Jlp e,e'];congr 3;rw[decide_eq_decide];omega
theorem RKr.upd {L fl p:Nat} {C:Nat->Int->Int->Prop} {a:Rws} (h:RKr L fl C a) (h1:fl<=p) (h2:p<=L) {m:List (Int×Int)} (hm:Jp (C p) m) (k v:Int) :
  RKr L fl (λ p' k' v'=>C p' k' v'\/(p'=p/\k'=k/\v'=v)) (a.set p (some (false,JcG k v m))):=by
 refine⟨by rw[Jlq];exact h.len,λ p' hp=>?_⟩;by_cases e:p=p'
 ·subst e;refine⟨JcG k v m,by rw[Jlk (by rw[h.len];omega),show decide (p<fl)=false from by simpa using h1],(hm.upd k v).congr λ k' v'=>?_⟩;simp
 ·obtain⟨m',e',hm'⟩:=h.row p' hp;refine⟨m',by rw[Jlp e,e'],hm'.congr λ k' v'=>?_⟩;constructor
  ·exact .inl
  ·rintro (h3|⟨h3,_⟩)
   ·exact h3
   ·exact absurd h3.symm e
end Go.AI
end
section
namespace Go.AI
def Lg (f:AD) (c:Int):Int:=(Gv 0 f c).getD 0
theorem Jh8 {s:List UInt8} (h:s.all (λ b=>decide (b.toNat<=8))=true) (i:Nat):(s[i]?.getD 0).toNat<=8:=by
 cases e:s[i]? with
 | none=>simp
 | some b=>simpa using JkT.1 h b (Jlb e)
theorem JcH {s:List UInt8} (hl:Nat.beq s.length 256=true) (ha:s.all (λ b=>decide (b.toNat<=8))=true) {x:Int} (h:0<=x) (h':x<256):∃ v,((Jh s x).bind λ b=>some (IntKind.i64.wrap b))=some v/\0<=v/\v<=8:=by
 have hl:=Jlg hl;have:=Jh8 ha x.toNat;unfold Jh;rw[if_pos ⟨h,by omega⟩,JkP,w64 (by omega) (by omega)];exact⟨_,rfl,by omega,by omega⟩
theorem Jee {x:Int} (h:0<=x) (h':x<256):∃ v,(∀ n,CK n x=some v)/\0<=v/\v<=8:=by
 obtain⟨v,h1,h2⟩:∃ v,CK 0 x=some v/\0<=v/\v<=8:=JcH (by kernel_rfl) (by kernel_rfl) h h';exact⟨v,λ n=>h1,h2⟩
theorem QC (f:AD) (c:Int):(∀ n,Gv n f c=some (Lg f c))/\0<=Lg f c/\Lg f c<=8:=by
 have hr:0<=G4 .u8 (Ur .u8 f.Up c) f.Maybe/\G4 .u8 (Ur .u8 f.Up c) f.Maybe<256:=Jca _;obtain⟨v,h1,h2,h3⟩:=Jee hr.1 hr.2;have e:∀ n,Gv n f c=some v:=λ n=>by unfold Gv;rw[h1];rfl
 have:Lg f c=v:=by unfold Lg;rw[e];rfl
 rw[this];exact⟨e,h2,h3⟩
def BE:List AD->List UInt8->Int
 | f::fl,c::w=>Lg f (c.toNat:Int)+BE fl w
 | _,_=>0
theorem Ff:∀ (fl:List AD) (w:List UInt8),0<=BE fl w/\BE fl w<=8*w.length
 | [],w=>by cases w<;>simp[BE]<;>omega
 | f::fl,[]=>by simp[BE]
 | f::fl,c::w=>by
  have h1:=(QC f (c.toNat:Int)).2;have h2:=Ff fl w;simp only[BE,List.length_cons];omega
theorem KA:∀ (fl:List AD) (w v:List UInt8),w.length<=fl.length->BE fl (w++v)=BE fl w+BE (fl.drop w.length) v
 | fl,[],v,_=>by cases fl<;>simp[BE]
 | [],_::_,_,h=>by simp at h
 | f::fl,c::w,v,h=>by
  simp only[List.cons_append,BE,List.length_cons,List.drop_succ_cons];rw[KA fl w v (by simpa using h)];omega
theorem QE (fl:List AD) (w:List UInt8) (c:UInt8) (f:AD) (h:fl[w.length]?=some f):BE fl (w++[c])=BE fl w+Lg f (c.toNat:Int):=by
 have hl:=AC h;rw[KA fl w [c] (by omega)];have:fl.drop w.length=f::fl.drop (w.length+1):=by
  rw[List.drop_eq_getElem_cons hl];rw[Jk9 hl]at h;rw[Option.some.inj h]
 rw[this];simp[BE]
theorem Vm {s:Ab} {q:Nat} {w:List UInt8} (hL:s.Felt.length<=1000000) (hq:q<=s.Felt.length) :
  Tot (λ n=>Db n (q:Int) w s) (λ r=>r=if q+w.length<=s.Felt.length then(BE (s.Felt.drop q) w,true)else(0,false)):=by
 unfold Db;rw[RW (by omega) (by omega)];by_cases h:q+w.length<=s.Felt.length
 ·refine Tot.iteF (by simp;omega) (Tot.bind (R:=λ y=>y=BE (s.Felt.drop q) w) ?_ ?_)
  ·refine Tot.upto (body:=λ n (x:Int×Int)=>Cq n (q:Int) w s x.1 x.2) w.length (λ i x=>x.2=(i:Int)/\x.1=BE (s.Felt.drop q) (w.take i)) ?_ ?_ _ ⟨rfl,by cases s.Felt.drop q<;>rfl⟩
   ·rintro i ⟨x,_⟩ hi ⟨rfl,hx⟩;simp only at hx;subst hx;unfold Cq;have hlt:q+i<s.Felt.length:=by omega
    have hf:s.Felt[q+i]?=some s.Felt[q+i]:=Jk9 hlt;have e1:AX .i64 (q:Int) (i:Int)=((q+i:Nat):Int):=by rw[Lf (by omega) (by omega)];simp
    obtain⟨c1,c2,c3⟩:=QC s.Felt[q+i] ((w[i].toNat:Nat):Int);have hr:=Ff (s.Felt.drop q) (w.take i);have hlt2:(w.take i).length<=1000000:=by rw[List.length_take];omega
    refine Tot.iteT (GM hi) (Tot.bindC (by rw[e1];exact Bf hlt) (Tot.bindC (J8 (Jk9 hi)) (JkK c1 (JkI ⟨D7 (by omega),?_⟩))));show AX .i64 _ _=_;rw[Lf (by omega) (by omega),List.take_add_one,Jk9 hi,Option.toList_some,QE _ _ _ s.Felt[q+i] (by rw[List.length_take,Nat.min_eq_left (by omega),Jk2];exact hf)]
   ·rintro⟨x,_⟩ ⟨rfl,hx⟩;simp only at hx;subst hx;unfold Cq;exact Tot.iteF (Jf _) (JkI (by show _=_;rw[List.take_length]))
  ·rintro _ rfl;exact JkI (by rw[if_pos h])
 ·exact Tot.iteT (by simp;omega) (JkI (by rw[if_neg h]))
end Go.AI
end
section
namespace Go.AI
def wb (s:Ab) (b:Rws):Ab:={ Felt:=s.Felt,Budget:=s.Budget,Most:=s.Most,Arcs:=s.Arcs,Accepts:=s.Accepts,Before:=b }
theorem SrK.wb {t:Aa} {fl:List AD} {bu mo:Int} {s:Ab} (h:SrK t fl bu mo s) (b:Rws):SrK t fl bu mo (wb s b):=⟨h.felt,h.bud,h.most,h.len,h.acc,h.arcs⟩
def Tw (s:Ab) (q:Nat) (e:Int×Int) (p:Nat) (k v:Int):Prop:=
 ∃ l a,idx s.Arcs e.1=some l/\a∈l/\p=q+a.Cells.length/\p<=s.Felt.length/\k=a.To/\v=e.2+BE (s.Felt.drop q) a.Cells/\v<=s.Budget
structure SmS (t:Aa) (s:Ab):Prop where
 tb:TbK t
 sr:SrK t s.Felt s.Budget s.Most s
 fl:s.Felt.length<=100000
 b0:0<=s.Budget
 b1:s.Budget<=100000
theorem SmS.wb {t:Aa} {s:Ab} (h:SmS t s) (b:Rws):SmS t (wb s b):=⟨h.tb,h.sr.wb b,h.fl,h.b0,h.b1⟩
theorem SmS.arc {t:Aa} {s:Ab} (h:SmS t s) {k:Int} {l:List Hu} (hl:idx s.Arcs k=some l) {a:Hu} (ha:a∈l):1<=a.Cells.length/\a.Cells.length<=4/\a.Print.length<=4/\∃ j:Nat,a.To=(j:Int)/\j<(AB t).length:=by
 obtain⟨_,_,h2⟩:=CC hl;obtain⟨j,m,hE,rfl⟩:=(h.sr.arcs _ _ h2).snd a ha;obtain⟨_,_,_,hm,hj,_⟩:=hE;obtain⟨c1,c2,c3,_⟩:=DS h.tb hm;have:(clb t m).length=(cls t m).length:=by unfold clb;simp
 exact⟨by simp only;omega,by simp only;omega,c3,j,rfl,AC hj⟩
theorem Jef {t:Aa} {s:Ab} (hs:SmS t s) {q:Nat} (hq:q<=s.Felt.length) {e:Int×Int} (he0:0<=e.2) (he1:e.2<=s.Budget) {l:List Hu} (hl:idx s.Arcs e.1=some l) (hll:l.length<=1000) {C:Nat->Int->Int->Prop} {rows:Rws} (hr:RKr s.Felt.length (q+1) C rows) (y:Ab) (m:List (Int×Int)) :
  Tot (λ n=>whl (λ (x:Ab×Int)=>BF n y m (q:Int) e l x.1 x.2) n (wb s rows,0)) (λ r=>∃ rows',r=wb s rows'/\RKr s.Felt.length (q+1) (λ p k v=>C p k v\/Tw s q e p k v) rows'):=by
 refine Tot.upto (body:=λ n (x:Ab×Int)=>BF n y m (q:Int) e l x.1 x.2) l.length (λ i x=>x.2=(i:Int)/\∃ rows',x.1=wb s rows'/\RKr s.Felt.length (q+1) (λ p k v=>C p k v\/∃ a∈l.take i,p=q+a.Cells.length/\p<=s.Felt.length/\k=a.To/\v=e.2+BE (s.Felt.drop q) a.Cells/\v<=s.Budget) rows') ?_ ?_ _ ⟨rfl,rows,rfl,hr.congr λ p k v=>by simp⟩
 ·rintro i ⟨x,_⟩ hi ⟨rfl,rows',hx,hr'⟩;simp only at hx;subst hx;unfold BF;obtain⟨a1,a4,_,j,hj,hjl⟩:=hs.arc hl (JkV hi);have htk:∀ a,a∈l.take (i+1)↔a∈l.take i\/a=l[i]:=λ a=>by rw[List.take_add_one,Jk9 hi,Option.toList_some,List.mem_append,List.mem_singleton]
  refine Tot.iteT (GM hi) (Tot.bindC (Bf hi) (Tot.bind (Vm (s:=wb s rows') (w:=l[i].Cells) (by have:=hs.fl;show s.Felt.length<=_;omega) hq) ?_));rintro r rfl;show Tot _ _;have hfl:(wb s rows').Felt=s.Felt:=rfl;rw[hfl];have hcr:=Ff (s.Felt.drop q) l[i].Cells;have hb1:=hs.b1;have nx:∀ rows'',RKr s.Felt.length (q+1) (λ p k v=>C p k v\/∃ a∈l.take (i+1),p=q+a.Cells.length/\p<=s.Felt.length/\k=a.To/\v=e.2+BE (s.Felt.drop q) a.Cells/\v<=s.Budget) rows'' ->
    Tot (λ n=>B4 n (i:Int) (wb s rows'')) (Rd2 (λ x=>x.2=((i+1:Nat):Int)/\∃ rows',x.1=wb s rows'/\RKr s.Felt.length (q+1) (λ p k v=>C p k v\/∃ a∈l.take (i+1),p=q+a.Cells.length/\p<=s.Felt.length/\k=a.To/\v=e.2+BE (s.Felt.drop q) a.Cells/\v<=s.Budget) rows') (λ r=>∃ rows',r=wb s rows'/\RKr s.Felt.length (q+1) (λ p k v=>C p k v\/Tw s q e p k v) rows')):=λ rows'' h=>JkI ⟨D7 (by omega),rows'',rfl,h⟩
  have same:¬(q+l[i].Cells.length<=s.Felt.length/\e.2+BE (s.Felt.drop q) l[i].Cells<=s.Budget)->RKr s.Felt.length (q+1) (λ p k v=>C p k v\/∃ a∈l.take (i+1),p=q+a.Cells.length/\p<=s.Felt.length/\k=a.To/\v=e.2+BE (s.Felt.drop q) a.Cells/\v<=s.Budget) rows':=λ hn=>hr'.congr λ p k v=>by
   constructor
   ·rintro (h|⟨a,ha,h⟩)
    ·exact .inl h
    ·exact .inr ⟨a,(htk a).2 (.inl ha),h⟩
   ·rintro (h|⟨a,ha,h⟩)
    ·exact .inl h
    ·rcases (htk a).1 ha with ha|rfl
     ·exact .inr ⟨a,ha,h⟩
     ·obtain⟨rfl,h1,_,rfl,h2⟩:=h;exact absurd ⟨h1,h2⟩ hn
  by_cases hfit:q+l[i].Cells.length<=s.Felt.length
  ·rw[if_pos hfit];have hadd:AX .i64 e.2 (BE (s.Felt.drop q) l[i].Cells)=e.2+BE (s.Felt.drop q) l[i].Cells:=Lf (by omega) (by omega);have hadd2:AX .i64 (q:Int) ((List.length l[i].Cells:Nat):Int)=((q+l[i].Cells.length:Nat):Int):=by rw[Lf (by have:=hs.fl;omega) (by have:=hs.fl;omega)];simp
   simp only[hadd,hadd2,JkW,Bool.false_or];by_cases hbu:e.2+BE (s.Felt.drop q) l[i].Cells<=s.Budget
   ·refine Tot.iteF (by simp;exact hbu) ?_;obtain⟨m3,hm3,hrow⟩:=hr'.rowM (p:=q+l[i].Cells.length) (by omega) hfit;refine Tot.bindC hm3 ?_;have hu:=hr'.upd (p:=q+l[i].Cells.length) (by omega) hfit hrow l[i].To (e.2+BE (s.Felt.drop q) l[i].Cells);have hu2:=hu.congr (C':=λ p k v=>C p k v\/∃ a∈l.take (i+1),p=q+a.Cells.length/\p<=s.Felt.length/\k=a.To/\v=e.2+BE (s.Felt.drop q) a.Cells/\v<=s.Budget) λ p k v=>by
     constructor
     ·rintro ((h|⟨a,ha,h⟩)|⟨rfl,rfl,rfl⟩)
      ·exact .inl h
      ·exact .inr ⟨a,(htk a).2 (.inl ha),h⟩
      ·exact .inr ⟨l[i],(htk _).2 (.inr rfl),rfl,hfit,rfl,rfl,hbu⟩
     ·rintro (h|⟨a,ha,h⟩)
      ·exact .inl (.inl h)
      ·rcases (htk a).1 ha with ha|rfl
       ·exact .inl (.inr ⟨a,ha,h⟩)
       ·obtain⟨rfl,_,rfl,rfl,_⟩:=h;exact .inr ⟨rfl,rfl,rfl⟩
    unfold JcG at hu2;rw[Jli];refine Tot.ite (λ hc=>?_) λ hc=>?_
    ·rw[if_pos hc]at hu2;exact nx _ hu2
    ·rw[if_neg (by rw[hc];simp)]at hu2;exact nx _ hu2
   ·exact Tot.iteT (by simp;show s.Budget<_;omega) (nx _ (same λ h=>hbu h.2))
  ·rw[if_neg hfit];exact Tot.iteT rfl (nx _ (same λ h=>hfit h.1))
 ·rintro⟨x,_⟩ ⟨rfl,rows',hx,hr'⟩;simp only at hx;subst hx;unfold BF;refine Tot.iteF (Jf _) (JkI ⟨rows',rfl,hr'.congr λ p k v=>?_⟩);rw[List.take_length];constructor
  ·rintro (h|⟨a,ha,h⟩)
   ·exact .inl h
   ·exact .inr ⟨l,a,hl,ha,h⟩
  ·rintro (h|⟨l',a,hl',ha,h⟩)
   ·exact .inl h
   ·rw[hl]at hl';cases hl';exact .inr ⟨a,ha,h⟩
theorem Jeg {t:Aa} {s:Ab} (hs:SmS t s) {q:Nat} (hq:q<=s.Felt.length) {e:Int×Int} (he0:0<=e.2) (he1:e.2<=s.Budget) (hk:∃ i:Nat,e.1=(i:Int)/\i<(AB t).length) {C:Nat->Int->Int->Prop} {rows:Rws} (hr:RKr s.Felt.length (q+1) C rows) (y:Ab) (m:List (Int×Int)) :
  Tot (λ n=>Bd n y m (q:Int) e (wb s rows)) (Rd2 (λ r=>∃ rows',r=wb s rows'/\RKr s.Felt.length (q+1) (λ p k v=>C p k v\/Tw s q e p k v) rows') (λ _=>True)):=by
 obtain⟨i,hi,hil⟩:=hk;have hlt:i<s.Arcs.length:=by rw[hs.sr.len];exact hil
 have hl:idx s.Arcs e.1=some s.Arcs[i]:=by rw[hi];exact Bf hlt
 have hA:=hs.sr.arcs i _ (Jk9 hlt);have hr11:=hs.tb.tab.1;unfold Bd;refine Tot.bindC (show idx (wb s rows).Arcs e.1=some s.Arcs[i]from hl) (Tot.bind (Jef hs hq he0 he1 hl (by have:=hA.len;omega) hr y m) λ r h=>JkI h)
structure CV (t:Aa) (s:Ab) (q:Nat) (C:Nat->Int->Int->Prop) (rows:Rws):Prop where
 rk:RKr s.Felt.length q C rows
 val:∀ p k v,C p k v->(∃ i:Nat,k=(i:Int)/\i<(AB t).length)/\0<=v/\v<=s.Budget
 rt:C 0 0 0/\∀ v,C 0 0 v->v=0
 clo:∀ p,p<q->∀ m,rows[p]?=some (some (true,m))->∀ e∈m,∀ P K V,Tw s p e P K V->C P K V
theorem QF {t:Aa} {s:Ab} (hs:SmS t s) {q:Nat} {e:Int×Int} {P:Nat} {K V:Int} (h:Tw s q e P K V):q<P/\(∃ i:Nat,K=(i:Int)/\i<(AB t).length)/\e.2<=V/\V<=s.Budget:=by
 obtain⟨l,a,hl,ha,rfl,_,rfl,rfl,h4⟩:=h;obtain⟨a1,_,_,j,hj,hjl⟩:=hs.arc hl ha;have:=Ff (s.Felt.drop q) a.Cells;exact⟨by omega,⟨j,hj,hjl⟩,by omega,h4⟩
theorem Jeh {t:Aa} {s:Ab} (hs:SmS t s) {q:Nat} (hq:q<=s.Felt.length) {C:Nat->Int->Int->Prop} {rows:Rws} (hc:CV t s q C rows) (y:Ab) (hy:y.Before.length=s.Felt.length+1) (m:List (Int×Int)) :
  Tot (λ n=>BG n y m (wb s rows) (q:Int)) (Rd2 (λ x=>x.2=((q+1:Nat):Int)/\∃ C' rows',x.1=wb s rows'/\CV t s (q+1) C' rows') (λ _=>False)):=by
 have hfl:=hs.fl;obtain⟨m2,hm2,hrow⟩:=hc.rk.rowA hq;have hfz:RKr s.Felt.length (q+1) C (rows.set q (some (true,m2))):=hc.rk.frz hrow;have hent:∀ e∈m2,(∃ i:Nat,e.1=(i:Int)/\i<(AB t).length)/\0<=e.2/\e.2<=s.Budget:=λ e he=>hc.val q e.1 e.2 (hrow.lst e.1 e.2 ((hrow.km.mem e.1 e.2).1 he)).1;unfold BG;refine Tot.iteT (by simp[hy];omega) ?_;refine Tot.bindC hm2 ?_;have pass:∀ o:List (Int×Int),o.Perm m2->Tot (λ n=>mapW (λ (e:Int×Int) (x:Ab)=>Bd n y m (q:Int) e x) o (wb s (rows.set q (some (true,m2))))) (Rd2 (λ r=>∃ rows',r=wb s rows'/\RKr s.Felt.length (q+1) (λ p k v=>C p k v\/∃ e∈m2,Tw s q e p k v) rows') (λ _=>True)):=λ o ho=>by
  refine(Tot.mapW (F:=λ n e x=>Bd n y m (q:Int) e x) (λ u r=>∃ rows',r=wb s rows'/\RKr s.Felt.length (q+1) (λ p k v=>C p k v\/∃ e∈u,Tw s q e p k v) rows') (λ u e v x hu hx=>?_) ⟨_,rfl,hfz.congr λ p k v=>by simp⟩).mono λ z hz=>?_
  ·obtain⟨rows',rfl,hr'⟩:=hx;have hem:e∈m2:=ho.mem_iff.1 (by rw[hu];simp);obtain⟨h1,h2,h3⟩:=hent e hem;refine(Jeg hs hq h2 h3 h1 hr' y m).mono λ z hz=>?_;cases z with
   | inr z=>exact trivial
   | inl z=>
    obtain⟨rows'',e1,h4⟩:=hz;refine⟨rows'',e1,h4.congr λ p k v=>?_⟩;constructor
    ·rintro ((h|⟨e',he',h⟩)|h)
     ·exact .inl h
     ·exact .inr ⟨e',by simp[he'],h⟩
     ·exact .inr ⟨e,by simp,h⟩
    ·rintro (h|⟨e',he',h⟩)
     ·exact .inl (.inl h)
     ·rcases List.mem_append.1 he' with he'|he'
      ·exact .inl (.inr ⟨e',he',h⟩)
      ·simp only[List.mem_singleton]at he';subst he';exact .inr h
  ·cases z with
   | inr z=>exact trivial
   | inl z=>
    obtain⟨rows',e1,h4⟩:=hz;refine⟨rows',e1,h4.congr λ p k v=>?_⟩;constructor
    ·rintro (h|⟨e',he',h⟩)
     ·exact .inl h
     ·exact .inr ⟨e',ho.mem_iff.1 he',h⟩
    ·rintro (h|⟨e',he',h⟩)
     ·exact .inl h
     ·exact .inr ⟨e',ho.mem_iff.2 he',h⟩
 obtain⟨z0,hz0,_⟩:=pass m2 (List.Perm.refl _);cases z0 with
 | inr z=>exact nomatch z
 | inl z0=>
  obtain⟨rows0,rfl,h0⟩:=hz0;refine Tot.demP (.inl (wb s rows0,((q+1:Nat):Int))) (λ o ho=>?_) ⟨rfl,_,rows0,rfl,h0,?_,?_,?_⟩
  ·refine Tot.bind (pass o ho) ?_;rintro (z|z) hz
   ·obtain⟨rows',rfl,h'⟩:=hz;have:=h'.ext h0;subst this;exact JkI (by rw[D7 (by omega)])
   ·exact nomatch z
  ·rintro p k v (h|⟨e,he,h⟩)
   ·exact hc.val p k v h
   ·obtain⟨h1,h2,h3,h4⟩:=QF hs h;exact⟨h2,by have:=(hent e he).2.1;omega,h4⟩
  ·refine⟨.inl hc.rt.1,λ v hv=>?_⟩;rcases hv with h|⟨e,he,h⟩
   ·exact hc.rt.2 v h
   ·have:=(QF hs h).1;omega
  ·intro p hp m' hm' e he P K V hx;have hsame:∀ k v,(C p k v\/∃ e∈m2,Tw s q e p k v)↔C p k v:=λ k v=>by
    constructor
    ·rintro (h|⟨e,_,h⟩)
     ·exact h
     ·have:=(QF hs h).1;omega
    ·exact .inl
   obtain⟨m'',e'',hm''⟩:=h0.row p (by omega);rw[e'',decide_eq_true (show p<q+1 by omega)]at hm';cases hm';have hm3:=hm''.congr hsame;rcases JkZ p q with h1|h1
   ·obtain⟨m4,e4,hm4⟩:=hc.rk.row p (by omega);rw[hm4.ext hm3,decide_eq_true h1]at e4;exact .inl (hc.clo p h1 _ e4 e he P K V hx)
   ·have:p=q:=by omega
    subst this;rw[hm3.ext hrow]at he;exact .inr ⟨e,he,hx⟩
structure FwK (t:Aa) (s:Ab) (rows:Rws):Prop where
 cv:∃ C,CV t s (s.Felt.length+1) C rows
theorem WL {t:Aa} {s:Ab} (hs:SmS t s):Tot (λ n=>C2 n s) (λ r=>∃ rows,r=wb s rows/\FwK t s rows):=by
 have hfl:=hs.fl;have hadd:AX .i64 ((s.Felt.length:Nat):Int) 1=((s.Felt.length+1:Nat):Int):=D7 (by omega);unfold C2;rw[hadd];refine Tot.bindC (Jcb (by omega) (by rw[Jli];omega)) ?_;rw[Jli];refine Tot.bind (R:=λ y=>y=wb s (List.replicate (s.Felt.length+1) (some (false,[])))) ?_ ?_
 ·refine Tot.upto (body:=λ n (x:Ab×Int)=>B3 n (List.replicate (s.Felt.length+1) none) x.1 x.2) (s.Felt.length+1) (λ i x=>x.2=(i:Int)/\x.1=wb s (List.replicate i (some (false,[]))++List.replicate (s.Felt.length+1-i) none)) ?_ ?_ _ ⟨rfl,rfl⟩
  ·rintro i ⟨x,_⟩ hi ⟨rfl,hx⟩;simp only at hx;subst hx;unfold B3;have hlt:i<(wb s (List.replicate i (some (false,[]))++List.replicate (s.Felt.length+1-i) none)).Before.length:=by show i<(List.replicate i _++List.replicate _ _).length;simp;omega
   refine Tot.iteT (by simp;omega) (Tot.bindC (Bf hlt) (JkI ⟨D7 (by omega),?_⟩));show wb s _=wb s _;congr 1;rw[Jli];obtain⟨d,hd⟩:∃ d,s.Felt.length+1-i=d+1:=⟨s.Felt.length-i,by omega⟩;rw[show s.Felt.length+1-(i+1)=d by omega];show(List.replicate i _++List.replicate (s.Felt.length+1-i) none).set i _=_;rw[hd,List.replicate_succ];have:=OL (List.replicate i (some (false,([]:List (Int×Int))))) (List.replicate d none) none (some (false,[]));rw[List.length_replicate]at this;rw[this,List.replicate_succ'];simp
  ·rintro⟨x,_⟩ ⟨rfl,hx⟩;simp only at hx;subst hx;unfold B3;refine Tot.iteF (by simp) (JkI ?_);show wb s _=wb s _;simp
 ·rintro _ rfl;have hrow0:rowM (wb s (List.replicate (s.Felt.length+1) (some (false,([]:List (Int×Int)))))).Before 0=some []:=by
   unfold rowM;rw[show idx (wb s (List.replicate (s.Felt.length+1) (some (false,([]:List (Int×Int)))))).Before 0=some (some (false,[]))from rfl];rfl
  refine Tot.bindC hrow0 (Tot.bind (R:=λ r=>∃ rows,r=wb s rows/\FwK t s rows) ?_ λ r hr=>JkI hr);refine Tot.upto (body:=λ n (x:Ab×Int)=>BG n (wb s (List.replicate (s.Felt.length+1) (some (false,[])))) [] x.1 x.2) (s.Felt.length+1) (λ i x=>x.2=(i:Int)/\∃ C rows,x.1=wb s rows/\CV t s i C rows) ?_ ?_ _ ⟨rfl,λ p k v=>p=0/\k=0/\v=0,(List.replicate (s.Felt.length+1) (some (false,[]))).set 0 (some (false,[(0,0)])),rfl,?_,?_,?_,λ p hp=>by omega⟩
  ·rintro i ⟨x,_⟩ hi ⟨rfl,C,rows,hx,hc⟩;simp only at hx;subst hx;refine(Jeh hs (by omega) hc _ (by show(List.replicate _ _).length=_;simp) []).mono λ z hz=>?_;cases z with
   | inl z=>exact hz
   | inr z=>exact hz.elim
  ·rintro⟨x,_⟩ ⟨rfl,C,rows,hx,hc⟩;simp only at hx;subst hx;unfold BG;refine Tot.iteF (by show decide (_<((List.length ((List.replicate _ _).set _ _):Nat):Int))=false;simp) (JkI ⟨rows,rfl,⟨C,hc⟩⟩)
  ·refine⟨by simp,λ p hp=>?_⟩;by_cases e:p=0
   ·subst e;refine⟨[(0,0)],by simp,List.pairwise_singleton _ _,λ k v h=>?_,λ k h v hh=>?_⟩
    ·simp only[AT]at h;split at h
     ·cases h;rename_i e;subst e;exact⟨⟨rfl,rfl,rfl⟩,λ w hw=>by rw[hw.2.2];exact Int.le_refl _⟩
     ·cases h
    ·simp only[AT]at h;rw[if_pos hh.2.1]at h;cases h
   ·refine⟨[],?_,List.Pairwise.nil,λ k v h=>(by cases h),λ k _ v h=>e h.1⟩;rw[Jlp (Ne.symm e),List.getElem?_replicate,if_pos (by omega)];rfl
  ·rintro p k v ⟨rfl,rfl,rfl⟩;exact⟨⟨0,rfl,by have:=(Cl hs.tb.tab).1.first;exact AC this⟩,Int.le_refl _,hs.b0⟩
  ·exact⟨⟨rfl,rfl,rfl⟩,λ v h=>h.2.2⟩
end Go.AI
end
section
namespace Go.AI
inductive Rdg (t:Aa):Nat->List AD->Ag->Prop
 | nil (i:Nat) (q:Ae) (h:(AB t)[i]?=some q) (ha:A2 t q=true):Rdg t i [] ⟨0,[],[]⟩
 | arc (i k j:Nat) (fl:List AD) (r:Ag) (h:Edge t (AB t) i k j) (hl:(clb t k).length<=fl.length) (hr:Rdg t j (fl.drop (clb t k).length) r):Rdg t i fl ⟨BE fl (clb t k)+r.Cost,prt t k++r.Text,clb t k++r.Cells⟩
theorem Fg (t:Aa) (k:Nat):(clb t k).length=(cls t k).length:=by unfold clb;simp
theorem Rdg.len {t:Aa} (ht:TbK t) {i:Nat} {fl:List AD} {r:Ag} (h:Rdg t i fl r):r.Cells.length=fl.length/\r.Text.length<=4*fl.length/\0<=r.Cost:=by
 induction h with
 | nil=>simp
 | arc i k j fl r h hl hr ih=>
  obtain⟨_,_,_,hk,_,_⟩:=h;obtain⟨c1,c2,c3,_⟩:=DS ht hk;have h1:=Ff fl (clb t k);rw[List.length_drop]at ih;rw[Fg]at hl ih;simp only[List.length_append,Fg];omega
abbrev Lws:=List (Option (Bool×List (Int×List Ag)))
def NA (ls:Lws) (p:Nat):List (Int×List Ag):=match ls[p % 5]? with
 | some (some (_,m))=>m
 | _=>[]
structure I0 (t:Aa) (s:Ab) (M:Nat) (u:List (Int×Int)) (p:Nat) (mm:List (Int×List Ag)):Prop where
 km:KM mm
 som:∀ k l,AT k mm=some l->l≠[]/\∃ (i:Nat) (σ:Int),k=(i:Int)/\(k,σ)∈u/\Bst (Rdg t i (s.Felt.drop p)) (s.Budget-σ) M l
 non:∀ k,AT k mm=none->∀ (i:Nat) (σ:Int),k=(i:Int)->(k,σ)∈u->Bst (Rdg t i (s.Felt.drop p)) (s.Budget-σ) M []
theorem Bst.uniq {T:Ag->Prop} {B:Int} {M:Nat} {l l':List Ag} (h:Bst T B M l) (h':Bst T B M l'):l=l':=by
 rw[h.take h' (JkY _)];exact List.take_of_length_le h'.len
theorem I0.ext {t:Aa} {s:Ab} {M:Nat} {u:List (Int×Int)} {p:Nat} {a b:List (Int×List Ag)} (hu:(u.map Prod.fst).Nodup) (h:I0 t s M u p a) (h':I0 t s M u p b):a=b:=by
 have one:∀ k σ σ',(k,σ)∈u->(k,σ')∈u->σ=σ':=λ k σ σ' h1 h2=>by
  have e1:=JcF h1 hu;have e2:=JcF h2 hu;simp only at e1 e2;rw[e1]at e2;exact Option.some.inj e2
 refine h.km.ext h'.km λ k=>?_;cases e:AT k a with
 | none=>
  cases e':AT k b with
  | none=>rfl
  | some l=>
   obtain⟨h1,i,σ,hi,hm,hb⟩:=h'.som k l e';exact absurd (hb.uniq (h.non k e i σ hi hm)) h1
 | some l=>
  obtain⟨h1,i,σ,hi,hm,hb⟩:=h.som k l e;cases e':AT k b with
  | none=>exact absurd (hb.uniq (h'.non k e' i σ hi hm)) h1
  | some l'=>
   obtain⟨_,i',σ',hi',hm',hb'⟩:=h'.som k l' e';have hii:i=i':=by omega
   subst hii;rw[one k σ σ' hm hm']at hb;rw[hb.uniq hb']
theorem I0.congr {t:Aa} {s:Ab} {M:Nat} {u u':List (Int×Int)} {p:Nat} {a:List (Int×List Ag)} (h:I0 t s M u p a) (e:∀ x,x∈u↔x∈u'):I0 t s M u' p a:=
 ⟨h.km,λ k l hl=>by obtain⟨h1,i,σ,h2,h3,h4⟩:=h.som k l hl;exact⟨h1,i,σ,h2,(e _).1 h3,h4⟩,λ k hk i σ hi hm=>h.non k hk i σ hi ((e _).2 hm)⟩
def hdA (s:Ab) (q:Nat) (ls:Lws) (a:Hu):Ai:={ Arc:=a,More:=BE (s.Felt.drop q) a.Cells,List:=Option.getD (AT a.To (NA ls (q+a.Cells.length))) [],First:=⟨0,[],[]⟩ }
def hdO (s:Ab) (q:Nat) (ls:Lws) (a:Hu):Option Ai:=if q+a.Cells.length<=s.Felt.length then some (hdA s q ls a)else none
structure LK (s:Ab) (q:Nat) (ls:Lws):Prop where
 len:ls.length=5
 row:∀ p,q<=p->p<=s.Felt.length->p<q+5->∃ mm,ls[p % 5]?=some (some (false,mm))
theorem LK.rowM {s:Ab} {q p:Nat} {ls:Lws} (h:LK s q ls) (h1:q<=p) (h2:p<=s.Felt.length) (h3:p<q+5):Go.AI.rowM ls ((p % 5:Nat):Int)=some (NA ls p)/\ls.set (p % 5) (some (false,NA ls p))=ls:=by
 obtain⟨mm,e⟩:=h.row p h1 h2 h3;have em:NA ls p=mm:=by unfold NA;rw[e]
 rw[em];refine⟨by unfold Go.AI.rowM;rw[C6 e];rfl,?_⟩;apply List.ext_getElem?;intro j;by_cases ej:p % 5=j
 ·subst ej;rw[Jlk (by rw[h.len];omega),e]
 ·rw[Jlp ej]
theorem Vn (p:Nat):Bj (p:Int) 5=((p % 5:Nat):Int):=by
 rw[(RX (by omega) (by omega)).1];omega
theorem JcI {t:Aa} {s:Ab} (hs:SmS t s) {q:Nat} (hq:q<=s.Felt.length) {ls:Lws} (hls:LK s (q+1) ls) {i:Nat} {l:List Hu} (hl:s.Arcs[i]?=some l) (rows:Rws) (e:Int×Int) (h0:List Ai) (h01:h0.length<=1) :
  Tot (λ n=>whl (λ (x:Lws×List Ai×Int)=>Bw n (q:Int) (wb s rows) e l x.1 x.2.1 x.2.2) n (ls,h0,0)) (λ r=>r=(ls,h0++l.filterMap (hdO s q ls))):=by
 have hA:=hs.sr.arcs i _ hl;have hr11:=hs.tb.tab.1;have hfl:=hs.fl;have hll:l.length<=11:=by have:=hA.len;omega
 refine Tot.upto (body:=λ n (x:Lws×List Ai×Int)=>Bw n (q:Int) (wb s rows) e l x.1 x.2.1 x.2.2) l.length (λ m x=>x.2.2=(m:Int)/\x.1=ls/\x.2.1=h0++(l.take m).filterMap (hdO s q ls)) ?_ ?_ _ ⟨rfl,rfl,by simp⟩
 ·rintro m ⟨x,hh,_⟩ hm ⟨rfl,hx,hhh⟩;simp only at hx hhh;subst hx;subst hhh;unfold Bw;have hidx:idx s.Arcs (i:Int)=some l:=C6 hl;obtain⟨a1,a4,_,j,hj,hjl⟩:=hs.arc hidx (JkV hm);refine Tot.iteT (GM hm) (Tot.bindC (Bf hm) (Tot.bind (Vm (s:=wb s rows) (w:=l[m].Cells) (by show s.Felt.length<=_;omega) hq) ?_));rintro r rfl;have hfl2:(wb s rows).Felt=s.Felt:=rfl;rw[hfl2];have htk:(l.take (m+1)).filterMap (hdO s q x)=(l.take m).filterMap (hdO s q x)++(hdO s q x l[m]).toList:=by
   rw[List.take_add_one,Jk9 hm,Option.toList_some,List.filterMap_append];congr 1
  have hlen:(h0++(l.take m).filterMap (hdO s q x)).length<=1+11:=by
   have:=List.length_filterMap_le (hdO s q x) (l.take m);simp only[List.length_append,List.length_take]at this⊢;omega
  by_cases hfit:q+l[m].Cells.length<=s.Felt.length
  ·rw[if_pos hfit];have hadd2:AX .i64 (q:Int) ((List.length l[m].Cells:Nat):Int)=((q+l[m].Cells.length:Nat):Int):=by rw[Lf (by omega) (by omega)];simp
   refine Tot.iteT rfl ?_;simp only[hadd2,Vn];obtain⟨e1,e2⟩:=hls.rowM (p:=q+l[m].Cells.length) (by omega) hfit (by omega);refine Tot.bindC e1 (Tot.bindC (CP (by simp;omega)) (Tot.bindC (Eh (by simp only[List.length_cons,List.length_nil];omega)) ?_));rw[Jli,e2];refine JkI ⟨D7 (by omega),rfl,?_⟩;rw[htk];unfold hdO;rw[if_pos hfit];simp[hdA]
  ·rw[if_neg hfit];refine Tot.iteF rfl (JkI ⟨D7 (by omega),rfl,?_⟩);rw[htk];unfold hdO;rw[if_neg hfit];simp
 ·rintro⟨x,hh,_⟩ ⟨rfl,hx,hhh⟩;simp only at hx hhh;subst hx;subst hhh;unfold Bw;refine Tot.iteF (Jf _) (JkI (by show _=_;rw[List.take_length]))
end Go.AI
end
section
namespace Go.AI
theorem Jei {h:Ai} (hp:h.List.Pairwise klr):(gam h).Pairwise klr:=by
 unfold gam;rw[List.pairwise_map];refine hp.imp λ {a b} hk=>?_;rcases hk with hk|⟨hk,h2⟩
 ·exact .inl (by show h.More+a.Cost<h.More+b.Cost;omega)
 ·exact .inr ⟨by show h.More+a.Cost=h.More+b.Cost;omega,(Tt _).2 h2⟩
theorem Jej {h:Ai} (hp:h.List.Pairwise λ a b=>a.Text≠b.Text):(gam h).Pairwise λ a b=>a.Text≠b.Text:=by
 unfold gam;rw[List.pairwise_map];exact hp.imp λ {a b} hk e=>hk (List.append_cancel_left e)
theorem Bst.tx {T:Ag->Prop} {B:Int} {M:Nat} {l:List Ag} (h:Bst T B M l):l.Pairwise λ a b=>a.Text≠b.Text:=
 List.Pairwise.imp_of_mem (λ {a b} ha hb hab e=>by
  have:=h.dst a ha b hb e;subst this;exact CF _ hab) h.srt
theorem Jh9 {h:Ai} {a b:Ag} (hl:le2 a b):le2 (mpR h a) (mpR h b):=by
 rcases hl with hl|⟨hl,h2⟩
 ·exact .inl (by show h.More+a.Cost<h.More+b.Cost;omega)
 ·exact .inr ⟨by show h.More+a.Cost=h.More+b.Cost;omega,λ h3=>h2 ((Tt _).1 h3)⟩
theorem Jia {h:Ai} {a b:Ag} (hl:klr a b):klr (mpR h a) (mpR h b):=by
 rcases hl with hk|⟨hk,h2⟩
 ·exact .inl (by show h.More+a.Cost<h.More+b.Cost;omega)
 ·exact .inr ⟨by show h.More+a.Cost=h.More+b.Cost;omega,(Tt _).2 h2⟩
def hd0:Ai:={ Arc:=⟨[],[],0⟩,More:=0,List:=[⟨0,[],[]⟩],First:=⟨0,[],[]⟩ }
def LV (t:Aa) (s:Ab) (M:Nat) (rows:Rws) (q:Nat) (ls:Lws):Prop:=
 ls.length=5/\∀ p m,q<p->p<=s.Felt.length->p<q+5->rows[p]?=some (some (true,m))->∃ mm,ls[p % 5]?=some (some (false,mm))/\I0 t s M m p mm
theorem LV.set {t:Aa} {s:Ab} {M:Nat} {rows:Rws} {q:Nat} {ls:Lws} (h:LV t s M rows q ls) (x:Option (Bool×List (Int×List Ag))):LV t s M rows q (ls.set (q % 5) x):=by
 refine⟨by rw[Jlq];exact h.1,λ p m h1 h2 h3 h4=>?_⟩;obtain⟨mm,e,hm⟩:=h.2 p m h1 h2 h3 h4;exact⟨mm,by rw[Jlp (by omega)];exact e,hm⟩
theorem RKr.at {L fl p:Nat} {C:Nat->Int->Int->Prop} {a:Rws} (h:RKr L fl C a) (h1:p<fl) (h2:p<=L):∃ m,a[p]?=some (some (true,m))/\Jp (C p) m:=by
 obtain⟨m,e,hm⟩:=h.row p h2;rw[decide_eq_true h1]at e;exact⟨m,e,hm⟩
theorem Zh {t:Aa} {s:Ab} (hs:SmS t s) {M:Nat} (hM:s.Most=(M:Int)) (hM0:1<=M) (hM1:M<=1000) {C:Nat->Int->Int->Prop} {rows:Rws} (hc:CV t s (s.Felt.length+1) C rows) {q:Nat} (hq:q<=s.Felt.length) {m:List (Int×Int)} (hm:rows[q]?=some (some (true,m)))
  {i:Nat} {σ:Int} (he:((i:Int),σ)∈m) {g:Ae} (hg:(AB t)[i]?=some g) {l:List Hu} (hl:s.Arcs[i]?=some l) {ls:Lws} (hls:LV t s M rows q ls) (rows':Rws) :
  Tot (λ n=>CN n (s.Budget-σ) (wb s rows') ((if q=s.Felt.length/\A2 t g=true then [hd0]else [])++l.filterMap (hdO s q ls))) (Bst (Rdg t i (s.Felt.drop q)) (s.Budget-σ) M):=by
 have hA:=hs.sr.arcs i _ hl;have hr11:=hs.tb.tab.1;have hfl:=hs.fl;have hb0:=hs.b0;have hb1:=hs.b1;have hhd:∀ h∈(if q=s.Felt.length/\A2 t g=true then [hd0]else [])++l.filterMap (hdO s q ls),(h=hd0/\q=s.Felt.length/\A2 t g=true) \/
   ∃ k j:Nat,Edge t (AB t) i k j/\q+(clb t k).length<=s.Felt.length/\h.Arc=⟨prt t k,clb t k,(j:Int)⟩/\h.More=BE (s.Felt.drop q) (clb t k)/\(h.List=[]\/∃ σ',0<=σ'/\Bst (Rdg t j (s.Felt.drop (q+(clb t k).length))) (s.Budget-σ') M h.List):=λ h hh=>by
  rcases List.mem_append.1 hh with hh|hh
  ·split at hh
   ·rename_i hx;simp only[List.mem_singleton]at hh;exact .inl ⟨hh,hx.1,hx.2⟩
   ·simp at hh
  ·right;obtain⟨a,ha,e⟩:=List.mem_filterMap.1 hh;unfold hdO at e;split at e
   ·rename_i hfit;cases e;obtain⟨j,k,hE,rfl⟩:=hA.snd a ha;have hk4:=DS hs.tb hE.choose_spec.choose_spec.2.1;simp only at hfit;refine⟨k,j,hE,hfit,rfl,rfl,?_⟩;obtain⟨mp,emp,hrp⟩:=hc.rk.at (p:=q+(clb t k).length) (by omega) hfit;obtain⟨mm,emm,hmm⟩:=hls.2 (q+(clb t k).length) mp (by rw[Fg];omega) hfit (by rw[Fg];omega) emp;have:NA ls (q+(clb t k).length)=mm:=by unfold NA;rw[emm]
    show Option.getD (AT (j:Int) (NA ls (q+(clb t k).length))) []=[]\/_;rw[this];cases e3:AT (j:Int) mm with
    | none=>exact .inl rfl
    | some x=>
     right;obtain⟨_,j',σ',hj',hmem,hb⟩:=hmm.som _ _ e3;have:j=j':=by omega
     subst this;have hv:=hc.val _ _ _ (hrp.lst _ _ ((hrp.km.mem _ _).1 hmem)).1;refine⟨σ',hv.2.1,?_⟩;show Bst _ _ _ (Option.getD (AT (j:Int) (NA ls (q+(clb t k).length))) []);rw[‹NA ls _=mm›,e3];exact hb
   ·cases e
 have hlen:((if q=s.Felt.length/\A2 t g=true then [hd0]else [])++l.filterMap (hdO s q ls)).length<=12:=by
  have h1:=List.length_filterMap_le (hdO s q ls) l;have h2:=hA.len;rw[List.length_append];split<;>simp<;>omega
 have hBst:∀ h∈(if q=s.Felt.length/\A2 t g=true then [hd0]else [])++l.filterMap (hdO s q ls),h.List.Pairwise klr/\h.List.Pairwise λ a b=>a.Text≠b.Text:=λ h hh=>by
  rcases hhd h hh with⟨rfl,_⟩|⟨k,j,_,_,_,_,e|⟨σ',_,hb⟩⟩
  ·exact⟨List.pairwise_singleton _ _,List.pairwise_singleton _ _⟩
  ·rw[e];exact⟨List.Pairwise.nil,List.Pairwise.nil⟩
  ·exact⟨hb.srt,hb.tx⟩
 refine JcD (s:=wb s rows') hM hM1 (by omega) (λ h hh=>?_) (λ h hh c hc'=>?_) (λ h hh=>Jei (hBst h hh).1) (λ h hh=>Jej (hBst h hh).2) λ r hr hrB=>?_
 ·rcases hhd h hh with⟨rfl,_⟩|⟨k,j,hE,hfit,ea,em,hl'⟩
  ·exact⟨Int.le_refl _,by decide,by decide,by decide,λ r hr=>by
    have:r=⟨0,[],[]⟩:=by simpa [hd0]using hr
    subst this;exact⟨Int.le_refl _,by decide,by decide,by decide⟩⟩
  ·obtain⟨_,_,_,hk,_,_⟩:=hE;obtain⟨c1,c2,c3,_⟩:=DS hs.tb hk;have h1:=Ff (s.Felt.drop q) (clb t k);rw[Fg]at h1;refine⟨by rw[em];omega,by rw[em];omega,by rw[ea];show(prt t k).length<=_;omega,by rw[ea];show(clb t k).length<=_;rw[Fg];omega,λ r hr=>?_⟩;rcases hl' with e|⟨σ',h0,hb⟩
   ·rw[e]at hr;simp at hr
   ·obtain⟨h2,h3⟩:=hb.snd r hr;obtain⟨h4,h5,h6⟩:=h2.len hs.tb;rw[List.length_drop]at h4 h5;exact⟨h6,by omega,by omega,by omega⟩
 ·obtain⟨r,hr,rfl⟩:=Jk1.1 hc';rcases hhd h hh with⟨rfl,e1,e2⟩|⟨k,j,hE,hfit,ea,em,hl'⟩
  ·have:r=⟨0,[],[]⟩:=by simpa [hd0]using hr
   subst this;rw[e1,List.drop_length];exact .nil i g hg e2
  ·rcases hl' with e|⟨σ',h0,hb⟩
   ·rw[e]at hr;simp at hr
   ·obtain⟨h2,_⟩:=hb.snd r hr;have:=Rdg.arc i k j (s.Felt.drop q) r hE (by rw[List.length_drop];omega) (by rw[List.drop_drop];exact h2);unfold mpR;rw[ea,em];exact this
 ·generalize hfd:s.Felt.drop q=fd at hr;cases hr with
  | nil _ g' hg' ha=>
   have e1:q=s.Felt.length:=by have:=congrArg List.length hfd;simp at this;omega
   rw[hg]at hg';cases hg';refine⟨hd0,by rw[if_pos ⟨e1,ha⟩];simp,by simp[hd0],.inl ⟨⟨0,[],[]⟩,by simp[gam,hd0,mpR],rfl,Vg _⟩⟩
  | arc _ k j _ r' hE hl2 hr'=>
   subst hfd;rw[List.length_drop]at hl2;rw[List.drop_drop]at hr';have hfit:q+(clb t k).length<=s.Felt.length:=by
    have:=(DS hs.tb hE.choose_spec.choose_spec.2.1).1;rw[← Fg]at this;omega
   have hk4:=DS hs.tb hE.choose_spec.choose_spec.2.1;have hmem:(⟨prt t k,clb t k,(j:Int)⟩:Hu)∈l:=hA.cov k j hE.choose_spec.choose_spec.2.1 hE;have hhm:hdA s q ls ⟨prt t k,clb t k,(j:Int)⟩∈(if q=s.Felt.length/\A2 t g=true then [hd0]else [])++l.filterMap (hdO s q ls):=by
    refine List.mem_append_right _ (List.mem_filterMap.2 ⟨_,hmem,?_⟩);unfold hdO;rw[if_pos hfit]
   have hr0:=(hr'.len hs.tb).2.2;simp only at hrB;have hx:Tw s q ((i:Int),σ) (q+(clb t k).length) (j:Int) (σ+BE (s.Felt.drop q) (clb t k)):=⟨l,_,C6 hl,hmem,rfl,hfit,rfl,rfl,by omega⟩;have hC:=hc.clo q (by omega) m hm _ he _ _ _ hx;obtain⟨mp,emp,hrp⟩:=hc.rk.at (p:=q+(clb t k).length) (by omega) hfit;obtain⟨w,hw,hwle⟩:=hrp.has hC;obtain⟨mm,emm,hmm⟩:=hls.2 (q+(clb t k).length) mp (by rw[Fg];omega) hfit (by rw[Fg];omega) emp;have emA:NA ls (q+(clb t k).length)=mm:=by unfold NA;rw[emm]
   have hwm:=(hrp.km.mem _ _).2 hw;have hlst:(hdA s q ls ⟨prt t k,clb t k,(j:Int)⟩).List=Option.getD (AT (j:Int) mm) []:=by
    show Option.getD (AT (j:Int) (NA ls (q+(clb t k).length))) []=_;rw[emA]
   have hmp:∀ x,mpR (hdA s q ls ⟨prt t k,clb t k,(j:Int)⟩) x=⟨BE (s.Felt.drop q) (clb t k)+x.Cost,prt t k++x.Text,clb t k++x.Cells⟩:=λ x=>rfl;cases e3:AT (j:Int) mm with
   | none=>
    have hb:=hmm.non _ e3 j w rfl hwm;rcases hb.cov r' hr' (by omega)with⟨x,hx',_⟩|⟨h2,_⟩
    ·simp at hx'
    ·simp at h2;omega
   | some x=>
    obtain⟨hne,j',σ',hj',hmem',hb⟩:=hmm.som _ _ e3;have:j=j':=by omega
    subst this;have hσ:σ'=w:=by
     have:=(hrp.km.mem _ _).1 hmem';rw[hw]at this;exact(Option.some.inj this).symm
    subst hσ;rw[e3,JkU]at hlst;refine⟨_,hhm,by rw[hlst];exact hne,?_⟩;rw[← hmp r'];rcases hb.cov r' hr' (by omega)with⟨y,hy,hyt,hyle⟩|⟨h2,h3⟩
    ·exact .inl ⟨mpR _ y,by unfold gam;rw[hlst];exact List.mem_map_of_mem hy,by show prt t k++y.Text=prt t k++r'.Text;rw[hyt],Jh9 hyle⟩
    ·refine .inr ⟨by unfold gam;rw[hlst,Jk4];exact h2,λ c hc'=>?_⟩;unfold gam at hc';rw[hlst]at hc';obtain⟨y,hy,rfl⟩:=Jk1.1 hc';exact Jia (h3 y hy)
end Go.AI
end
section
namespace Go.AI
theorem I0.put {t:Aa} {s:Ab} {M:Nat} {u:List (Int×Int)} {q:Nat} {mm:List (Int×List Ag)} (h:I0 t s M u q mm) {i:Nat} {σ:Int} {l:List Ag} (hb:Bst (Rdg t i (s.Felt.drop q)) (s.Budget-σ) M l) (hu:((u++[((i:Int),σ)]).map Prod.fst).Nodup) :
  I0 t s M (u++[((i:Int),σ)]) q (if l=[]then mm else B8 (BP (i:Int) l mm)):=by
 have hnew:∀ σ',((i:Int),σ') ∉ u:=λ σ' hm=>by
  rw[List.map_append,List.nodup_append]at hu;exact hu.2.2 (i:Int) (Jk1.2 ⟨_,hm,rfl⟩) (i:Int) (by simp) rfl
 split
 ·rename_i hl;subst hl;refine⟨h.km,λ k l hl=>?_,λ k hk j τ hj hm=>?_⟩
  ·obtain⟨h1,j,τ,h2,h3,h4⟩:=h.som k l hl;exact⟨h1,j,τ,h2,List.mem_append_left _ h3,h4⟩
  ·rcases List.mem_append.1 hm with hm|hm
   ·exact h.non k hk j τ hj hm
   ·simp only[List.mem_singleton,Prod.mk.injEq]at hm;obtain⟨rfl,rfl⟩:=hm;have:i=j:=by omega
    subst this;exact hb
 ·rename_i hl;refine⟨XG h.km _ _,λ k l' hl'=>?_,λ k hk j τ hj hm=>?_⟩
  ·rw[ML h.km]at hl';split at hl'
   ·rename_i e;cases hl';subst e;exact⟨hl,i,σ,rfl,by simp,hb⟩
   ·obtain⟨h1,j,τ,h2,h3,h4⟩:=h.som k l' hl';exact⟨h1,j,τ,h2,List.mem_append_left _ h3,h4⟩
  ·rw[ML h.km]at hk;split at hk
   ·cases hk
   ·rename_i e;rcases List.mem_append.1 hm with hm|hm
    ·exact h.non k hk j τ hj hm
    ·simp only[List.mem_singleton,Prod.mk.injEq]at hm;exact absurd hm.1 e
theorem Jek {t:Aa} {s:Ab} (hs:SmS t s) {M:Nat} (hM:s.Most=(M:Int)) (hM0:1<=M) (hM1:M<=1000) {C:Nat->Int->Int->Prop} {rows:Rws} (hc:CV t s (s.Felt.length+1) C rows) {q:Nat} (hq:q<=s.Felt.length) {m:List (Int×Int)} (hm:rows[q]?=some (some (true,m))) (hrow:Jp (C q) m)
  {u:List (Int×Int)} {e:Int×Int} (he:e∈m) (hu:((u++[e]).map Prod.fst).Nodup) {ls:Lws} (hls:LV t s M rows q ls) {mm:List (Int×List Ag)} (hmm:I0 t s M u q mm) :
  Tot (λ n=>Ba n (q:Int) e (wb s rows) (ls.set (q % 5) (some (false,mm)))) (Rd2 (λ r=>∃ mm',r=(wb s rows,ls.set (q % 5) (some (false,mm')))/\I0 t s M (u++[e]) q mm') (λ _=>True)):=by
 obtain⟨k,σ⟩:=e;obtain⟨⟨i,rfl,hil⟩,h0,h1⟩:=hc.val q k σ (hrow.lst k σ ((hrow.km.mem k σ).1 he)).1;obtain⟨g,hg⟩:∃ g,(AB t)[i]?=some g:=⟨_,Jk9 hil⟩;have hal:i<s.Arcs.length:=by rw[hs.sr.len];exact hil
 have hl:=Jk9 hal;have hfl:=hs.fl;have hb1:=hs.b1;have hls2:=hls.set (some (false,mm));have hlk:LK s (q+1) (ls.set (q % 5) (some (false,mm))):=by
  refine⟨hls2.1,λ p h2 h3 h4=>?_⟩;by_cases e5:p=q+5
  ·subst e5;rw[show(q+5) % 5=q % 5 by omega];exact⟨mm,by rw[Jlk (by rw[hls.1];omega)]⟩
  ·obtain⟨mp,emp,_⟩:=hc.rk.at (p:=p) (by omega) h3;obtain⟨x,hx,_⟩:=hls2.2 p mp (by omega) h3 (by omega) emp;exact⟨x,hx⟩
 have main:∀ h0:List Ai,h0=(if q=s.Felt.length/\A2 t g=true then [hd0]else [])->Tot (λ n=>BU n (q:Int) (wb s rows) (ls.set (q % 5) (some (false,mm))) ((i:Int),σ) h0) (Rd2 (λ r=>∃ mm',r=(wb s rows,ls.set (q % 5) (some (false,mm')))/\I0 t s M (u++[((i:Int),σ)]) q mm') (λ _=>True)):=λ h0' hh0=>by
  unfold BU;refine Tot.bindC (show idx (wb s rows).Arcs (i:Int)=some s.Arcs[i]from C6 hl) (Tot.bind (JcI hs hq hlk hl rows _ h0' (by rw[hh0];split<;>simp)) ?_);rintro _ rfl;have hmg:=Zh hs hM hM0 hM1 hc hq hm he hg hl hls2 rows;rw[← hh0]at hmg;have hsub:IC .i64 (wb s rows).Budget σ=s.Budget-σ:=RW (by show _<=s.Budget-σ;omega) (by show s.Budget-σ<_;omega);show Tot _ _;simp only[hsub];refine Tot.bind hmg λ r hr=>?_;have hput:=hmm.put hr hu;refine Tot.ite (λ hx=>?_) λ hx=>?_
  ·have hne:r≠[]:=λ e=>by subst e;simp at hx
   rw[if_neg hne]at hput;have hrm:rowM (ls.set (q % 5) (some (false,mm))) (Bj (q:Int) 5)=some mm:=by
    rw[Vn];unfold rowM;rw[C6 (Jlk (by rw[hls.1];omega))];rfl
   refine Tot.bindC hrm (Tot.bindC (CP (by rw[Vn];simp;omega)) (JkI ⟨_,?_,hput⟩));rw[Vn,Jli,List.set_set]
  ·have hne:r=[]:=by
    cases r with
    | nil=>rfl
    | cons=>(first|(simp at hx;done)|(simp at hx;omega))
   rw[if_pos hne]at hput;exact JkI ⟨mm,rfl,hput⟩
 unfold Ba;have hacc:idx (wb s rows).Accepts (i:Int)=some (A2 t g):=C6 (hs.sr.acc i g hg);have hfw:(wb s rows).Felt=s.Felt:=rfl;rw[hfw];by_cases hqe:q=s.Felt.length
 ·refine Tot.bindC (y:=A2 t g) (by rw[if_pos (by simp[hqe])];exact hacc) (Tot.ite (λ hx=>?_) λ hx=>?_)
  ·have ha:A2 t g=true:=by simpa [hqe]using hx
   refine Tot.bindC (Eh (by simp)) (main _ ?_);rw[if_pos ⟨hqe,ha⟩];rfl
  ·have ha:¬A2 t g=true:=by simpa [hqe]using hx
   exact main _ (by rw[if_neg λ h=>ha h.2])
 ·refine Tot.bindC (y:=default) (by rw[if_neg (by first|(simp;done)|(simp;omega))]) (Tot.iteF (by first|(simp;done)|(simp;omega)) (main _ (by rw[if_neg λ h=>hqe h.1])))
theorem Zi {rows:Rws} {q:Nat} {x:Option (Bool×List (Int×Int))} (h:rows[q]?=some x):rows.set q x=rows:=by
 apply List.ext_getElem?;intro j;by_cases e:q=j
 ·subst e;rw[Jlk (AC h),h]
 ·rw[Jlp e]
theorem Jel {t:Aa} {s:Ab} (hs:SmS t s) {M:Nat} (hM:s.Most=(M:Int)) (hM0:1<=M) (hM1:M<=1000) {C:Nat->Int->Int->Prop} {rows:Rws} (hc:CV t s (s.Felt.length+1) C rows) {q:Nat} (hq:q<=s.Felt.length) {ls:Lws} (hls:LV t s M rows q ls) :
  Tot (λ n=>Bx n (wb s rows) ls (q:Int)) (Rd2 (λ r=>∃ m mm,rows[q]?=some (some (true,m))/\I0 t s M m q mm/\r=(wb s rows,ls.set (q % 5) (some (false,mm)),(q:Int)-1)) (λ _=>False)):=by
 have hfl:=hs.fl;obtain⟨m,hm,hrow⟩:=hc.rk.at (p:=q) (by omega) hq;unfold Bx;have hidx:(q % 5)<ls.length:=by rw[hls.1];omega
 have hra:rowA (wb s rows).Before (q:Int)=some (true,m):=by
  unfold rowA;rw[show idx (wb s rows).Before (q:Int)=some (some (true,m))from C6 hm];rfl
 simp only[Vn];refine Tot.iteT (by simp) (Tot.bindC (Bf hidx) (Tot.bindC (CP (by simp;omega)) (Tot.bindC hra ?_)));have hsame:({ Felt:=(wb s rows).Felt,Budget:=(wb s rows).Budget,Most:=(wb s rows).Most,Arcs:=(wb s rows).Arcs,Accepts:=(wb s rows).Accepts,Before:=List.set (wb s rows).Before q (some (true,m)) }:Ab)=wb s rows:=by
  show wb s (rows.set q (some (true,m)))=_;rw[Zi hm]
 simp only[Jli];simp only[hsame];have pass:∀ o:List (Int×Int),o.Perm m->Tot (λ n=>mapW (λ (e:Int×Int) (x:Ab×Lws)=>Ba n (q:Int) e x.1 x.2) o (wb s rows,ls.set (q % 5) (some (false,[])))) (Rd2 (λ r=>∃ mm,r=(wb s rows,ls.set (q % 5) (some (false,mm)))/\I0 t s M m q mm) (λ _=>True)):=λ o ho=>by
  refine(Tot.mapW (F:=λ n (e:Int×Int) (x:Ab×Lws)=>Ba n (q:Int) e x.1 x.2) (λ u r=>∃ mm,r=(wb s rows,ls.set (q % 5) (some (false,mm)))/\I0 t s M u q mm) (λ u e v x hu hx=>?_) ⟨[],rfl,List.Pairwise.nil,λ k l h=>(by cases h),λ k _ i σ _ h=>by simp at h⟩).mono λ z hz=>?_
  ·obtain⟨mm,rfl,hmm⟩:=hx;refine Jek hs hM hM0 hM1 hc hq hm hrow (ho.mem_iff.1 (by rw[hu];simp)) ?_ hls hmm;have h1:(o.map Prod.fst).Nodup:=((ho.map Prod.fst).nodup_iff).2 hrow.km.nd;rw[hu,show u++e::v=(u++[e])++v by simp,List.map_append,List.nodup_append]at h1;exact h1.1
  ·cases z with
   | inr z=>exact trivial
   | inl z=>
    obtain⟨mm,e1,h2⟩:=hz;exact⟨mm,e1,h2.congr λ x=>ho.mem_iff⟩
 obtain⟨z0,hz0,_⟩:=pass m (List.Perm.refl _);cases z0 with
 | inr z=>exact nomatch z
 | inl z0=>
  obtain⟨mm0,rfl,h0⟩:=hz0;refine Tot.demP (.inl (wb s rows,ls.set (q % 5) (some (false,mm0)),(q:Int)-1)) (λ o ho=>?_) ⟨m,mm0,hm,h0,rfl⟩;refine Tot.bind (pass o ho) ?_;rintro (z|z) hz
  ·obtain⟨mm,rfl,h'⟩:=hz;have:=I0.ext hrow.km.nd h' h0;subst this;exact JkI (by rw[RW (by omega) (by omega)])
  ·exact nomatch z
theorem Vo {t:Aa} {s:Ab} (hs:SmS t s) {M:Nat} (hM:s.Most=(M:Int)) (hM0:1<=M) (hM1:M<=1000) {rows:Rws} (hf:FwK t s rows):Tot (λ n=>CG n (wb s rows)) (λ r=>Bst (Rdg t 0 s.Felt) s.Budget M r.2):=by
 obtain⟨C,hc⟩:=hf.cv;have hfl:=hs.fl;unfold CG;refine Tot.bind (R:=λ y=>y.2.length=5/\∃ m mm,rows[0]?=some (some (true,m))/\I0 t s M m 0 mm/\y.2[0]?=some (some (false,mm))) ?_ ?_
 ·refine Tot.whl (body:=λ n (x:Ab×Lws×Int)=>Bx n x.1 x.2.1 x.2.2) (λ k x=>x.1=wb s rows/\x.2.2=(k:Int)-1/\k<=s.Felt.length+1/\x.2.1.length=5/\∀ p m,k<=p->p<=s.Felt.length->p<k+5->rows[p]?=some (some (true,m))->∃ mm,x.2.1[p % 5]?=some (some (false,mm))/\I0 t s M m p mm) ?_ (s.Felt.length+1) _ ⟨rfl,by show((s.Felt.length:Nat):Int)=_;omega,JkY _,by simp,λ p m h1 h2=>by omega⟩
  ·rintro k ⟨x,ls,_⟩ ⟨hx,rfl,hk,hl5,hr⟩;simp only at hx hl5 hr;subst hx;cases k with
   | zero=>
    unfold Bx;obtain⟨m,hm,hrow⟩:=hc.rk.at (p:=0) (by omega) (by omega);obtain⟨mm,h1,h2⟩:=hr 0 m (by omega) (by omega) (by omega) hm;exact Tot.iteF (by simp) (JkI ⟨hl5,m,mm,hm,h2,h1⟩)
   | succ q=>
    have hq:q<=s.Felt.length:=by omega
    have e1:((q+1:Nat):Int)-1=(q:Int):=by omega
    simp only[e1];have hlv:LV t s M rows q ls:=⟨hl5,λ p m h1 h2 h3 h4=>hr p m h1 h2 (by omega) h4⟩;refine(Jel hs hM hM0 hM1 hc hq hlv).mono λ z hz=>?_;cases z with
    | inr z=>exact hz.elim
    | inl z=>
     obtain⟨m,mm,hm,hmm,rfl⟩:=hz;refine⟨q,by omega,rfl,rfl,by omega,by simpa using hl5,λ p m' h1 h2 h3 h4=>?_⟩;by_cases e:p=q
     ·subst e;rw[hm]at h4;cases h4;exact⟨mm,Jlk (by omega),hmm⟩
     ·obtain⟨mm',h5,h6⟩:=hr p m' (by omega) h2 (by omega) h4;exact⟨mm',by rw[Jlp (by omega)];exact h5,h6⟩
 ·rintro⟨x,ls⟩ ⟨hl5,m,mm,hm,hmm,h0⟩;simp only at hl5 h0;have hrm:rowM ls 0=some mm:=by
   unfold rowM;rw[show idx ls 0=some (some (false,mm))from C6 (i:=0) h0];rfl
  refine Tot.bindC hrm (Tot.bindC rfl (JkI ?_));obtain⟨m',hm',hrow⟩:=hc.rk.at (p:=0) (by omega) (by omega);rw[hm]at hm';cases hm';obtain⟨w,hw,_⟩:=hrow.has hc.rt.1;have hw0:w=0:=hc.rt.2 w (hrow.lst _ _ hw).1;subst hw0;have hwm:=(hrow.km.mem _ _).2 hw;show Bst _ _ _ (Option.getD (AT 0 mm) []);cases e3:AT (0:Int) mm with
  | none=>
   have:=hmm.non 0 e3 0 0 rfl hwm;rw[List.drop_zero,Int.sub_zero]at this;exact this
  | some l=>
   obtain⟨_,i,σ,hi,hmem,hb⟩:=hmm.som 0 l e3;have:i=0:=by omega
   subst this;have hσ:σ=0:=by
    have:=(hrow.km.mem _ _).1 hmem;rw[hw]at this;exact(Option.some.inj this).symm
   subst hσ;rw[List.drop_zero,Int.sub_zero]at hb;exact hb
end Go.AI
end
section
namespace Go.AI
def gs (r:Ag):AZ:={ Text:=r.Text,Cells:=Be r.Cells,Cost:=r.Cost }
theorem XH {t:Aa} (ht:TbK t) {fl:List AD} (hf:fl.length<=100000) {B:Int} (h0:0<=B) (h1:B<=100000) {M:Nat} (hM0:1<=M) (hM1:M<=1000):Tot (λ n=>JN n t fl B (M:Int)) (λ r=>∃ l,Bst (Rdg t 0 fl) B M l/\r=l.map gs):=by
 have hv:=Y8 ht.small;rw[ht.valid]at hv;unfold JN;refine JkJ hv (Tot.iteF rfl (Tot.bind (Tv ht fl B (M:Int)) λ s hs=>?_));have hS:SmS t s:=⟨ht,by rw[hs.felt,hs.bud,hs.most];exact hs,by rw[hs.felt];exact hf,by rw[hs.bud];exact h0,by rw[hs.bud];exact h1⟩;refine Tot.bind (WL hS) ?_;rintro _ ⟨rows,rfl,hF⟩;refine Tot.bind (Vo hS hs.most hM0 hM1 hF) λ r hb=>?_;rw[hs.felt,hs.bud]at hb;have hl:=hb.len;refine Tot.bind (R:=λ y=>y=r.2.map gs) ?_ λ y hy=>JkI ⟨r.2,hb,hy⟩;refine Tot.upto (body:=λ n (x:(List AZ)×Int)=>FE n r x.1 x.2) r.2.length (λ i x=>x.2=(i:Int)/\x.1=(r.2.take i).map gs) ?_ ?_ _ ⟨rfl,rfl⟩
 ·rintro i ⟨x,_⟩ hi ⟨rfl,hx⟩;simp only at hx;subst hx;unfold FE;refine Tot.iteT (GM hi) (Tot.bindC (Bf hi) (Tot.bindC (Nu (by simp;omega)) (JkI ⟨D7 (by omega),?_⟩)));show _=_;rw[List.take_add_one,Jk9 hi,List.map_append];rfl
 ·rintro⟨x,_⟩ ⟨rfl,hx⟩;simp only at hx;subst hx;unfold FE;exact Tot.iteF (Jf _) (JkI (by show _=_;rw[List.take_length]))
theorem LB {t:Aa} (ht:TbK t) {fl:List AD} (hf:fl.length<=100000) {B:Int} (h0:0<=B) (h1:B<=100000):Tot (λ n=>BC n t fl B) (λ r=>∃ l,Bst (Rdg t 0 fl) B 17 l/\r=if l.length>16 then([],2)else(l.map gs,0)):=by
 unfold BC;refine Tot.iteF (by simp;omega) (Tot.bind (XH ht hf h0 h1 (M:=17) (by omega) (by omega)) ?_);rintro _ ⟨l,hl,rfl⟩;refine Tot.ite (λ h=>JkI ⟨l,hl,?_⟩) λ h=>JkI ⟨l,hl,?_⟩
 ·rw[if_pos (by simp at h;omega)]
 ·rw[if_neg (by simp at h;omega)]
theorem Vp {t:Aa} (ht:TbK t) {fl:List AD} (hf:fl.length<=100000) {B:Int} (h0:0<=B) (h1:B<=100000):Tot (λ n=>Gx n t fl B) (λ r=>(r=(⟨[],[],0⟩,false)/\Bst (Rdg t 0 fl) B 1 [])\/∃ x,r=(gs x,true)/\Bst (Rdg t 0 fl) B 1 [x]):=by
 unfold Gx;refine Tot.iteF (by simp;omega) (Tot.bind (XH ht hf h0 h1 (M:=1) (by omega) (by omega)) ?_);rintro _ ⟨l,hl,rfl⟩;have:=hl.len
 match l,hl,this with
 | [],hl,_=>exact Tot.iteT rfl (JkI (.inl ⟨rfl,hl⟩))
 | [x],hl,_=>exact Tot.iteF (by simp) (Tot.bindC rfl (JkI (.inr ⟨x,rfl,hl⟩)))
 | _::_::_,_,h=>simp at h
theorem Vq (n:Nat) (t:Aa) (fl:List AD) {B:Int} (h:B<0):BC n t fl B=some ([],1):=by
 unfold BC;rw[if_pos (by simpa using h)]
def ofI (l:List Int):List UInt8:=l.map λ c=>UInt8.ofNat c.toNat
theorem Vr (s:List UInt8):ofI (Be s)=s:=by
 unfold ofI Be;rw[List.map_map]
 conv=>rhs;rw[← List.map_id s]
 exact Jk7 λ b _=>by simp
theorem Vs {l:List Int} (h:∀ c∈l,0<=c/\c<256):Be (ofI l)=l:=by
 unfold ofI Be;rw[List.map_map]
 conv=>rhs;rw[← List.map_id l]
 exact Jk7 λ c hc=>by
  have:=h c hc;have h2:c.toNat<256:=by omega
  simp only[Function.comp,UInt8.toNat_ofNat',id];omega
theorem Vt (a b:List UInt8):Be (a++b)=Be a++Be b:=by unfold Be;simp
theorem Jem (a b:List Int):ofI (a++b)=ofI a++ofI b:=by unfold ofI;simp
theorem Kf (a:List UInt8):(Be a).length=a.length:=by unfold Be;simp
theorem WM {t:Aa} (ht:TbK t) {k:Nat} (hk:k<t.Rules.length):Be (clb t k)=cls t k:=
 Vs λ c hc=>by have:=(DS ht hk).2.2.2 c hc;omega
theorem JcJ {t:Aa} (ht:TbK t) {i:Nat} {fl:List AD} {r:Ag} (h:Rdg t i fl r):r.Cost=BE fl r.Cells/\∀ s,(AB t)[i]?=some s->∃ p s',Kb t s p s'/\A2 t s'=true/\cellsOf t p=Be r.Cells/\Kc t p=r.Text:=by
 induction h with
 | nil i q h ha=>exact⟨rfl,λ s hs=>by rw[h]at hs;cases hs;exact⟨[],q,rfl,ha,rfl,rfl⟩⟩
 | arc i k j fl r hE hl hr ih=>
  obtain⟨s0,s1,e1,hk,e3,e4⟩:=hE;obtain⟨h1,h2⟩:=ih;refine⟨?_,λ s hs=>?_⟩
  ·show BE fl (clb t k)+r.Cost=BE fl (clb t k++r.Cells);rw[KA _ _ _ hl,h1]
  ·rw[e1]at hs;cases hs;obtain⟨p,s',p1,p2,p3,p4⟩:=h2 s1 e3;refine⟨(k:Int)::p,s',⟨by rw[e4],by rw[e4];exact p1⟩,p2,?_,?_⟩
   ·rw[EQ,p3,Vt,WM ht hk];rfl
   ·rw[Kd,p4];rfl
theorem Vu {t:Aa} (ht:TbK t):∀ {p:List Int} {s s':Ae} {i:Nat} {fl:List AD},(AB t)[i]?=some s->Kb t s p s'->A2 t s'=true->(cellsOf t p).length=fl.length->Rdg t i fl ⟨BE fl (ofI (cellsOf t p)),Kc t p,ofI (cellsOf t p)⟩
 | [],s,s',i,fl,hi,hgo,ha,hl=>by
  unfold Kb at hgo;subst hgo;have:fl=[]:=List.eq_nil_of_length_eq_zero (by simpa [cellsOf]using hl.symm);subst this;exact .nil i s hi ha
 | k::p,s,s',i,fl,hi,hgo,ha,hl=>by
  obtain⟨hF,hD⟩:=Cl ht.tab;obtain⟨h1,h2⟩:=hgo;obtain⟨k0,k1⟩:=MF h1;obtain⟨kn,rfl⟩:∃ kn:Nat,k=(kn:Int):=⟨k.toNat,by omega⟩;have hm:=hD (i+1) i s (by omega) hi kn (by omega) h1;obtain⟨j,hj,hje⟩:=List.mem_iff_getElem.1 hm;have hjg:(AB t)[j]?=some (Bl t s (kn:Int)).1:=by rw[Jk9 hj,hje]
  have hE:Edge t (AB t) i kn j:=⟨s,_,hi,by omega,hjg,by rw[← h1]⟩;rw[EQ,List.length_append]at hl;have hcl:(clb t kn).length=(DB t (kn:Int)).Cells.length:=Fg t kn;have:=Vu ht (fl:=fl.drop (clb t kn).length) hjg h2 ha (by rw[List.length_drop];omega);have h3:=Rdg.arc i kn j fl _ hE (by omega) this;rw[EQ,Kd,Jem];have e:ofI (DB t (kn:Int)).Cells=clb t kn:=rfl;rw[e,KA _ _ _ (by omega)];exact h3
theorem Jen {t:Aa} (ht:TbK t) (fl:List AD) (r:Ag):Rdg t 0 fl r↔WrT t (Be r.Cells) r.Text/\r.Cells.length=fl.length/\r.Cost=BE fl r.Cells:=by
 have h0:=(Cl ht.tab).1.first;constructor
 ·intro h;obtain⟨h1,h2⟩:=JcJ ht h;obtain⟨p,s',p1,p2,p3,p4⟩:=h2 _ h0;exact⟨⟨p,s',p1,p2,p3,p4⟩,(h.len ht).1,h1⟩
 ·rintro⟨⟨p,s',p1,p2,p3,p4⟩,h1,h2⟩;have:=Vu ht (fl:=fl) h0 p1 p2 (by rw[p3,Kf];exact h1);rw[p3,p4,Vr,← h2]at this;exact this
theorem JcK {t:Aa} (ht:TbK t) {w:List Int} {x:List UInt8} (h:WrT t w x):∀ c∈w,0<=c/\c<63:=by
 obtain⟨p,s',p1,p2,rfl,rfl⟩:=h;clear p2;have key:∀ {p:List Int} {s:Ae},Kb t s p s'->∀ c∈cellsOf t p,0<=c/\c<63:=by
  intro p;induction p with
  | nil=>intro s _ c hc;simp[cellsOf]at hc
  | cons k p ih=>
   intro s hg c hc;obtain⟨h1,h2⟩:=hg;obtain⟨k0,k1⟩:=MF h1;rw[EQ]at hc;rcases List.mem_append.1 hc with hc|hc
   ·have:=(DS ht (k:=k.toNat) (by omega)).2.2.2 c;unfold cls at this;rw[Int.toNat_of_nonneg k0]at this;exact this hc
   ·exact ih h2 c hc
 exact key p1
end Go.AI
end
section
namespace Go.AI
def GO (x:Int) (k:Nat):Bool:=Ca .u8 (Ys .u8 x (k:Int)) 1==1
def Jq (f:Nat->Bool):Nat->Int
 | 0=>0
 | k+1=>Jq f k+if f k=true then 1 else 0
theorem Vv (f:Nat->Bool):∀ k:Nat,0<=Jq f k/\Jq f k<=(k:Int)
 | 0=>by simp[Jq]
 | k+1=>by
  have:=Vv f k;unfold Jq;split<;>omega
theorem QG {f g:Nat->Bool}:∀ {k:Nat},(∀ i,i<k->f i=g i)->Jq f k=Jq g k
 | 0,_=>rfl
 | k+1,h=>by
  unfold Jq;rw[QG λ i hi=>h i (by omega),h k (by omega)]
def R7 (p:Nat->Bool):Bool:=(List.range 64).all p
theorem Kg {p:Nat->Bool} (h:R7 p=true) {x:Int} (h0:0<=x) (h1:x<64):p x.toNat=true:=JkT.1 h _ (List.mem_range.2 (by omega))
theorem XI {p:Nat->Bool} (h:(List.range 6).all p=true) {k:Nat} (hk:k<6):p k=true:=JkT.1 h _ (List.mem_range.2 hk)
def U6 (x:Int):Prop:=0<=x/\x<64
theorem JcL:R7 (λ v=>CK 0 (v:Int)==some (Jq (GO (v:Int)) 6))=true:=by kernel_rfl
theorem Jeo:R7 (λ a=>R7 λ b=>decide (0<=Ur .u8 (a:Int) (b:Int))&&decide (Ur .u8 (a:Int) (b:Int)<64)&&(List.range 6).all λ k=>GO (Ur .u8 (a:Int) (b:Int)) k==(GO a k != GO b k))=true:=by kernel_rfl
theorem Jep:R7 (λ a=>R7 λ b=>decide (0<=G4 .u8 (a:Int) (b:Int))&&decide (G4 .u8 (a:Int) (b:Int)<64)&&(List.range 6).all λ k=>GO (G4 .u8 (a:Int) (b:Int)) k==(GO a k&&!GO b k))=true:=by kernel_rfl
theorem Jib {a b:Int} (ha:U6 a) (hb:U6 b):U6 (Ur .u8 a b)/\∀ k,k<6->GO (Ur .u8 a b) k=(GO a k != GO b k):=by
 have:=Kg (Kg Jeo ha.1 ha.2) hb.1 hb.2;rw[Int.toNat_of_nonneg ha.1,Int.toNat_of_nonneg hb.1]at this;simp only[Jla,decide_eq_true_eq]at this;exact⟨this.1,λ k hk=>by have:=XI this.2 hk;simpa using this⟩
theorem Jic {a b:Int} (ha:U6 a) (hb:U6 b):U6 (G4 .u8 a b)/\∀ k,k<6->GO (G4 .u8 a b) k=(GO a k&&!GO b k):=by
 have:=Kg (Kg Jep ha.1 ha.2) hb.1 hb.2;rw[Int.toNat_of_nonneg ha.1,Int.toNat_of_nonneg hb.1]at this;simp only[Jla,decide_eq_true_eq]at this;exact⟨this.1,λ k hk=>by have:=XI this.2 hk;simpa using this⟩
def R8 (f:AD):Prop:=U6 f.Up/\U6 f.Maybe
def LC (f:AD) (c:Int) (k:Nat):Bool:=!GO f.Maybe k&&(GO f.Up k != GO c k)
theorem Zj {f:AD} (hf:R8 f) {c:Int} (hc:U6 c):Lg f c=Jq (LC f c) 6:=by
 obtain⟨h1,h2⟩:=Jib hf.1 hc;obtain⟨h3,h4⟩:=Jic h1 hf.2;have h5:=Kg JcL h3.1 h3.2;rw[Int.toNat_of_nonneg h3.1]at h5;have h5:=eq_of_beq h5;unfold Lg Gv;rw[h5];show Jq _ 6=_;refine QG λ i hi=>?_;rw[h4 i hi,h2 i hi];unfold LC;cases GO f.Maybe i<;>simp
theorem Tx (n:Nat) (x:Int) (k:Nat) (hk:k<100):Kv n x ((k+1:Nat):Int)=some (GO x k):=by
 unfold Kv GO;have e:IC .i64 ((k+1:Nat):Int) 1=(k:Int):=by rw[RW (by omega) (by omega)];omega
 rw[e,CP (by simp)];rfl
theorem JcM {f:AD} (hf:R8 f) {c:Int} (hc:U6 c):Ev (λ n=>Mn n f c) (Lg f c):=by
 rw[Zj hf hc];refine Tot.ev ?_;unfold Mn;refine Tot.bind (R:=λ y=>y=Jq (LC f c) 6) ?_ λ y hy=>JkI hy;refine Tot.upto (body:=λ n (x:Int×Int)=>FH n f c x.1 x.2) 6 (λ i x=>x.2=((i+1:Nat):Int)/\x.1=Jq (LC f c) i) ?_ ?_ _ ⟨rfl,rfl⟩
 ·rintro i ⟨x,_⟩ hi ⟨rfl,hx⟩;simp only at hx;subst hx;have hr:=Vv (LC f c) i;unfold FH He;refine Tot.iteT (by simp;omega) (JkK (λ n=>Tx n _ i (by omega)) ?_);refine Tot.guard (R:=λ r=>r=GO f.Up i) (λ _=>Tot.all (λ n=>Tx n _ i (by omega)) rfl) λ r1 h1=>?_;refine Tot.guard (R:=λ r=>r=GO c i) (λ _=>Tot.all (λ n=>Tx n _ i (by omega)) rfl) λ r2 h2=>?_;have hb:(!GO f.Maybe i&&!(r1==r2))=LC f c i:=by
   unfold LC;cases e:GO f.Maybe i with
   | true=>rfl
   | false=>rw[h1 (by rw[e];rfl),h2 (by rw[e];rfl)];rfl
  rw[hb];refine Tot.ite (λ h=>JkI ⟨Bm (by omega),?_⟩) λ h=>JkI ⟨Bm (by omega),?_⟩
  ·show AX .i64 _ 1=Jq _ (i+1);rw[Lf (by omega) (by omega),Jq,if_pos h]
  ·show Jq _ i=Jq _ (i+1);rw[Jq,if_neg (by rw[h];simp)];omega
 ·rintro⟨x,_⟩ ⟨rfl,hx⟩;unfold FH;exact Tot.iteF (by simp) (JkI hx)
theorem JcN {fl:List AD} (hf:∀ f∈fl,R8 f) {w:List UInt8} (hw:∀ c∈Be w,U6 c) (hl:fl.length<=100000) (hwl:w.length=fl.length):Ev (λ n=>Mo n fl (Be w)) (BE fl w):=by
 refine Tot.ev ?_;unfold Mo;refine Tot.bind (R:=λ y=>y=BE fl w) ?_ λ y hy=>JkI hy;have hbl:=Kf w;refine Tot.upto (body:=λ n (x:Int×Int)=>FI n fl (Be w) x.1 x.2) fl.length (λ i x=>x.2=(i:Int)/\x.1=BE fl (w.take i)) ?_ ?_ _ ⟨rfl,by cases fl<;>rfl⟩
 ·rintro i ⟨x,_⟩ hi ⟨rfl,hx⟩;simp only at hx;subst hx;unfold FI;have hiw:i<w.length:=by omega
  have hg:(Be w)[i]?=some ((w[i].toNat:Nat):Int):=by unfold Be;rw[Jld,Jk9 hiw];rfl
  have hc:U6 ((w[i].toNat:Nat):Int):=hw _ (Jlb hg);have h1:=Ff fl (w.take i);have h2:=(QC fl[i] ((w[i].toNat:Nat):Int)).2;rw[List.length_take]at h1;refine Tot.iteT (by simp;omega) (Tot.bindC (Bf hi) (Tot.bindC (C6 hg) (JkJ (JcM (hf _ (JkV hi)) hc) (JkI ⟨Bm (by omega),?_⟩))));show AX .i64 _ _=_;rw[Lf (by omega) (by omega),List.take_add_one,Jk9 hiw,Option.toList_some,QE _ _ _ fl[i] (by rw[List.length_take,Nat.min_eq_left (by omega)];exact Jk9 hi)]
 ·rintro⟨x,_⟩ ⟨rfl,hx⟩;simp only at hx;subst hx;unfold FI;exact Tot.iteF (by simp) (JkI (by show _=_;rw[List.take_of_length_le (by omega)]))
theorem Jeq {l:List (C1 Int)} (hl:∀ x∈l,U8 x.a0/\U8 x.a1):Tot (λ n=>Ml n l) (λ r=>r.length<=5/\∀ f∈r,R8 f):=by
 unfold Ml;refine Tot.bind (R:=λ r=>r.length<=5/\∀ f∈r,R8 f) ?_ λ y hy=>JkI hy;refine Tot.upto (body:=λ n (x:(List AD)×Int)=>FG n l x.1 x.2) (min l.length 5) (λ i x=>x.2=(i:Int)/\x.1.length=i/\∀ f∈x.1,R8 f) ?_ ?_ _ ⟨rfl,rfl,by simp⟩
 ·rintro i ⟨x,_⟩ hi ⟨rfl,h1,h2⟩;simp only at h1 h2;unfold FG;have hil:i<l.length:=by omega
  obtain⟨u1,u2⟩:=hl _ (JkV hil);refine Tot.iteT (by simp;omega) (Tot.bindC (Bf hil) (Tot.bindC (Bf hil) (Tot.bindC (Nu (by simp;omega)) (JkI ⟨Bm (by omega),by simp[h1],λ f hf=>?_⟩))));rcases List.mem_append.1 hf with hf|hf
  ·exact h2 f hf
  ·simp only[List.mem_singleton]at hf;subst hf;exact⟨CE u1.1 (by omega),CE u2.1 (by omega)⟩
 ·rintro⟨x,_⟩ ⟨rfl,h1,h2⟩;simp only at h1 h2;unfold FG;exact Tot.iteF (by simp;omega) (JkI ⟨by show x.length<=5;omega,h2⟩)
end Go.AI
end
section
namespace Go.AI
def rds (t:Aa):Nat->Ae->List AD->Int->List Ag
 | 0,s,fl,_=>if fl.isEmpty&&A2 t s then [⟨0,[],[]⟩]else []
 | n+1,s,fl,B=>(if fl.isEmpty&&A2 t s then [⟨0,[],[]⟩]else [])++(List.range t.Rules.length).flatMap λ (k:Nat)=>
   if(Bl t s (k:Int)).2&&decide ((clb t k).length<=fl.length)&&decide (BE fl (clb t k)<=B)then
    (rds t n (Bl t s (k:Int)).1 (fl.drop (clb t k).length) (B-BE fl (clb t k))).map λ r=>⟨BE fl (clb t k)+r.Cost,prt t k++r.Text,clb t k++r.Cells⟩
   else []
theorem OM {t:Aa} (ht:TbK t):∀ (n:Nat) {i:Nat} {s:Ae} {fl:List AD} {B:Int} {r:Ag},(AB t)[i]?=some s->fl.length<=n->0<=B->(r∈rds t n s fl B↔Rdg t i fl r/\r.Cost<=B)
 | 0,i,s,fl,B,r,hi,hn,hB=>by
  have:fl=[]:=List.eq_nil_of_length_eq_zero (by omega);subst this;unfold rds;constructor
  ·intro h;split at h
   ·rename_i e;simp only[List.mem_singleton]at h;subst h;exact⟨.nil i s hi (by simpa using e),hB⟩
   ·simp at h
  ·rintro⟨h,_⟩;generalize hf:([]:List AD)=fl at h;cases h with
   | nil _ q h ha=>rw[hi]at h;cases h;rw[if_pos (by simpa using ha)];simp
   | arc _ k j _ r hE hl hr=>
    have:=(DS ht hE.choose_spec.choose_spec.2.1).1;rw[← Fg]at this;subst hf;simp at hl;rw[hl]at this;simp at this
 | n+1,i,s,fl,B,r,hi,hn,hB=>by
  obtain⟨hF,hD⟩:=Cl ht.tab;unfold rds;rw[List.mem_append,List.mem_flatMap];constructor
  ·rintro (h|⟨k,hk,h⟩)
   ·split at h
    ·rename_i e;simp only[List.mem_singleton]at h;subst h;simp only[Jla]at e;have:fl=[]:=by simpa using e.1
     subst this;exact⟨.nil i s hi e.2,hB⟩
    ·simp at h
   ·split at h
    ·rename_i e;simp only[Jla,decide_eq_true_eq]at e;obtain⟨⟨e1,e2⟩,e3⟩:=e;obtain⟨r',hr',rfl⟩:=Jk1.1 h;have hk:=List.mem_range.1 hk;have hm:=hD (i+1) i s (by omega) hi k hk e1;obtain⟨j,hj,hje⟩:=List.mem_iff_getElem.1 hm;have hjg:(AB t)[j]?=some (Bl t s (k:Int)).1:=by rw[Jk9 hj,hje]
     have h1:=(DS ht hk).1;rw[← Fg]at h1;obtain⟨h2,h3⟩:=(OM ht n hjg (by rw[List.length_drop];omega) (by omega)).1 hr';exact⟨.arc i k j fl r' ⟨s,_,hi,hk,hjg,by rw[← e1]⟩ e2 h2,by show _+_<=B;omega⟩
    ·simp at h
  ·rintro⟨h,hb⟩;cases h with
   | nil _ q h ha=>rw[hi]at h;cases h;exact .inl (by rw[if_pos (by simpa using ha)];simp)
   | arc _ k j _ r' hE hl hr=>
    right;obtain⟨s0,s1,e1,hk,e3,e4⟩:=hE;rw[hi]at e1;cases e1;have h1:=(DS ht hk).1;rw[← Fg]at h1;have h0:=(hr.len ht).2.2;simp only at hb;refine⟨k,List.mem_range.2 hk,?_⟩;rw[if_pos (by rw[e4];simp;omega),e4];exact Jk1.2 ⟨r',(OM ht n e3 (by rw[List.length_drop];omega) (by omega)).2 ⟨hr,by omega⟩,rfl⟩
def Jer (r s:Ag):Bool:=decide (r.Cost<s.Cost)||(decide (r.Cost=s.Cost)&&Op.bytesLess r.Text s.Text)
def Jid (r s:Ag):Bool:=decide (r.Cost<s.Cost)||(decide (r.Cost=s.Cost)&&!Op.bytesLess s.Cells r.Cells)
theorem Vw (r s:Ag):Jer r s=true↔klr r s:=by unfold Jer klr ltB;simp
theorem JcO (r s:Ag):Jid r s=true↔le2 r s:=by unfold Jid le2 ltB;simp
def eqR (r s:Ag):Bool:=decide (r.Cost=s.Cost)&&r.Text==s.Text&&r.Cells==s.Cells
theorem XJ (r s:Ag):eqR r s=true↔r=s:=by
 unfold eqR;cases r;cases s;simp[and_assoc]
def Jes:List Ag->Bool
 | []=>true
 | a::l=>l.all (Jer a)&&Jes l
theorem XK:∀ {l:List Ag},Jes l=true->l.Pairwise klr
 | [],_=>.nil
 | a::l,h=>by
  unfold Jes at h;simp only[Jla,JkT]at h;exact .cons (λ b hb=>(Vw a b).1 (h.1 b hb)) (XK h.2)
def QH (E:List Ag) (M:Nat) (l:List Ag):Bool:=
 l.all (λ r=>E.any (eqR r))&&Jes l&&l.all (λ r=>l.all λ s=>!(r.Text==s.Text)||eqR r s) &&
 E.all (λ r=>l.any (λ s=>s.Text==r.Text&&Jid s r)||(decide (l.length=M)&&l.all λ s=>Jer s r))&&decide (l.length<=M)
theorem Tz {t:Aa} (ht:TbK t) {fl:List AD} {B:Int} (hB:0<=B) {M:Nat} {l:List Ag} (h:QH (rds t fl.length B5 fl B) M l=true):Bst (Rdg t 0 fl) B M l:=by
 have h0:=(Cl ht.tab).1.first;have hm:∀ r,r∈rds t fl.length B5 fl B↔Rdg t 0 fl r/\r.Cost<=B:=λ r=>OM ht _ h0 (JkY _) hB;unfold QH at h;simp only[Jla,JkT,decide_eq_true_eq]at h;obtain⟨⟨⟨⟨h1,h2⟩,h3⟩,h4⟩,h5⟩:=h;refine⟨λ r hr=>?_,XK h2,λ r hr s hs e=>?_,λ r hr hb=>?_,h5⟩
 ·obtain⟨x,hx,e⟩:=List.any_eq_true.1 (h1 r hr);rw[(XJ _ _).1 e];exact(hm x).1 hx
 ·have:=h3 r hr s hs;rw[e]at this;exact(XJ _ _).1 (by simpa using this)
 ·have:=h4 r ((hm r).2 ⟨hr,hb⟩);simp only[Jls,Jla,decide_eq_true_eq,List.any_eq_true,JkT]at this;rcases this with⟨s,hs,e1,e2⟩|⟨e1,e2⟩
  ·exact .inl ⟨s,hs,by simpa using e1,(JcO _ _).1 e2⟩
  ·exact .inr ⟨e1,λ s hs=>(Vw _ _).1 (e2 s hs)⟩
end Go.AI
end
section
namespace Go.AI
theorem JcP (a b:AZ) (ha:a.Cells.length<9223372036854775807):Ev (λ n=>Mj n a b) (decide (a=b)):=by
 refine Tot.ev ?_;unfold Mj;refine Tot.guard (R:=λ r=>r=decide (a.Cells=b.Cells)) (λ _=>(MB a.Cells b.Cells ha).tot rfl) λ r hr=>JkI ?_;cases a with
 | mk t1 c1 k1=>cases b with
  | mk t2 c2 k2=>
   simp only[AZ.mk.injEq]at hr⊢;cases h:(t1==t2)&&(k1==k2)with
   | false=>
    simp only[Bool.false_and];symm;rw[decide_eq_false_iff_not];rintro⟨rfl,rfl,rfl⟩;simp at h
   | true=>
    rw[hr h];simp only[Jla,beq_iff_eq]at h;obtain⟨rfl,rfl⟩:=h;simp
theorem Kh (a b:List AZ) (ha:∀ g∈a,g.Cells.length<9223372036854775807) (hl:a.length<=1000000000):Ev (λ n=>Em n a b) (decide (a=b)):=by
 refine Tot.ev ?_;unfold Em;refine Tot.ite (λ h=>JkI ?_) λ h=>?_
 ·symm;rw[decide_eq_false_iff_not];rintro rfl;simp at h
 have hlen:a.length=b.length:=by simp at h;omega
 refine Tot.bind (R:=λ y=>(y=.inl ()/\a=b)\/(y=.inr false/\a≠b)) ?_ ?_
 ·refine Tot.upto (body:=λ n x=>Dx n a b x) a.length (λ i x=>x=(i:Int)/\a.take i=b.take i) ?_ ?_ _ ⟨rfl,rfl⟩
  ·rintro i x hi ⟨rfl,hx⟩;unfold Dx;have hb:i<b.length:=by omega
   refine Tot.iteT (GM hi) (Tot.bindC (Bf hi) (Tot.bindC (Bf hb) (JkJ (JcP _ _ (ha _ (JkV hi))) (Tot.ite (λ h=>?_) λ h=>?_))))
   ·refine JkI (.inr ⟨rfl,λ e=>?_⟩);subst e;simp at h
   ·refine JkI ⟨Bm (by omega),?_⟩;have:a[i]=b[i]:=by simpa using h
    rw[List.take_add_one,List.take_add_one,hx,Jk9 hi,Jk9 hb,this]
  ·rintro x ⟨rfl,hx⟩;unfold Dx;refine Tot.iteF (Jf _) (JkI (.inl ⟨rfl,?_⟩));rw[List.take_length,hlen,List.take_length]at hx;exact hx
 ·rintro y (⟨rfl,h⟩|⟨rfl,h⟩)
  ·exact JkI (by simp[h])
  ·exact JkI (by simp[h])
theorem MM {t:Aa} (ht:TbK t) {fl:List AD} (hf:fl.length<=100000) {B:Int} (h0:0<=B) (h1:B<=100000) (l:List Ag) (h:QH (rds t fl.length B5 fl B) 17 l=true) (hl:l.length<=16):Ev (λ n=>BC n t fl B) (l.map gs,0):=by
 refine Tot.ev ((LB ht hf h0 h1).mono ?_);rintro _ ⟨l',hb,rfl⟩;rw[hb.uniq (Tz ht h0 h),if_neg (by omega)]
theorem JcQ {t:Aa} (ht:TbK t) {fl:List AD} (hf:fl.length<=100000) {B:Int} (h0:0<=B) (h1:B<=100000) (hn:((rds t fl.length B5 fl B).map (·.Text)).Nodup) (hl:17<=(rds t fl.length B5 fl B).length):Ev (λ n=>BC n t fl B) ([],2):=by
 refine Tot.ev ((LB ht hf h0 h1).mono ?_);rintro _ ⟨l,hb,rfl⟩;rw[if_pos];rcases JkZ 16 l.length with h|h
 ·exact h
 ·exfalso;have h00:=(Cl ht.tab).1.first;have:=Gg (m:=l.map (·.Text)) hn λ x hx=>by
   obtain⟨r,hr,rfl⟩:=Jk1.1 hx;obtain⟨h2,h3⟩:=(OM ht _ h00 (JkY _) h0).1 hr;obtain⟨s,hs,e,_⟩:=hb.has (by omega) h2 h3;exact Jk1.2 ⟨s,hs,e⟩
  simp only[Jk4]at this;omega
theorem JcR {t:Aa} (ht:TbK t) {fl:List AD} (hf:fl.length<=100000) {B:Int} (h0:0<=B) (h1:B<=100000) (x:Ag) (h:QH (rds t fl.length B5 fl B) 1 [x]=true):Ev (λ n=>Gx n t fl B) (gs x,true):=by
 refine Tot.ev ((Vp ht hf h0 h1).mono ?_);have hx:=Tz ht h0 h;rintro _ (⟨rfl,hb⟩|⟨y,rfl,hb⟩)
 ·cases hb.uniq hx
 ·have:=hb.uniq hx;cases this;rfl
theorem Zk {t:Aa} (ht:TbK t) {fl:List AD} (hf:fl.length<=100000) {B:Int} (h0:0<=B) (h1:B<=100000) (h:QH (rds t fl.length B5 fl B) 1 []=true):Ev (λ n=>Gx n t fl B) (⟨[],[],0⟩,false):=by
 refine Tot.ev ((Vp ht hf h0 h1).mono ?_);have hx:=Tz ht h0 h;rintro _ (⟨rfl,hb⟩|⟨y,rfl,hb⟩)
 ·rfl
 ·cases hb.uniq hx
theorem tb0:TbK (EY 0):=by
 have h:=Xt (r:=0) (by omega) (by omega);unfold OJ at h;simp only[Jla,decide_eq_true_eq,JkT]at h;obtain⟨⟨⟨⟨h1,h2⟩,h3⟩,h4⟩,h5⟩:=h;exact⟨⟨by omega,λ r hr=>Qp (h2 r hr)⟩,h5,Vf (by omega) (by omega)⟩
def ndT:List (List UInt8)->Bool
 | []=>true
 | a::l=>l.all (λ b=>!(a==b))&&ndT l
theorem JcS:∀ {l:List (List UInt8)},ndT l=true->l.Nodup
 | [],_=>List.nodup_nil
 | a::l,h=>by
  unfold ndT at h;simp only[Jla,JkT]at h;exact List.nodup_cons.2 ⟨λ hm=>by have:=h.1 a hm;simp at this,JcS h.2⟩
def fl5:List AD:=List.replicate 5 ⟨1,2⟩
theorem Jet:ndT ((rds (EY 0) fl5.length B5 fl5 0).map (·.Text))=true:=by kernel_rfl
def JjQ (l:List Ag):Bool:=Nat.ble 17 l.length
theorem Jeu {l:List Ag} (h:JjQ l=true):17<=l.length:=Jlo h
theorem Jev:JjQ (rds (EY 0) fl5.length B5 fl5 0)=true:=by kernel_rfl
theorem ex1:QH (rds (EY 0) 1 B5 [⟨3,0⟩] 0) 17 [⟨0,[98],[3]⟩]=true:=by kernel_rfl
theorem ex2:QH (rds (EY 0) 1 B5 [⟨3,0⟩] 1) 17 [⟨0,[98],[3]⟩,⟨1,[97],[1]⟩]=true:=by kernel_rfl
theorem ex3:QH (rds (EY 0) 1 B5 [⟨1,10⟩] 0) 17 [⟨0,[97],[1]⟩,⟨0,[98],[3]⟩,⟨0,[99],[9]⟩]=true:=by kernel_rfl
theorem ex4:QH (rds (EY 0) fl5.length B5 fl5 0) 1 [⟨0,[97,97,97,97,97],[1,1,1,1,1]⟩]=true:=by kernel_rfl
theorem ex5:QH (rds (EY 0) 1 B5 [⟨62,0⟩] 0) 1 []=true:=by kernel_rfl
theorem ex6:QH (rds (EY 0) 0 B5 [] 3) 17 [⟨0,[],[]⟩]=true:=by kernel_rfl
theorem WN:Ev (λ n=>IJ n) true:=by
 refine Tot.ev ?_;have e0:Bj 0 8=0:=by decide
 have hb:∀ n,FC n 0=some (EY 0):=λ n=>by
  have:=(MD n 0 (by omega)).1;rw[e0]at this;exact this
 unfold IJ;refine JkK hb (Tot.bind (R:=λ y=>y=fl5) ?_ ?_)
 ·refine Tot.upto (body:=λ n (x:(List AD)×Int)=>DW n (EY 0) x.1 x.2) 5 (λ i x=>x.2=(i:Int)/\x.1=List.replicate i ⟨1,2⟩) ?_ ?_ _ ⟨rfl,rfl⟩
  ·rintro i ⟨x,_⟩ hi ⟨rfl,hx⟩;simp only at hx;subst hx;unfold DW;refine Tot.iteT (by simp;omega) (Tot.bindC (Nu (by simp;omega)) (JkI ⟨Bm (by omega),?_⟩));show _=_;rw[List.replicate_succ']
  ·rintro⟨x,_⟩ ⟨rfl,hx⟩;unfold DW;exact Tot.iteF (by simp) (JkI hx)
 ·rintro _ rfl;refine JkJ (MM tb0 (by simp) (by omega) (by omega) _ ex1 (by simp)) ?_;refine JkJ (MM tb0 (by simp) (by omega) (by omega) _ ex2 (by simp)) ?_;refine JkJ (MM tb0 (by simp) (by omega) (by omega) _ ex3 (by simp)) ?_;refine JkJ (JcQ tb0 (by simp[fl5]) (by omega) (by omega) (JcS Jet) (Jeu Jev)) ?_;refine JkK (λ n=>Vq n _ _ (by omega)) ?_;refine JkJ (JcR tb0 (by simp[fl5]) (by omega) (by omega) _ ex4) ?_;refine JkJ (Zk tb0 (by simp) (by omega) (by omega) ex5) ?_;refine JkJ (MM tb0 (by simp) (by omega) (by omega) _ ex6 (by simp)) ?_;refine JkL rfl (Kh _ _ (by simp[gs,Be]) (by simp)) ?_;refine JkL (by decide) (Kh _ _ (by simp[gs,Be]) (by simp)) ?_;refine JkL (by decide) (Kh _ _ (by simp[gs,Be]) (by simp)) ?_;exact JkI (by decide)
end Go.AI
end
section
namespace Go.AI
theorem Jew {t:Aa} (ht:TbK t) {w:List Int} (hw:w.length<=5):Tot (λ n=>OF n t w) (λ r=>Ig r/\r.length<=161051/\∀ x,x∈r↔WrT t w x):=by
 unfold OF;refine JkK (y:=[⟨B5,-1,0,[]⟩]) (λ n=>rfl) (Tot.bind (R:=λ y=>LOK t w y/\y.length<=161051) ?_ ?_)
 ·refine Tot.upto (body:=λ n (x:(List Af)×Int)=>Gy n t w x.1 x.2) w.length (λ i x=>x.2=(i:Int)/\LOK t (w.take i) x.1/\x.1.length<=11 ^ i) ?_ ?_ _ ⟨rfl,Jcv ht,by simp⟩
  ·rintro i ⟨x,_⟩ hi ⟨rfl,h1,h2⟩;simp only at h1 h2;unfold Gy;have h3:11 ^ i<=11 ^ 4:=Nat.pow_le_pow_right (by omega) (by omega);refine Tot.iteT (GM hi) (Tot.bindC (Bf hi) (Tot.bind (Jcw ht (by rw[List.length_take];omega) h1 (by omega) _) ?_));rintro r ⟨h4,h5⟩;refine JkI ⟨Bm (by omega),?_,?_⟩
   ·rw[List.take_add_one,Jk9 hi];exact h4
   ·show r.length<=_;rw[Nat.pow_succ];omega
  ·rintro⟨x,_⟩ ⟨rfl,h1,h2⟩;simp only at h1 h2;unfold Gy;have h3:11 ^ w.length<=11 ^ 5:=Nat.pow_le_pow_right (by omega) (by omega);rw[List.take_length]at h1;exact Tot.iteF (Jf _) (JkI ⟨h1,by show x.length<=_;omega⟩)
 ·rintro y ⟨h1,h2⟩;exact Tot.bind (Zd ht h1 (by omega)) λ r hr=>JkI ⟨hr.1,by have:=hr.2.1;omega,hr.2.2⟩
theorem XL {l:List Ag} {i:Nat} (h:i<l.length):idx (l.map gs) (i:Int)=some (gs l[i]):=C6 (by rw[Jld,Jk9 h];rfl)
theorem JjR {b:Int} (h:U8 b):IntKind.i64.wrap (Bj b 7)=Bj b 7/\0<=Bj b 7/\Bj b 7<7:=by
 have:=CE (m:=7) h.1 (by omega);exact⟨w64 (by omega) (by omega),this⟩
theorem Zl {x:Ji} (hx:ME x) {p:List (C1 Int)} (hp:∀ y∈p,U8 y.a0/\U8 y.a1) {b:Int} (hb:U8 b):Ev (λ n=>Ea n x p b) true:=by
 refine Tot.ev ?_;obtain⟨t,ht,he⟩:=Jcu hx;obtain⟨b1,b2,b3⟩:=JjR hb;unfold Ea;rw[b1];generalize hB:Bj b 7=B at b2 b3;refine JkJ WN (JkJ he (Tot.bind (Jeq hp) ?_));rintro fl ⟨hf5,hfk⟩;refine Tot.bind (LB ht.tk (by omega) b2 (by omega)) ?_;rintro _ ⟨l,hl,rfl⟩;by_cases hbig:l.length>16
 ·rw[if_pos hbig];exact Tot.iteT rfl (JkI rfl)
 rw[if_neg hbig];refine Tot.iteF rfl (Tot.iteF (by simp;omega) (Tot.bind (R:=λ y=>y=.inl ()) ?_ ?_))
 ·refine Tot.upto (body:=λ n x=>Cs n b true t fl (l.map gs,0) x) l.length (λ i x=>x=(i:Int)) ?_ ?_ _ rfl
  ·rintro i _ hi rfl;unfold Cs;rw[b1,hB];obtain⟨h1,h2⟩:=hl.snd _ (JkV hi);obtain⟨h3,h4,h5⟩:=(Jen ht.tk fl _).1 h1;have hbl:=Kf l[i].Cells;have c0:(((List.length (gs l[i]).Cells:Nat):Int) != ((fl.length:Nat):Int))=false:=by
    show(((List.length (Be l[i].Cells):Nat):Int) != _)=false;rw[hbl,h4];simp
   have c1:decide ((gs l[i]).Cost>B)=false:=by
    show decide (l[i].Cost>B)=false;simp;omega
   refine Tot.iteT (by simp;omega) (Tot.bindC (XL hi) ?_);rw[c0,c1];refine JkL rfl (JcN (w:=l[i].Cells) hfk (λ c hc=>by have:=JcK ht.tk h3 c hc;exact⟨this.1,by omega⟩) (by omega) h4) (Tot.iteF (by rw[← h5];simp[gs]) (Tot.bind (Jew ht.tk (w:=Be l[i].Cells) (by omega)) ?_));rintro r ⟨_,hr1,hr2⟩;refine Tot.bind (R:=λ y=>y=true) ?_ ?_
   ·refine Tot.upto (body:=λ n (y:Bool×Int)=>Cr n b true t fl (l.map gs,0) (i:Int) (gs l[i]) r y.1 y.2) r.length (λ k y=>y.2=(k:Int)/\y.1=(r.take k).any λ z=>z==l[i].Text) ?_ ?_ _ ⟨rfl,rfl⟩
    ·rintro k ⟨y,_⟩ hk ⟨rfl,hy⟩;simp only at hy;unfold Cr;refine Tot.iteT (GM hk) (Tot.bindC (Jcq (Bf hk)) (JkI ⟨Bm (by omega),?_⟩));show _=_;rw[List.take_add_one,Jk9 hk,List.any_append,← hy];cases y with
     | true=>rfl
     | false=>simp[gs]
    ·rintro⟨y,_⟩ ⟨rfl,hy⟩;simp only at hy;unfold Cr;refine Tot.iteF (Jf _) (JkI ?_);show y=true;rw[hy,List.take_length,List.any_eq_true];exact⟨_,(hr2 _).2 h3,by simp⟩
   ·rintro _ rfl;cases i with
    | zero=>exact JkM rfl (JkM rfl (JkM rfl (Tot.iteF rfl (JkI (by show AX .i64 ((0:Nat):Int) 1=_;rw[Bm (by omega)])))))
    | succ m=>
     have e1:IC .i64 ((m+1:Nat):Int) 1=(m:Int):=by rw[RW (by omega) (by omega)];omega
     have d1:decide (((m+1:Nat):Int)>0)=true:=by first|(simp;done)|(simp;omega)
     have hm:m<l.length:=by omega
     have hk:klr l[m] l[m+1]:=List.pairwise_iff_getElem.1 hl.srt m (m+1) hm hi (by omega);rw[d1,e1];have d2:decide ((gs l[m]).Cost>(gs l[m+1]).Cost)=false:=by
      show decide (l[m].Cost>l[m+1].Cost)=false;rcases hk with hk|⟨hk,_⟩<;>simp<;>omega
     refine JkL rfl (Ev.all λ _=>XL hm) ?_;rw[d2];refine JkL rfl (Ev.all λ _=>XL hm) ?_;rcases hk with hk|⟨hk,hk2⟩
     ·have d3:((gs l[m]).Cost==(gs l[m+1]).Cost)=false:=by
       show(l[m].Cost==l[m+1].Cost)=false;simp;omega
      rw[d3];refine JkM rfl (Tot.iteF rfl (JkI (Bm (by omega))))
     ·have d3:((gs l[m]).Cost==(gs l[m+1]).Cost)=true:=by
       show(l[m].Cost==l[m+1].Cost)=true;simp;omega
      rw[d3];refine JkL rfl (Ev.all λ _=>XL hm) (Tot.iteF ?_ (JkI (Bm (by omega))));have:Op.bytesLess (gs l[m]).Text (gs l[m+1]).Text=true:=hk2;rw[this];rfl
  ·rintro _ rfl;unfold Cs;exact Tot.iteF (by simp) (JkI rfl)
 ·rintro _ rfl;exact JkI rfl
end Go.AI
end
section
namespace Go.AI
theorem HD {n:Int} (h:okI .u8 n):U8 n:=by
 unfold okI Lit.wf at h;have:IntKind.u8.min=0/\IntKind.u8.max=255:=by decide
 unfold U8;simp only[Jla,decide_eq_true_eq]at h;omega
theorem Rg {r:CD} (h:IV r):Xu r:=by
 obtain⟨a,b,c,d,e,f⟩:=h;exact⟨λ y hy=>HD (a y hy),λ y hy=>HD (b y hy),HD c,HD d,HD e,HD f⟩
theorem Zm {x:Ji} (h:Wx x):ME x:=⟨(HD h.1).1,λ r hr=>Rg (h.2.2 r hr)⟩
theorem Jex {l:List (C1 Int)} (h:∀ a∈l,(okI .u8 a.a0/\okI .u8 a.a1)):∀ y∈l,U8 y.a0/\U8 y.a1:=λ y hy=>⟨HD (h y hy).1,HD (h y hy).2⟩
theorem WO:∀ (x:Ji) (p:List (C1 Int)) (b:Int),Wx x->(∀ a∈p,(okI .u8 a.a0/\okI .u8 a.a1))->okI .u8 b->∃ n,Ea n x p b=some true:=λ _ _ _ h hp hb=>(Zl (Zm h) (Jex hp) (HD hb)).out
end Go.AI
end
section
namespace Go.Proofs.Ytlhfdeoeeenapaa
open Go.AI Go.ChangeShapes Go.WideShapes Go.ChangeAt Go.RowKit
theorem own:ownKnob Try.prog.godebug=none:=by kernel_rfl
set_option maxRecDepth 100000 in
theorem Jie (os:Os) (started:os.Started) (H:Type) (enc:TypeId×Value->H) :
  ReturnsInHanded {} Try.checked os 4 .any (Rows.doubtProvesSpec.pre6 enc Try.prog Try.f4 Rows.doubtProvesRow.domain false) (Rows.doubtProvesSpec.post enc Try.prog Try.f4 false true false false):=by
 refine returnsInHanded_of_change (C:=Try.checked) own started (by kernel_rfl) Try.func4
  (ChangeSpec.witness6 (enc:=enc) (C:=Try.checked) false ⟨#[],#[.agg #[.int .u8 0,.int .u8 0,.slice none 0 0],.slice none 0 0,.int .u8 0],[]⟩ 8 (by kernel_rfl) (by kernel_rfl) (by kernel_rfl) (by kernel_rfl)) ?_
 intro W base args ds gs before hval0 hW hcnd _;have hval:∀ (j:Nat) t v,Try.f4.params[j]?=some t->args[j]?=some v->Value.okWide Try.prog W .any base t v:=hval0;have hW':=hW;obtain⟨p,q,hA0,hV,rfl,hfz,hnd⟩:=hW;have hA:DataW.TrodAll enc Try.prog W 0 (λ _=>true) true Try.f4.params.toList args.toList ds p:=hA0;have hlt:=hA.lt;rw[Try.params4]at hA hval;obtain⟨v0,vs0,d0,ds0,p0,q0,hargs,rfl,rfl,h0,r0⟩:=trodAll_cons hA;obtain⟨v1,vs1,d1,ds1,p1,q1,rfl,rfl,rfl,h1,r1⟩:=trodAll_cons r0;obtain⟨v2,vs2,d2,ds2,p2,q2,rfl,rfl,rfl,h2,r2⟩:=trodAll_cons r1;obtain⟨rfl,rfl,rfl⟩:=trodAll_nil r2;obtain rfl:args=#[v0,v1,v2]:=by cases args;simp_all
 obtain⟨rfl,rfl⟩:=trodVars_none hV;obtain⟨cs0,hc0,_⟩:=okWide_struct Try.underlying24 (hval 0 24 v0 rfl rfl);obtain⟨a0,k0,rep0⟩:=Jd1 hc0 h0 Jku;obtain⟨x1,y1,z1,hc1⟩:=okWide_slice Try.underlying25 (hval 1 25 v1 rfl rfl);obtain⟨a1,k1,rep1⟩:=Xn (y:=λ a=>.sl (a.map (JP eU8))) (by rw[hc1];rfl) h1 Jkv (λ _=>rfl);obtain⟨x2,hc2⟩:=okWide_int Try.underlying5 (hval 2 5 v2 rfl rfl);obtain⟨a2,k2,rep2⟩:=Xn (y:=λ a=>.int .u8 a) (by rw[hc2];rfl) h2 rd5 (λ _=>rfl);clear hA0 hval0;simp only[List.append_nil]at hW' hlt;obtain⟨n,hn⟩:=WO a0 a1 a2 k0 k1 k2;refine(JbX (Ly hn) (Tn rep0 (Tn rep1 (Tn rep2 JhY)))).mono λ e W' ⟨he,hg,hold⟩=>?_;subst he;exact⟨_,rfl,YV (pv:=[]) hW' (λ _ _ _=>(trodAll_cons_mk (shut_bool Try.underlying4 _) trodAll_mk0)) (λ sp hsp=>trodAll_cons_mk (JbY (by kernel_rfl) (by kernel_rfl) (of_decide_eq_true (by kernel_rfl)) h0 (λ p hp=>hlt p (by simp[hp])) (λ p hp=>hsp p (by simp[hp])) hold) (trodAll_cons_mk (JbY (by kernel_rfl) (by kernel_rfl) (of_decide_eq_true (by kernel_rfl)) h1 (λ p hp=>hlt p (by simp[hp])) (λ p hp=>hsp p (by simp[hp])) hold) (trodAll_cons_mk (JbY (by kernel_rfl) (by kernel_rfl) (of_decide_eq_true (by kernel_rfl)) h2 (λ p hp=>hlt p (by simp[hp])) (λ p hp=>hsp p (by simp[hp])) hold) trodAll_mk0))) (λ _ _=>rfl) (by simp) (hg _) hold (ok_one (by kernel_rfl) rfl (okWide_bool_mk Try.underlying4 _))⟩
theorem Jkw:Rows.doubtProvesRow.holds Try.pinned (OpenSpec.ofChange Rows.doubtProvesSpec):=
 OpenClaim.holds_of_wide 4 Try.f4 rfl rfl rfl rfl rfl rfl rfl ⟨rfl,rfl,rfl,rfl,rfl⟩ rfl rfl rfl rfl rfl (by kernel_rfl) Try.func4 (by kernel_rfl)
  (of_decide_eq_true (by kernel_rfl)) (by unfold Func.isWrapper;first|(rw[if_pos (by decide +kernel)];kernel_rfl)|(rw[if_neg (by decide +kernel)];exact⟨rfl,rfl⟩))
  (λ os started H enc _=>Jie os started H enc)
theorem doubtProves_holds:Rows.DoubtProvesSaid:=Jkw
end Go.Proofs.Ytlhfdeoeeenapaa
end
