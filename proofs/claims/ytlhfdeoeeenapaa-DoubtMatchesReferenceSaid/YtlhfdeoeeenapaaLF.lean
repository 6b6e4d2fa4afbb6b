/- The theorem: the last one of this text; part 6 of 6 of its proof. It holds with no condition beyond the given statement. -/
import Derived.Test.YtlhfdeoeeenapaaLE
import Derived.KernelRfl
import Derived.Test.YtlhfdeoeeenapaaRows
section
namespace Go.AI
theorem Ev.iteT {α:Type} {c:Bool} {a b:Nat->Option α} {z:α} (h:c=true) (k:Ev a z):Ev (λ n=>if c=true then a n else b n) z:=by subst h;exact k
theorem Ev.iteF {α:Type} {c:Bool} {a b:Nat->Option α} {z:α} (h:c=false) (k:Ev b z):Ev (λ n=>if c=true then a n else b n) z:=by subst h;exact k
theorem Ev.bindC {α β:Type} {x:Option β} {y:β} {g:Nat->β->Option α} {z:α} (h:x=some y) (k:Ev (λ n=>g n y) z):Ev (λ n=>x.bind (g n)) z:=by subst h;exact k
theorem Ev.guard {α β:Type} {c:Bool} {f:Nat->Option β} {d x:β} {g:Nat->β->Option α} {z:α} (h:c=true->Ev f x) (k:Ev (λ n=>g n (if c=true then x else d)) z):Ev (λ n=>(if c=true then f n else some d).bind (g n)) z:=by
 cases c with
 | true=>exact Ev.bind (h rfl) k
 | false=>exact k
theorem Jch {α β:Type} {a:List α} {b:List β}:(((a.length:Nat):Int) != ((b.length:Nat):Int))=decide (a.length≠b.length):=by
 rw[Bool.eq_iff_iff];simp only[bne_iff_ne,ne_eq,decide_eq_true_eq];omega
theorem RY {α:Type} [DecidableEq α] [Inhabited α] (a b:List α) (h:a.length=b.length):scan a.length (λ i=>if a.getD i default=b.getD i default then none else some false)=if a=b then .inl ()else .inr false:=by
 by_cases e:a=b
 ·subst e;rw[if_pos rfl];exact Gm λ i _=>by rw[if_pos rfl]
 ·rw[if_neg e];have:∃ i,i<a.length/\a.getD i default≠b.getD i default:=by
   apply Classical.byContradiction;intro hn;refine e (List.ext_getElem h λ i h1 h2=>?_);have:=Classical.byContradiction λ hc=>hn ⟨i,h1,hc⟩;rwa[Ch h1,Ch h2]at this
  obtain⟨i,hi,hne⟩:=this;obtain⟨k,r,_,hr,hs⟩:=Gn (stop:=λ i=>if a.getD i default=b.getD i default then none else some false) hi (by rw[if_neg hne];rfl)
  rw[hs];split at hr
  ·cases hr
  ·cases hr;rfl
theorem MD (a b:List Int) (ha:a.length<9223372036854775807):Ev (λ n=>D7 n a b) (decide (a=b)):=by
 unfold D7;rw[Jch];by_cases h:a.length=b.length
 ·refine Ev.iteF (by simp[h]) ?_;refine Ev.bind (FC a.length (λ i=>if a.getD i default=b.getD i default then none else some false) (λ i hi=>Ev.all λ n=>?_) (Ev.all λ n=>?_)) ?_
  ·unfold DO;rw[if_pos (GZ hi),GP hi,GP (by omega)];simp only[Jku];by_cases e:a.getD i default=b.getD i default
   ·rw[if_neg (by simp only[bne_iff_ne,ne_eq];exact λ hh=>hh e),if_pos e,BX (by omega)]
   ·rw[if_pos (by simp only[bne_iff_ne,ne_eq];exact e),if_neg e]
  ·unfold DO;rw[if_neg (by simp)]
  ·rw[RY a b h];by_cases e:a=b
   ·rw[if_pos e,decide_eq_true e];exact Ev.const
   ·rw[if_neg e,decide_eq_false e];exact Ev.const
 ·refine Ev.iteT (by simp[h]) ?_;rw[decide_eq_false (λ e=>h (by rw[e]))];exact Ev.const
theorem U7 (a b:List Int) (ha:a.length<9223372036854775807):Ev (λ n=>Kw n a b) (decide (a=b)):=by
 unfold Kw;rw[Jch];by_cases h:a.length=b.length
 ·refine Ev.iteF (by simp[h]) ?_;refine Ev.bind (FC a.length (λ i=>if a.getD i default=b.getD i default then none else some false) (λ i hi=>Ev.all λ n=>?_) (Ev.all λ n=>?_)) ?_
  ·unfold Gg;rw[if_pos (GZ hi),GP hi,GP (by omega)];simp only[Jku];by_cases e:a.getD i default=b.getD i default
   ·rw[if_neg (by simp only[bne_iff_ne,ne_eq];exact λ hh=>hh e),if_pos e,BX (by omega)]
   ·rw[if_pos (by simp only[bne_iff_ne,ne_eq];exact e),if_neg e]
  ·unfold Gg;rw[if_neg (by simp)]
  ·rw[RY a b h];by_cases e:a=b
   ·rw[if_pos e,decide_eq_true e];exact Ev.const
   ·rw[if_neg e,decide_eq_false e];exact Ev.const
 ·refine Ev.iteT (by simp[h]) ?_;rw[decide_eq_false (λ e=>h (by rw[e]))];exact Ev.const
theorem Xl (a b:AB):decide (a=b)=(a.Print==b.Print&&decide (a.Cells=b.Cells)&&a.Left==b.Left&&a.Right==b.Right&&a.From==b.From&&a.To==b.To):=by
 rw[Bool.eq_iff_iff];cases a;cases b;simp only[decide_eq_true_eq,AB.mk.injEq,JkP,beq_iff_eq];exact⟨λ⟨h1,h2,h3,h4,h5,h6⟩=>⟨⟨⟨⟨⟨h1,h2⟩,h3⟩,h4⟩,h5⟩,h6⟩,λ⟨⟨⟨⟨⟨h1,h2⟩,h3⟩,h4⟩,h5⟩,h6⟩=>⟨h1,h2,h3,h4,h5,h6⟩⟩
theorem U9 (a b:AB) (ha:a.Cells.length<9223372036854775807):Ev (λ n=>Gi n a b) (decide (a=b)):=by
 unfold Gi;refine Ev.guard (λ _=>MD a.Cells b.Cells ha) (Ev.all λ n=>?_);rw[Xl];cases h:(a.Print==b.Print)<;>simp
theorem Jci (a b:AB) (ha:a.Cells.length<9223372036854775807):Ev (λ n=>Kx n a b) (decide (a=b)):=by
 unfold Kx;refine Ev.guard (λ _=>U7 a.Cells b.Cells ha) (Ev.all λ n=>?_);rw[Xl];cases (a.Print==b.Print)<;>cases (a.Left==b.Left)<;>cases (a.Right==b.Right)<;>cases (a.From==b.From)<;>cases (a.To==b.To)<;>simp
theorem Va (b:UInt8):(Fn (MC b)==4)=C0 b:=by
 have:∀ k:Nat,k<256->(Fn (k:Int)==4)=(Cg .u8 (k:Int) 127==32):=by decide +kernel
 exact this b.toNat b.toNat_lt
theorem Jcj {s:List UInt8} {f:UInt8->Bool}:scan s.length (λ i=>if f (s.getD i 0)then some true else none)=if s.any f then .inr true else .inl ():=by
 cases h:s.any f with
 | false=>
  rw[List.any_eq_false]at h;exact Gm λ i hi=>by rw[Ch hi,if_neg (h _ (JkA hi))]
 | true=>
  rw[List.any_eq_true]at h;obtain⟨b,hb,hf⟩:=h;obtain⟨i,hi,e⟩:=List.getElem_of_mem hb;obtain⟨k,r,_,hr,hs⟩:=Gn (stop:=λ i=>if f (s.getD i 0)then some true else none) hi (by rw[Ch hi,e,hf];rfl)
  rw[hs];split at hr
  ·cases hr;rfl
  ·cases hr
theorem Vb {s:List UInt8} (hl:s.length<9223372036854775807):Ev (λ n=>Ge n s) (s.any C0):=by
 unfold Ge;refine Ev.bind (FC s.length (λ i=>if C0 (s.getD i 0)then some true else none) (λ i hi=>Ev.all λ n=>?_) (Ev.all λ n=>?_)) ?_
 ·unfold Ei;have hg:s[i]?=some s[i]:=JkO hi;rw[if_pos (GZ hi),Kh hg,Ch hi];simp only[Jku,UY,Va];cases C0 s[i]with
  | true=>simp
  | false=>simp[BX (show i<9223372036854775807 by omega)]
 ·unfold Ei;rw[if_neg (by simp)]
 ·rw[Jcj];cases s.any C0<;>exact Ev.const
theorem YW {l:List Int} {f:Int->Bool}:scan l.length (λ i=>if f (l.getD i 0)then none else some false)=if l.all f then .inl ()else .inr false:=by
 cases h:l.all f with
 | true=>
  rw[Jky]at h;exact Gm λ i hi=>by rw[Ch hi,if_pos (h _ (JkA hi))]
 | false=>
  rw[List.all_eq_false]at h;obtain⟨b,hb,hf⟩:=h;obtain⟨i,hi,e⟩:=List.getElem_of_mem hb;obtain⟨k,r,_,hr,hs⟩:=Gn (stop:=λ i=>if f (l.getD i 0)then none else some false) hi (by rw[Ch hi,e,if_neg hf];rfl)
  rw[hs];split at hr
  ·cases hr
  ·cases hr;rfl
def Oa (c:Int):Bool:=decide (c<63)&&!(c==0)
theorem YX {r:AB} (hp:r.Print.length<9223372036854775807) (hc:r.Cells.length<9223372036854775807) (m:Int):Ev (λ n=>Kv n r m) (Cc r m):=by
 unfold Kv;by_cases g1:(((decide (((r.Print.length:Nat):Int)>4))||(decide (((r.Cells.length:Nat):Int)<1)))||(decide (((r.Cells.length:Nat):Int)>4)))=true
 ·refine Ev.iteT g1 ?_;have:Cc r m=false:=by
   rw[← JkC];intro h;simp only[Cc,JkP,decide_eq_true_eq]at h;simp only[Jk7,decide_eq_true_eq]at g1;omega
  rw[this];exact Ev.const
 ·rw[JkC]at g1;refine Ev.iteF g1 (Ev.bind (Jd7 hp) ?_);cases ha:r.Print.all Ga with
  | false=>
   refine Ev.iteT (by rw[RX ha];rfl) ?_;have:Cc r m=false:=by simp[Cc,ha]
   rw[this];exact Ev.const
  | true=>
   refine Ev.iteF (by rw[U5 ha];rfl) ?_;by_cases g2:((((decide (r.Left<1))||(decide (r.Left>63)))||(decide (r.Right<1)))||(decide (r.Right>63)))=true
   ·refine Ev.iteT g2 ?_;have:Cc r m=false:=by
     rw[← JkC];intro h;simp only[Cc,JkP,decide_eq_true_eq]at h;simp only[Jk7,decide_eq_true_eq]at g2;omega
    rw[this];exact Ev.const
   ·rw[JkC]at g2;refine Ev.iteF g2 ?_;by_cases g3:((((decide (r.From<0))||(decide (r.From>=m)))||(decide (r.To<0)))||(decide (r.To>=m)))=true
    ·refine Ev.iteT g3 ?_;have:Cc r m=false:=by
      rw[← JkC];intro h;simp only[Cc,JkP,decide_eq_true_eq]at h;simp only[Jk7,decide_eq_true_eq]at g3;omega
     rw[this];exact Ev.const
    ·rw[JkC]at g3;refine Ev.iteF g3 (Ev.bind (Vb hp) ?_);simp only[JkN,decide_eq_false_iff_not]at g1 g2 g3;have e1:Cc r m=(r.Cells.all (λ c=>decide (c<63))&&(bif r.Print.any C0 then decide (r.Print.length=1)&&decide (r.Cells.length=1)&&r.Cells.any (λ c=>c==0)else !r.Cells.any (λ c=>c==0))):=by
      unfold Cc;rw[ha];have:(true&&decide (r.Print.length<=4)&&decide (1<=r.Cells.length)&&decide (r.Cells.length<=4)&&(decide (1<=r.Left)&&decide (r.Left<=63)&&decide (1<=r.Right)&&decide (r.Right<=63)&&decide (0<=r.From)&&decide (r.From<m)&&decide (0<=r.To)&&decide (r.To<m)))=true:=by
       simp only[JkP,decide_eq_true_eq,true_and];omega
      rw[this,Bool.true_and]
     rw[e1];cases hsp:r.Print.any C0 with
     | true=>
      refine Ev.iteT rfl ?_;by_cases g4:((((r.Print.length:Nat):Int)==1)&&(((r.Cells.length:Nat):Int)==1))=true
      ·have hl:r.Print.length=1/\r.Cells.length=1:=by
        simp only[JkP,beq_iff_eq]at g4;omega
       obtain⟨c,hcell⟩:=List.length_eq_one_iff.1 hl.2;have hi:idx r.Cells 0=some c:=by rw[hcell];rfl
       simp only[g4,if_true,hi,Jku];refine Ev.all λ n=>?_;rw[hcell];simp only[hl.1,List.all_cons,List.all_nil,List.any_cons,List.any_nil,List.length_cons,List.length_nil,Bool.and_true,Bool.or_false,decide_true,Bool.true_and,cond_true];cases h0:(c==0)with
       | false=>simp
       | true=>
        have:c=0:=by simpa using h0
        subst this;rfl
      ·rw[JkC]at g4;simp only[g4,Jk0,if_false,Jku,Bool.false_and];refine Ev.all λ n=>?_;have:(decide (r.Print.length=1)&&decide (r.Cells.length=1))=false:=by
        rw[← JkC];intro h;simp only[JkP,decide_eq_true_eq]at h;rw[← JkC]at g4;apply g4;simp[h.1,h.2]
       simp[this]
     | false=>
      refine Ev.iteF rfl ?_;refine Ev.bind (FC r.Cells.length (λ i=>if Oa (r.Cells.getD i 0)then none else some false) (λ i hi=>Ev.all λ n=>?_) (Ev.all λ n=>?_)) ?_
      ·unfold Gf;rw[if_pos (GZ hi),GP hi,show r.Cells.getD i default=r.Cells.getD i 0 from rfl];generalize r.Cells.getD i 0=c;simp only[Jku,Ni];by_cases hcc:Oa c=true
       ·simp only[Oa,JkP,decide_eq_true_eq,Bool.not_eq_true',beq_eq_false_iff_ne,ne_eq]at hcc;rw[if_neg (by simp;omega),if_pos (by simp[Oa];omega),BX (by omega)]
       ·rw[if_pos (by simp[Oa]at hcc⊢;omega),if_neg hcc]
      ·unfold Gf;rw[if_neg (by simp)]
      ·rw[YW];have e2:(r.Cells.all (λ c=>decide (c<63))&&!r.Cells.any (λ c=>c==0))=r.Cells.all Oa:=by
        rw[Bool.eq_iff_iff];simp only[Oa,JkP,Jky,Bool.not_eq_true',List.any_eq_false,JkC];exact⟨λ h x hx=>⟨h.1 x hx,h.2 x hx⟩,λ h=>⟨λ x hx=>(h x hx).1,λ x hx=>(h x hx).2⟩⟩
       simp only[cond_false];rw[e2];cases r.Cells.all Oa<;>exact Ev.const
end Go.AI
end
section
namespace Go.AI
def Jck (r:AB):Prop:=r.Print.length<9223372036854775807/\r.Cells.length<9223372036854775807
def Fp (t:Ab):Prop:=t.Rules.length<9223372036854775807/\∀ r∈t.Rules,Jck r
def Vc (t:Ab) (i:Nat):Unit⊕(Int×Int):=scan i (λ k=>if t.Rules.getD k default=t.Rules.getD i default then some ((i:Int),(20:Int))else none)
def Ic (t:Ab) (i:Nat):Option (Int×Int):=if Cc (t.Rules.getD i default) t.Modes=true then(match Vc t i with | .inl _=>none | .inr p=>some p)else some ((i:Int),20)
def Vd (t:Ab):Bool:=decide (t.Modes<1)||decide (t.Modes>8)||(t.Accept==0)||decide (IntKind.i64.wrap t.Accept>=PB .i64 1 t.Modes)||decide (((t.Rules.length:Nat):Int)<1)||decide (((t.Rules.length:Nat):Int)>64)
def Nw (t:Ab):Int×Int:=if Vd t=true then(-1,1)else match scan t.Rules.length (Ic t)with
 | .inl _=>(0,0)
 | .inr p=>p
theorem Fp.get {t:Ab} (h:Fp t) {i:Nat} (hi:i<t.Rules.length):Jck (t.Rules.getD i default):=by
 rw[Ch hi];exact h.2 _ (JkA hi)
theorem YY {t:Ab} (ht:Fp t) {i:Nat} (hi:i<t.Rules.length):Ev (λ n=>whl (λ (x:Int)=>EX n t (i:Int) x) n 0) (Vc t i):=by
 refine FC i _ (λ k hk=>?_) (Ev.all λ n=>?_)
 ·unfold EX;refine Ev.iteT (by simpa using hk) (Ev.bindC (GP (by omega)) (Ev.bindC (GP hi) (Ev.bind (U9 _ _ (ht.get (by omega)).2) (Ev.all λ n=>?_))));by_cases e:t.Rules.getD k default=t.Rules.getD i default
  ·rw[if_pos (decide_eq_true e),if_pos e]
  ·rw[if_neg (by simpa using e),if_neg e,BX (by have:=ht.1;omega)]
 ·unfold EX;rw[if_neg (by simp)]
theorem WB {t:Ab} (ht:Fp t) {i:Nat} (hi:i<t.Rules.length):Ev (λ n=>whl (λ (x:Int)=>ES n t (i:Int) (t.Rules.getD i default) (t.Rules.take i) x) n 0) (Vc t i):=by
 refine FC i _ (λ k hk=>?_) (Ev.all λ n=>?_)
 ·unfold ES;have hk':k<(t.Rules.take i).length:=by rw[List.length_take];omega
  have hg:(t.Rules.take i).getD k default=t.Rules.getD k default:=by rw[Ch hk',Ch (by omega),List.getElem_take]
  refine Ev.iteT (GZ hk') (Ev.bindC (GP hk') ?_);rw[hg];refine Ev.bind (Jci _ _ (ht.get (by omega)).2) (Ev.all λ n=>?_);by_cases e:t.Rules.getD k default=t.Rules.getD i default
  ·rw[if_pos (decide_eq_true e),if_pos e]
  ·rw[if_neg (by simpa using e),if_neg e,BX (by have:=ht.1;omega)]
 ·unfold ES;rw[if_neg (by simp;omega)]
theorem YZ {t:Ab} (ht:Fp t):Ev (λ n=>whl (λ (x:Int)=>EY n t x) n 0) (scan t.Rules.length (Ic t)):=by
 refine FC _ _ (λ i hi=>?_) (Ev.all λ n=>?_)
 ·unfold EY;refine Ev.iteT (GZ hi) (Ev.bindC (GP hi) (Ev.bind (Jcg (ht.get hi).1 (ht.get hi).2 t.Modes) ?_));unfold Ic;cases Cc (t.Rules.getD i default) t.Modes with
  | false=>exact Ev.iteT rfl Ev.const
  | true=>
   refine Ev.iteF rfl (Ev.bind (YY ht hi) ?_);cases Vc t i with
   | inl u=>refine Ev.all λ n=>?_;simp[BX (show i<9223372036854775807 by have:=ht.1;omega)]
   | inr p=>exact Ev.const
 ·unfold EY;rw[if_neg (by simp)]
theorem WC {t:Ab} (ht:Fp t):Ev (λ n=>whl (λ (x:Int)=>ET n t x) n 0) (scan t.Rules.length (Ic t)):=by
 refine FC _ _ (λ i hi=>?_) (Ev.all λ n=>?_)
 ·unfold ET;refine Ev.iteT (GZ hi) (Ev.bindC (GP hi) (Ev.bind (YX (ht.get hi).1 (ht.get hi).2 t.Modes) ?_));unfold Ic;cases Cc (t.Rules.getD i default) t.Modes with
  | false=>exact Ev.iteT rfl Ev.const
  | true=>
   refine Ev.iteF rfl (Ev.bindC (Tn (by omega)) (Ev.bind (WB ht hi) ?_));cases Vc t i with
   | inl u=>refine Ev.all λ n=>?_;simp[BX (show i<9223372036854775807 by have:=ht.1;omega)]
   | inr p=>exact Ev.const
 ·unfold ET;rw[if_neg (by simp)]
theorem Jcl {t:Ab} (ht:Fp t):Ev (λ n=>KB n t) (Nw t):=by
 unfold KB Nw;refine Ev.bindC (y:=()) ?_ ?_
 ·split
  ·rename_i h;simp only[Bool.not_eq_true',JkN,decide_eq_false_iff_not]at h;exact CZ (by simp;omega)
  ·rfl
 ·show Ev (λ n=>if Vd t=true then _ else _) _
  cases Vd t with
  | true=>exact Ev.iteT rfl Ev.const
  | false=>
   refine Ev.iteF rfl (Ev.bind (YZ ht) ?_);generalize scan t.Rules.length _=z;cases z<;>exact Ev.const
theorem Y0 {t:Ab} (ht:Fp t):Ev (λ n=>Ky n t) (Nw t):=by
 unfold Ky Nw Vd;cases h1:((decide (t.Modes<1))||(decide (t.Modes>8)))with
 | true=>exact Ev.iteT rfl (by simp only[Bool.true_or,if_true];exact Ev.const)
 | false=>
  refine Ev.iteF rfl (Ev.bindC (y:=()) ?_ ?_)
  ·split
   ·simp only[JkN,decide_eq_false_iff_not]at h1;exact CZ (by simp;omega)
   ·rfl
  ·simp only[Bool.false_or];cases h2:((t.Accept==0)||(decide (IntKind.i64.wrap t.Accept>=PB .i64 1 t.Modes)))with
   | true=>exact Ev.iteT rfl (by simp only[Bool.true_or,if_true];exact Ev.const)
   | false=>
    refine Ev.iteF rfl ?_;simp only[Bool.false_or];cases h3:((decide (((t.Rules.length:Nat):Int)<1))||(decide (((t.Rules.length:Nat):Int)>64)))with
    | true=>exact Ev.iteT rfl (by simp only[if_true];exact Ev.const)
    | false=>
     refine Ev.iteF rfl (Ev.bind (WC ht) ?_);simp only[Jk0,if_false];generalize scan t.Rules.length _=z;cases z<;>exact Ev.const
def D2 (t:Ab):Bool:=!Vd t&&t.Rules.all (λ r=>Cc r t.Modes)&&decide t.Rules.Nodup
theorem ME (t:Ab):((Nw t).2==0)=D2 t:=by
 unfold Nw D2;cases Vd t with
 | true=>rfl
 | false=>
  simp only[Jk0,if_false,Bool.not_false,Bool.true_and];have h20:∀ i p,Ic t i=some p->p.2=20:=by
   intro i p h;unfold Ic at h;split at h
   ·split at h
    ·cases h
    ·rename_i q hq;cases h;unfold Vc scan at hq;split at hq
     ·rename_i r hr;cases hq;obtain⟨k,_,hk⟩:=List.exists_of_findSome?_eq_some hr;split at hk
      ·cases hk;rfl
      ·cases hk
     ·cases hq
   ·cases h;rfl
  have hiff:(∀ i,i<t.Rules.length->Ic t i=none)↔(t.Rules.all (λ r=>Cc r t.Modes)&&decide t.Rules.Nodup)=true:=by
   simp only[JkP,Jky,decide_eq_true_eq];constructor
   ·intro h;have hs:∀ i,i<t.Rules.length->Cc (t.Rules.getD i default) t.Modes=true:=by
     intro i hi;have:=h i hi;unfold Ic at this;split at this
     ·assumption
     ·cases this
    refine⟨λ r hr=>?_,?_⟩
    ·obtain⟨i,hi,e⟩:=List.getElem_of_mem hr;have:=hs i hi;rwa[Ch hi,e]at this
    ·rw[List.Nodup,List.pairwise_iff_getElem];intro k i hk hi hlt e;have h0:=h i hi;unfold Ic at h0;rw[if_pos (hs i hi)]at h0;obtain⟨_,r,_,_,hsc⟩:=Gn (N:=i) (stop:=λ k=>if t.Rules.getD k default=t.Rules.getD i default then some ((i:Int),(20:Int))else none) hlt (by rw[Ch hk,Ch hi,if_pos e];rfl)
     unfold Vc at h0;rw[hsc]at h0;cases h0
   ·rintro⟨h1,h2⟩ i hi;unfold Ic;rw[if_pos (by rw[Ch hi];exact h1 _ (JkA hi))];have:Vc t i=.inl ():=Gm λ k hk=>by
     rw[Ch (show k<t.Rules.length by omega),Ch hi,if_neg];rw[List.Nodup,List.pairwise_iff_getElem]at h2;exact h2 k i (by omega) hi hk
    rw[this]
  cases hv:(t.Rules.all (λ r=>Cc r t.Modes)&&decide t.Rules.Nodup)with
  | true=>rw[Gm (hiff.2 hv)];rfl
  | false=>
   have:¬∀ i,i<t.Rules.length->Ic t i=none:=λ h=>by rw[hiff.1 h]at hv;cases hv
   have:∃ i,i<t.Rules.length/\Ic t i≠none:=Classical.byContradiction λ hn=>this λ i hi=>Classical.byContradiction λ hc=>hn ⟨i,hi,hc⟩;obtain⟨i,hi,hne⟩:=this;obtain⟨k,r,_,hr,hs⟩:=Gn hi (Option.isSome_iff_ne_none.2 hne);rw[hs];show(r.2==0)=false;rw[h20 k r hr];rfl
theorem Jcm {t:Ab} (ht:Fp t):Ev (λ n=>Nm n t) (D2 t):=by
 rw[← ME];exact Ev.bind (Jcl ht) Ev.const
theorem Y1 {t:Ab} (ht:Fp t):Ev (λ n=>Nj n t) (D2 t):=by
 rw[← ME];exact Ev.bind (Y0 ht) Ev.const
theorem WD {t:Ab} {l:List AB} (h:D2 t=true) (hl:l.Sublist t.Rules) (h1:1<=l.length):D2 ⟨t.Modes,t.Accept,l⟩=true:=by
 unfold D2 Vd at h⊢;simp only[JkP,Bool.not_eq_true',JkN,decide_eq_false_iff_not,Jky,decide_eq_true_eq]at h⊢;have hle:=hl.length_le;exact⟨⟨⟨⟨h.1.1.1.1,by omega⟩,by omega⟩,λ r hr=>h.1.2 r (hl.subset hr)⟩,hl.nodup h.2⟩
theorem IY {t:Ab} (h:D2 t=true):∀ r∈t.Rules,Cc r t.Modes=true:=by
 unfold D2 at h;simp only[JkP,Jky]at h;exact h.1.2
end Go.AI
end
section
namespace Go.AI
def Fa (r:Int):Ab:=(FN 0 r).getD default
theorem MF (n:Nat) (k:Int) (h0:0<=k):FN n k=some (Fa (Bo k 8))/\0<=Bo k 8/\Bo k 8<8:=by
 have e:Bo k 8=k % 8:=by unfold Bo;rw[Int.tmod_eq_emod_of_nonneg h0]
 have hr:Bo k 8=0\/Bo k 8=1\/Bo k 8=2\/Bo k 8=3\/Bo k 8=4\/Bo k 8=5\/Bo k 8=6\/Bo k 8=7:=by rw[e];omega
 rcases hr with h|h|h|h|h|h|h|h
 all_goals
  refine⟨?_,by omega,by omega⟩;unfold FN;rw[h];rfl
def Tp (r:AB):Bool:=decide (0<=r.To)&&decide (r.To<2)&&decide (0<=r.Right)&&decide (r.Right<=63)&&decide (r.Print.length<=3)
theorem Qp {r:AB} (h:Tp r=true):LC r:=by
 simp only[Tp,JkP,decide_eq_true_eq]at h;obtain⟨⟨⟨⟨h1,h2⟩,h3⟩,h4⟩,h5⟩:=h;exact⟨h1,h2,h3,h4,h5⟩
def OJ (t:Ab):Bool:=decide (t.Rules.length<=8)&&t.Rules.all Tp&&decide (1<=t.Modes)&&decide (t.Modes<=2)&&D2 t
theorem Xm {r:Int} (h:0<=r) (h':r<8):OJ (Fa r)=true:=by
 have:∀ k:Nat,k<8->OJ (Fa (k:Int))=true:=by decide +kernel
 have e:=this r.toNat (by omega);rwa[Int.toNat_of_nonneg h]at e
def U8 (n:Int):Prop:=0<=n/\n<256
def Xn (x:CI):Prop:=(∀ a∈x.P,U8 a)/\(∀ a∈x.C,U8 a)/\U8 x.L/\U8 x.R/\U8 x.W.a0/\U8 x.W.a1
theorem De {a m:Int} (h:0<=a) (hm:0<m):0<=Bo a m/\Bo a m<m:=(RW h hm).2
theorem Nx {α:Type} {l:List α} {i:Int} (h:0<=i) (h':i<l.length):∃ x,x∈l/\idx l i=some x:=by
 have hl:i.toNat<l.length:=by omega
 refine⟨l[i.toNat],JkA hl,?_⟩;unfold idx;rw[if_pos h];exact JkO hl
theorem Jd8 {α:Type} {l:List α} {i:Int} (h:0<=i) (h':i<l.length):∃ z,z.length=1/\sub l i (i+1)=some z:=by
 refine⟨(l.take (i+1).toNat).drop i.toNat,?_,?_⟩
 ·simp;omega
 ·unfold sub;rw[if_pos (by omega)]
def Xo (a b:AB):Prop:=a.Left=b.Left/\a.Right=b.Right/\a.From=b.From/\a.To=b.To
theorem Jcn (x:CI) (hx:∀ a∈x.P,U8 a) (r0:AB) (h0:r0.Print=[]):Tot (λ n=>whl (λ (y:(AB×Int))=>Ey n x y.1 y.2) n (r0,0)) (λ r=>r.Print.length<=3/\Xo r r0):=by
 refine Tot.upto (body:=λ n y=>Ey n x y.1 y.2) (min x.P.length 3) (λ i y=>y.2=(i:Int)/\y.1.Print.length=i/\Xo y.1 r0) ?_ ?_ (r0,0) ⟨rfl,by simp[h0],rfl,rfl,rfl,rfl⟩
 ·rintro i ⟨r,i'⟩ hi ⟨h1,h2,h3⟩;simp only at h1 h2 h3;subst h1;obtain⟨c,hcm,hci⟩:=Nx (l:=x.P) (i:=(i:Int)) (by omega) (by omega);have hu:=hx c hcm;have hr:=De (m:=9) hu.1 (by omega);have hw:IntKind.i64.wrap (Bo c 9)=Bo c 9:=Ql (by omega) (by omega);obtain⟨z,hz1,hz⟩:=Jd8 (l:=([97,98,99,65,66,49,50,45,46]:List UInt8)) (i:=Bo c 9) hr.1 (by simpa using hr.2);unfold Ey;refine Tot.iteT (by simp only[JkP,decide_eq_true_eq];omega) (Tot.bindC hci ?_);simp only[hw];rw[Jf (by omega) (by omega)];refine Tot.bindC hz (Tot.bindC (Tm (by omega)) (Jkl ⟨BX (by omega),by simp[h2,hz1],h3⟩))
 ·rintro⟨r,i'⟩ ⟨h1,h2,h3⟩;simp only at h1 h2 h3;subst h1;unfold Ey;exact Tot.iteF (by rw[← JkC];simp only[JkP,decide_eq_true_eq];omega) (Jkl ⟨by show r.Print.length<=3;omega,h3⟩)
theorem Jco (x:CI) (hx:∀ a∈x.C,U8 a) (r0:AB) (h0:r0.Cells.length=1):Tot (λ n=>whl (λ (y:(AB×Int))=>C4 n x y.1 y.2) n (r0,0)) (λ r=>(r.Cells.length<=3/\1<=r.Cells.length)/\r.Print=r0.Print/\Xo r r0):=by
 refine Tot.upto (body:=λ n y=>C4 n x y.1 y.2) (min x.C.length 2) (λ i y=>y.2=(i:Int)/\y.1.Cells.length=i+1/\y.1.Print=r0.Print/\Xo y.1 r0) ?_ ?_ (r0,0) ⟨rfl,by simp[h0],rfl,rfl,rfl,rfl,rfl⟩
 ·rintro i ⟨r,i'⟩ hi ⟨h1,h2,h3,h4⟩;simp only at h1 h2 h3 h4;subst h1;obtain⟨c,hcm,hci⟩:=Nx (l:=x.C) (i:=(i:Int)) (by omega) (by omega);have hu:=hx c hcm;have hr:=De (m:=8) hu.1 (by omega);obtain⟨z,_,hz⟩:=Nx (l:=([1,3,9,5,7,32,44,60]:List Int)) (i:=Bo c 8) hr.1 (by simpa using hr.2);unfold C4;refine Tot.iteT (by simp only[JkP,decide_eq_true_eq];omega) (Tot.bindC hci (Tot.bindC hz (Tot.bindC (GO (by simp;omega)) (Jkl ⟨BX (by omega),by simp[h2],h3,h4⟩))))
 ·rintro⟨r,i'⟩ ⟨h1,h2,h3,h4⟩;simp only at h1 h2 h3 h4;subst h1;unfold C4;exact Tot.iteF (by rw[← JkC];simp only[JkP,decide_eq_true_eq];omega) (Jkl ⟨by show r.Cells.length<=3/\1<=r.Cells.length;omega,h3,h4⟩)
theorem Jd9 {x:CI} (hx:Xn x) {m:Int} (hm:1<=m) (hm':m<=2):Tot (λ n=>HU n x m) (λ r=>LC r/\(r.Cells.length<=3/\1<=r.Cells.length)/\0<=r.From/\r.From<m/\0<=r.To/\r.To<m):=by
 obtain⟨hP,hC,hL,hR,hW0,hW1⟩:=hx;have l8:=De (m:=8) hL.1 (by omega);have r8:=De (m:=8) hR.1 (by omega);obtain⟨a,ham,ha⟩:=Nx (l:=([63,63,2,8,17,62,4,1]:List Int)) (i:=Bo x.L 8) l8.1 (by simpa using l8.2);obtain⟨b,hbm,hb⟩:=Nx (l:=([63,63,2,8,17,62,4,1]:List Int)) (i:=Bo x.R 8) r8.1 (by simpa using r8.2);have hq:0<=Jdj .u8 x.L 8:=by unfold Jdj;exact(UX _).1
 have q8:=De (m:=8) hq (by omega);obtain⟨c,_,hc⟩:=Nx (l:=([1,3,9,5,7,32,44,60]:List Int)) (i:=Bo (Jdj .u8 x.L 8) 8) q8.1 (by simpa using q8.2);have hg:Cj (!(m==0))=some ():=CZ (by simp;omega);have w0:IntKind.i64.wrap x.W.a0=x.W.a0:=Ql (by have:=hW0.1;omega) (by have:=hW0.2;omega);have w1:IntKind.i64.wrap x.W.a1=x.W.a1:=Ql (by have:=hW1.1;omega) (by have:=hW1.2;omega);have hfr:=De (a:=x.W.a0) (m:=m) hW0.1 (by omega);have hto:=De (a:=x.W.a1) (m:=m) hW1.1 (by omega);have hbr:0<=b/\b<=63:=by
  simp at hbm;omega
 unfold HU;refine Tot.bindC ha (Tot.bindC hb (Tot.bindC hg (Tot.bindC hg (Tot.bind (Jcn x hP _ rfl) ?_))));rintro r1 ⟨p1,p2,p3,p4,p5⟩;refine Tot.bindC hc (Tot.bind (Jco x hC _ rfl) ?_);rintro r2 ⟨q1,q2,q3,q4,q5,q6⟩;simp only at q2 q3 q4 q5 q6;rw[p3]at q4;rw[p4]at q5;rw[p5]at q6;simp only[w0,w1]at q5 q6 q4;refine Jkl ⟨⟨?_,?_,?_,?_,?_⟩,q1,?_,?_,?_,?_⟩
 all_goals first|(rw[q6];omega)|(rw[q4];omega)|(rw[q5];omega)|(rw[q2];exact p1)
def MG (x:Ji):Prop:=0<=x.Base/\∀ r∈x.More,Xn r
structure LD (t:Ab):Prop where
 tab:H9 t
 lo:1<=t.Modes
 hi:t.Modes<=2
 valid:D2 t=true
theorem LD.sound {t:Ab} (h:LD t):∀ r∈t.Rules,Cc r t.Modes=true:=IY h.valid
theorem IZ {r:AB} {m:Int} (h:Cc r m=true):r.Print.length<=4/\1<=r.Cells.length/\r.Cells.length<=4:=by
 simp only[Cc,JkP,decide_eq_true_eq]at h;omega
theorem LD.small {t:Ab} (h:LD t):Fp t:=⟨by have:=h.tab.1;omega,λ r hr=>by have:=IZ (h.sound r hr);exact⟨by omega,by omega⟩⟩
theorem Jcp (x:Ji) (b:Ab) (hb:b.Rules.length<=8):Tot (λ n=>whl (λ (y:(Ab×Int))=>C5 n x b y.1 y.2) n (({ Modes:=b.Modes,Accept:=b.Accept,Rules:=[] }:Ab),0)) (λ t=>t.Modes=b.Modes/\t.Accept=b.Accept/\t.Rules.Sublist b.Rules):=by
 refine Tot.upto (body:=λ n y=>C5 n x b y.1 y.2) b.Rules.length (λ i y=>y.2=(i:Int)/\y.1.Modes=b.Modes/\y.1.Accept=b.Accept/\y.1.Rules.Sublist (b.Rules.take i)) ?_ ?_ _ ⟨rfl,rfl,rfl,by simp⟩
 ·rintro i ⟨t,i'⟩ hi ⟨h1,h2,h3,h4⟩;simp only at h1 h2 h3 h4;subst h1;have ht:b.Rules.take (i+1)=b.Rules.take i++[b.Rules.getD i default]:=by rw[List.take_add_one,Ch hi,JkO hi];rfl
  have hlen:=h4.length_le;rw[List.length_take]at hlen;unfold C5;refine Tot.iteT (GZ hi) (Tot.bindC (CZ (by simp)) (Tot.ite (λ _=>Tot.bindC (GP hi) (Tot.bindC (GO (by simp;omega)) ?_)) λ _=>?_))
  ·unfold DE;exact Jkl ⟨BX (by omega),h2,h3,by rw[ht];exact h4.append (List.Sublist.refl _)⟩
  ·unfold DE;exact Jkl ⟨BX (by omega),h2,h3,by rw[ht];exact h4.trans (List.sublist_append_left _ _)⟩
 ·rintro⟨t,i'⟩ ⟨h1,h2,h3,h4⟩;simp only at h1 h2 h3 h4;subst h1;rw[List.take_length]at h4;unfold C5;exact Tot.iteF (by simp) (Jkl ⟨h2,h3,h4⟩)
structure JhJ (b t:Ab):Prop where
 modes:t.Modes=b.Modes
 accept:t.Accept=b.Accept
 rules:∀ r∈t.Rules,LC r/\r.Cells.length<=4
 valid:t.Rules=[]\/D2 t=true
theorem RZ {t:Ab} (hl:t.Rules.length<=11) (h:∀ r∈t.Rules,LC r/\r.Cells.length<=4):Fp t:=⟨by omega,λ r hr=>⟨by have:=(h r hr).1.2.2.2.2;omega,by have:=(h r hr).2;omega⟩⟩
theorem Jcq (x:Ji) (hx:∀ r∈x.More,Xn r) (b t0:Ab) (hlo:1<=b.Modes) (hhi:b.Modes<=2) (h0:JhJ b t0) (hl0:t0.Rules.length<=8):Tot (λ n=>whl (λ (y:(Ab×Int))=>C6 n x b y.1 y.2) n (t0,0)) (λ t=>JhJ b t/\t.Rules.length<=10):=by
 refine Tot.upto (body:=λ n y=>C6 n x b y.1 y.2) (min x.More.length 2) (λ i y=>y.2=(i:Int)/\JhJ b y.1/\y.1.Rules.length<=8+i) ?_ ?_ _ ⟨rfl,h0,by simpa using hl0⟩
 ·rintro i ⟨t,i'⟩ hi ⟨h1,h2,h3⟩;simp only at h1 h2 h3;subst h1;unfold C6;refine Tot.iteT (by simp only[JkP,decide_eq_true_eq];omega) (Tot.bindC (Cl (by omega)) ?_);rw[h2.modes];refine Tot.bind (Jd9 (hx _ (JkA _)) hlo hhi) ?_;rintro r ⟨hr1,hr2,-⟩;refine Tot.bindC (GO (by simp;omega)) ?_;have hall:∀ q∈t.Rules++[r],LC q/\q.Cells.length<=4:=by
   intro q hq;simp only[List.mem_append,List.mem_singleton]at hq;rcases hq with hq|rfl
   ·exact h2.rules q hq
   ·exact⟨hr1,by omega⟩
  refine Jkm (Jcm (RZ (t:=⟨b.Modes,t.Accept,t.Rules++[r]⟩) (by simp;omega) hall)) ?_;refine Tot.ite (λ _=>?_) λ hv=>?_
  ·have e:FZ .i64 ((List.length (t.Rules++[r]):Nat):Int) 1=(t.Rules.length:Nat):=by
    rw[RU (by simp<;>omega) (by simp<;>omega)];simp
   rw[e];refine Tot.bindC (Tn (by simp)) ?_;unfold DF;rw[List.take_left' rfl];exact Jkl ⟨BX (by omega),⟨rfl,h2.accept,h2.rules,by have:=h2.valid;have hm:=h2.modes;cases t;simp only at hm this⊢;subst hm;exact this⟩,by simp only;omega⟩
  ·unfold DF;exact Jkl ⟨BX (by omega),⟨rfl,h2.accept,hall,.inr (by simpa using hv)⟩,by simp;omega⟩
 ·rintro⟨t,i'⟩ ⟨h1,h2,h3⟩;simp only at h1 h2 h3;subst h1;unfold C6;exact Tot.iteF (by rw[← JkC];simp only[JkP,decide_eq_true_eq];omega) (Jkl ⟨h2,by show t.Rules.length<=10;omega⟩)
theorem Y2 {x:Ji} (hx:MG x):∃ t,(LD t/\1<=t.Rules.length/\t.Rules.length<=10)/\Ev (λ n=>FQ n x) t:=by
 have hb:∀ n,FN n x.Base=some (Fa (Bo x.Base 8)):=λ n=>(MF n x.Base hx.1).1;have hok:=Xm (MF 0 x.Base hx.1).2.1 (MF 0 x.Base hx.1).2.2;generalize Fa (Bo x.Base 8)=b at *;unfold OJ at hok;simp only[JkP,decide_eq_true_eq,Jky]at hok;obtain⟨⟨⟨⟨o1,o2⟩,o3⟩,o4⟩,o5⟩:=hok;have gb:∀ r∈b.Rules,LC r/\r.Cells.length<=4:=λ r hr=>⟨Qp (o2 r hr),(IZ (IY o5 r hr)).2.2⟩;have hne:∀ t:Ab,D2 t=true->1<=t.Rules.length:=λ t h=>by
  unfold D2 Vd at h;simp only[JkP,Bool.not_eq_true',JkN,decide_eq_false_iff_not]at h;omega
 have:Tot (λ n=>FQ n x) (λ t=>LD t/\1<=t.Rules.length/\t.Rules.length<=10):=by
  unfold FQ;refine Jkn hb (Tot.bind (Jcp x b o1) ?_);rintro t1 ⟨a1,a2,a3⟩;refine Tot.bind (Jcq x hx.2 b t1 o3 o4 ⟨a1,a2,λ r hr=>gb r (a3.subset hr),?_⟩ (by have:=a3.length_le;omega)) ?_
  ·rcases Nat.eq_zero_or_pos t1.Rules.length with h|h
   ·exact .inl (List.length_eq_zero_iff.1 h)
   ·right;have:=WD o5 a3 h;cases t1;simp only at a1 a2 this⊢;subst a1 a2;exact this
  rintro t2 ⟨b1,b2⟩;refine Tot.ite (λ h=>?_) λ h=>?_
  ·unfold Ez;have e:(⟨t2.Modes,t2.Accept,b.Rules⟩:Ab)=b:=by rw[b1.modes,b1.accept]
   rw[e];exact Jkl ⟨⟨⟨by omega,λ r hr=>(gb r hr).1⟩,o3,o4,o5⟩,hne b o5,by omega⟩
  ·unfold Ez;have hv:D2 t2=true:=b1.valid.resolve_left λ e=>by rw[e]at h;cases h
   exact Jkl ⟨⟨⟨by omega,λ r hr=>(b1.rules r hr).1⟩,by rw[b1.modes];exact o3,by rw[b1.modes];exact o4,hv⟩,hne t2 hv,b2⟩
 obtain⟨t,ht,hE⟩:=this;exact⟨t,ht,hE⟩
end Go.AI
end
section
namespace Go.AI
def Er (t:Ab) (k:Int):AB:=t.Rules[k.toNat]?.getD default
theorem Jcr {t:Ab} {s:Af} {k:Int} (h:(Bv t s k).2=true):0<=k/\k<t.Rules.length:=by
 unfold Bv at h;split at h
 ·cases h
 ·rename_i hk;simp only[Jk7,decide_eq_true_eq,not_or]at hk;omega
theorem Ve {t:Ab} {k:Int} (h:0<=k) (h':k<t.Rules.length):idx t.Rules k=some (Er t k):=Qn h h'
theorem WE {t:Ab} {k:Int} (h:0<=k) (h':k<t.Rules.length):Er t k∈t.Rules:=by
 unfold Er;rw[JkO (by omega)];exact JkA _
end Go.AI
end
section
namespace Go.AI
theorem Xp {st:List Af} (hn:st.Nodup) {i j:Nat} {s:Af} (h:st[i]?=some s) (h':st[j]?=some s):i=j:=by
 have a:=Cq hn h;rw[Cq hn h']at a;cases a;rfl
theorem Ef {i:Nat} (h:i<9223372036854775807):AZ .i64 (i:Int) 1=((i+1:Nat):Int):=by
 rw[Qm (by omega) (by omega)];rfl
end Go.AI
end
section
namespace Go.AI
def Edge (t:Ab) (st:List Af) (i:Nat) (k:Nat) (j:Nat):Prop:=∃ s s',st[i]?=some s/\k<t.Rules.length/\st[j]?=some s'/\Bv t s (k:Nat)=(s',true)
inductive Vf (t:Ab) (st:List Af):Nat->Prop
 | acc (i:Nat) (s:Af) (h:st[i]?=some s) (ha:Bk t s=true):Vf t st i
 | step (i k j:Nat) (h:Edge t st i k j) (hj:Vf t st j):Vf t st i
def Qq (t:Ab) (st:List Af) (l:List Bool):Prop:=l.length=st.length/\∀ i:Nat,l[i]?=some true↔Vf t st i
theorem Vf.lt {t:Ab} {st:List Af} {i:Nat} (h:Vf t st i):i<st.length:=by
 cases h with
 | acc _ s h ha=>exact AE h
 | step _ k j h hj=>obtain⟨s,s',h,_⟩:=h;exact AE h
theorem Qq.uniq {t:Ab} {st:List Af} {l m:List Bool} (h:Qq t st l) (h':Qq t st m):l=m:=by
 refine List.ext_getElem? λ i=>?_;rcases JkE i st.length with hi|hi
 ·have h1:i<l.length:=by rw[h.1];exact hi
  have h2:i<m.length:=by rw[h'.1];exact hi
  have e:=(h.2 i).trans (h'.2 i).symm;rw[JkO h1,JkO h2]at e⊢;cases ha:l[i]<;>cases hb:m[i]<;>simp_all
 ·rw[List.getElem?_eq_none_iff.2 (by rw[h.1];exact hi),List.getElem?_eq_none_iff.2 (by rw[h'.1];exact hi)]
theorem Qq.of {t:Ab} {st:List Af} {l:List Bool} (hl:l.length=st.length) (hs:∀ i,l[i]?=some true->Vf t st i) (ha:∀ (i:Nat) s,st[i]?=some s->Bk t s=true->l[i]?=some true) (hc:∀ i k j,Edge t st i k j->l[j]?=some true->l[i]?=some true):Qq t st l:=by
 refine⟨hl,λ i=>⟨hs i,λ h=>?_⟩⟩;induction h with
 | acc i s h h'=>exact ha i s h h'
 | step i k j h _ ih=>exact hc i k j h ih
def Jjr (l:List Bool):Nat:=l.count false
structure Jcs (t:Ab) (st:List Af) (out0 out:List Bool) (g:Bool) (i m:Nat):Prop where
 len:out.length=st.length
 snd:∀ j:Nat,out[j]?=some true->Vf t st j
 acc:∀ (j:Nat) s,st[j]?=some s->Bk t s=true->out[j]?=some true
 same:g=false->out=out0
 less:g=true->Jjr out<Jjr out0
 cl:g=false->∀ i' k j,(i'<i\/(i'=i/\k<m))->Edge t st i' k j->out[j]?=some true->out[i']?=some true
theorem Jcs.stop {t:Ab} {st:List Af} {out0 out:List Bool} {g:Bool} {i m:Nat} (h:Jcs t st out0 out g i m) (hm:t.Rules.length<=m\/out[i]?=some true):Jcs t st out0 out g (i+1) 0:=by
 refine⟨h.len,h.snd,h.acc,h.same,h.less,λ hg i' k j hi he hj=>?_⟩;rcases JkE i' i with hlt|hge
 ·exact h.cl hg i' k j (.inl hlt) he hj
 ·have:i'=i:=by omega
  subst this;rcases hm with hm|hm
  ·obtain⟨s,s',_,hk,_⟩:=id he;exact h.cl hg i' k j (.inr ⟨rfl,by omega⟩) he hj
  ·exact hm
end Go.AI
end
section
namespace Go.AI
def ldT:List UInt8->List UInt8->Int×List UInt8
 | [],[]=>(0,[])
 | a::x,[]=>(1,a::x)
 | [],b::y=>(2,b::y)
 | a::x,b::y=>if a=b then ldT x y else(3,[])
def Qr (l:Int×List UInt8) (p q:List UInt8):Int×List UInt8:=
 if l.1=1 then ldT (l.2++p) q else if l.1=2 then ldT p (l.2++q)else if l.1=3 then l else ldT p q
def swT (l:Int×List UInt8):Int×List UInt8:=if l.1=1 then(2,l.2)else if l.1=2 then(1,l.2)else l
def Vg (l:Int×List UInt8):Prop:=(l.1=0/\l.2=[])\/(l.1=1/\l.2≠[])\/(l.1=2/\l.2≠[])\/(l.1=3/\l.2=[])
theorem Jct:∀ x y,Vg (ldT x y)
 | [],[]=>.inl ⟨rfl,rfl⟩
 | a::x,[]=>.inr (.inl ⟨rfl,by simp[ldT]⟩)
 | [],b::y=>.inr (.inr (.inl ⟨rfl,by simp[ldT]⟩))
 | a::x,b::y=>by
  unfold ldT;split
  ·exact Jct x y
  ·exact .inr (.inr (.inr ⟨rfl,rfl⟩))
theorem Kj (a b:UInt8) (x y:List UInt8):ldT (a::x) (b::y)=if a=b then ldT x y else(3,[]):=rfl
theorem MH:∀ (x y p q:List UInt8),ldT (x++p) (y++q)=Qr (ldT x y) p q
 | [],[],p,q=>rfl
 | a::x,[],p,q=>rfl
 | [],b::y,p,q=>rfl
 | a::x,b::y,p,q=>by
  show ldT (a::(x++p)) (b::(y++q))=_;rw[Kj,Kj];split
  ·exact MH x y p q
  ·rfl
theorem Kk:∀ x y,ldT y x=swT (ldT x y)
 | [],[]=>rfl
 | a::x,[]=>rfl
 | [],b::y=>rfl
 | a::x,b::y=>by
  rw[Kj,Kj];by_cases h:a=b
  ·subst h;rw[if_pos rfl,if_pos rfl];exact Kk x y
  ·rw[if_neg h,if_neg (Ne.symm h)];rfl
theorem Qs:∀ {x y:List UInt8},(ldT x y).1=0↔x=y
 | [],[]=>by simp[ldT]
 | a::x,[]=>by simp[ldT]
 | [],b::y=>by simp[ldT]
 | a::x,b::y=>by
  rw[Kj];split
  ·rename_i h;subst h;rw[Qs];simp
  ·rename_i h;simp[h]
theorem Y3 {l:Int×List UInt8} (h:Vg l) (p q:List UInt8):Qr (swT l) q p=swT (Qr l p q):=by
 obtain⟨s,t⟩:=l;rcases h with⟨h1,h2⟩|⟨h1,h2⟩|⟨h1,h2⟩|⟨h1,h2⟩<;>simp only at h1 h2<;>subst h1
 ·exact Kk p q
 ·exact Kk (t++p) q
 ·exact Kk p (t++q)
 ·rfl
theorem Y4 {l m:Int×List UInt8} (hl:Vg l) (hm:Vg m) {p q:List UInt8} (h1:(Qr l p q).1=0) (h2:(Qr m p q).1=0):l=m:=by
 have key:∀ {l:Int×List UInt8},Vg l->(Qr l p q).1=0->(l.1=0/\l.2=[]/\p=q)\/(l.1=1/\l.2≠[]/\l.2++p=q)\/(l.1=2/\l.2≠[]/\p=l.2++q):=by
  intro l hl h;obtain⟨s,t⟩:=l;rcases hl with⟨e1,e2⟩|⟨e1,e2⟩|⟨e1,e2⟩|⟨e1,e2⟩<;>simp only at e1 e2<;>subst e1
  ·exact .inl ⟨rfl,e2,Qs.1 h⟩
  ·exact .inr (.inl ⟨rfl,e2,Qs.1 h⟩)
  ·exact .inr (.inr ⟨rfl,e2,Qs.1 h⟩)
  ·exact absurd (show(3:Int)=0 from h) (by decide)
 have hlen:∀ {t:List UInt8},t≠[]->0<t.length:=λ h=>List.length_pos_iff.2 h;rcases key hl h1 with⟨a1,a2,a3⟩|⟨a1,a2,a3⟩|⟨a1,a2,a3⟩<;>rcases key hm h2 with⟨b1,b2,b3⟩|⟨b1,b2,b3⟩|⟨b1,b2,b3⟩
 ·exact Prod.ext (by rw[a1,b1]) (by rw[a2,b2])
 ·have:=hlen b2;have:=congrArg List.length b3;have:=congrArg List.length a3;simp only[List.length_append]at *;omega
 ·have:=hlen b2;have:=congrArg List.length b3;have:=congrArg List.length a3;simp only[List.length_append]at *;omega
 ·have:=hlen a2;have:=congrArg List.length b3;have:=congrArg List.length a3;simp only[List.length_append]at *;omega
 ·exact Prod.ext (by rw[a1,b1]) (List.append_cancel_right (a3.trans b3.symm))
 ·have:=hlen a2;have:=hlen b2;have:=congrArg List.length b3;have:=congrArg List.length a3;simp only[List.length_append]at *;omega
 ·have:=hlen a2;have:=congrArg List.length b3;have:=congrArg List.length a3;simp only[List.length_append]at *;omega
 ·have:=hlen a2;have:=hlen b2;have:=congrArg List.length b3;have:=congrArg List.length a3;simp only[List.length_append]at *;omega
 ·exact Prod.ext (by rw[a1,b1]) (List.append_cancel_right (a3.symm.trans b3))
structure Ac where
 p:List UInt8
 c:List Int
 to:Nat
abbrev Hf:=Nat×List Int
inductive Sp (A:Nat->Ac->Prop):Hf->Int->List UInt8->Hf->Prop
 | rest (k:Nat) (c:Int) (r:List Int):Sp A (k,c::r) c [] (k,r)
 | arc {k:Nat} {a:Ac} {c:Int} {r:List Int} (h:A k a) (hc:a.c=c::r):Sp A (k,[]) c a.p (a.to,r)
inductive Rn (A:Nat->Ac->Prop):Hf->List Int->List UInt8->Hf->Prop
 | nil (h:Hf):Rn A h [] [] h
 | cons {h h' h'':Hf} {c:Int} {w:List Int} {p x:List UInt8} (h1:Sp A h c p h') (h2:Rn A h' w x h''):Rn A h (c::w) (p++x) h''
theorem Rn.one {A:Nat->Ac->Prop} {h h':Hf} {c:Int} {p:List UInt8} (s:Sp A h c p h'):Rn A h [c] p h':=by
 have:=Rn.cons s (Rn.nil (A:=A) h');rwa[List.append_nil]at this
theorem Rn.app {A:Nat->Ac->Prop} {h h' h'':Hf} {w v:List Int} {x y:List UInt8} (h1:Rn A h w x h') (h2:Rn A h' v y h''):Rn A h (w++v) (x++y) h'':=by
 induction h1 with
 | nil h=>exact h2
 | cons s _ ih=>have:=Rn.cons s (ih h2);rwa[← List.append_assoc]at this
theorem Rn.inv {A:Nat->Ac->Prop} {h h':Hf} {x:List UInt8} {c:Int} {w:List Int} (H:Rn A h (c::w) x h'):∃ h1 p y,Sp A h c p h1/\Rn A h1 w y h'/\x=p++y:=by
 cases H with
 | cons s r=>exact⟨_,_,_,s,r,rfl⟩
theorem Rn.inv0 {A:Nat->Ac->Prop} {h h':Hf} {x:List UInt8} (H:Rn A h [] x h'):h'=h/\x=[]:=by
 cases H;exact⟨rfl,rfl⟩
def En (A:Nat->Ac->Prop) (acc:Nat->Prop) (h:Hf) (w:List Int) (x:List UInt8):Prop:=∃ k,Rn A h w x (k,[])/\acc k
def Amb (A:Nat->Ac->Prop) (acc:Nat->Prop) (w:List Int):Prop:=∃ x y,x≠y/\En A acc (0,[]) w x/\En A acc (0,[]) w y
def Rch (A:Nat->Ac->Prop) (w:List Int) (a b:Hf) (l:Int×List UInt8):Prop:=∃ x y,Rn A (0,[]) w x a/\Rn A (0,[]) w y b/\ldT x y=l
theorem Rch.ok {A:Nat->Ac->Prop} {w:List Int} {a b:Hf} {l:Int×List UInt8} (h:Rch A w a b l):Vg l:=by obtain⟨x,y,_,_,rfl⟩:=h;exact Jct x y
theorem Rch.swap {A:Nat->Ac->Prop} {w:List Int} {a b:Hf} {l:Int×List UInt8} (h:Rch A w a b l):Rch A w b a (swT l):=by
 obtain⟨x,y,h1,h2,rfl⟩:=h;exact⟨y,x,h2,h1,Kk x y⟩
theorem Rch.step {A:Nat->Ac->Prop} {w:List Int} {a b a' b':Hf} {l:Int×List UInt8} {c:Int} {p q:List UInt8} (h:Rch A w a b l) (h1:Sp A a c p a') (h2:Sp A b c q b'):Rch A (w++[c]) a' b' (Qr l p q):=by
 obtain⟨x,y,g1,g2,rfl⟩:=h;exact⟨x++p,y++q,g1.app (Rn.one h1),g2.app (Rn.one h2),MH x y p q⟩
def Gd (A:Nat->Ac->Prop) (acc:Nat->Prop) (a b:Hf) (l:Int×List UInt8) (v:List Int):Prop:=∃ p q,En A acc a v p/\En A acc b v q/\(Qr l p q).1≠0
theorem Gd.swap {A:Nat->Ac->Prop} {acc:Nat->Prop} {v:List Int} {a b:Hf} {l:Int×List UInt8} (hl:Vg l) (g:Gd A acc a b l v):Gd A acc b a (swT l) v:=by
 obtain⟨p,q,g1,g2,g3⟩:=g;refine⟨q,p,g2,g1,?_⟩;rw[Y3 hl];unfold swT;split
 ·simp
 ·split
  ·simp
  ·exact g3
theorem Amb.gd {A:Nat->Ac->Prop} {acc:Nat->Prop} {w:List Int} (h:Amb A acc w):Gd A acc (0,[]) (0,[]) (0,[]) w:=by
 obtain⟨x,y,h1,h2,h3⟩:=h;exact⟨x,y,h2,h3,λ e=>h1 (Qs.1 e)⟩
theorem Gd.next {A:Nat->Ac->Prop} {acc:Nat->Prop} {a b:Hf} {w:List Int} {l:Int×List UInt8} {c:Int} {v:List Int} (h:Rch A w a b l) (g:Gd A acc a b l (c::v)):∃ p q a' b',Sp A a c p a'/\Sp A b c q b'/\Gd A acc a' b' (Qr l p q) v:=by
 obtain⟨x,y,h1,h2,rfl⟩:=h;obtain⟨p,q,⟨k,g1,g2⟩,⟨k',g3,g4⟩,g5⟩:=g;obtain⟨a',p1,p2,s1,r1,rfl⟩:=g1.inv;obtain⟨b',q1,q2,s2,r2,rfl⟩:=g3.inv;refine⟨p1,q1,a',b',s1,s2,p2,q2,⟨k,r1,g2⟩,⟨k',r2,g4⟩,?_⟩;rw[← MH,← List.append_assoc,← List.append_assoc,MH,MH]at g5;exact g5
def Cov (R:(Int×List UInt8)->Prop) (l:Int×List UInt8):Prop:=R l\/R (3,[])\/∃ m m',R m/\R m'/\m≠m'
theorem Cov.gd {A:Nat->Ac->Prop} {acc:Nat->Prop} {R:(Int×List UInt8)->Prop} {l:Int×List UInt8} (h:Cov R l) (hR:∀ m,R m->Vg m) {a b:Hf} {v:List Int} (g:Gd A acc a b l v):∃ m,R m/\Gd A acc a b m v:=by
 rcases h with h|h|⟨m,m',h1,h2,h3⟩
 ·exact⟨l,h,g⟩
 ·obtain⟨p,q,g1,g2,_⟩:=g;exact⟨_,h,p,q,g1,g2,by simp[Qr]⟩
 ·obtain⟨p,q,g1,g2,_⟩:=g;by_cases e:(Qr m p q).1=0
  ·exact⟨m',h2,p,q,g1,g2,λ e'=>h3 (Y4 (hR m h1) (hR m' h2) e e')⟩
  ·exact⟨m,h1,p,q,g1,g2,e⟩
def ltL:List Int->List Int->Bool
 | [],[]=>false
 | [],_::_=>true
 | _::_,[]=>false
 | a::x,b::y=>decide (a<b)||(a==b&&ltL x y)
def ltW (x y:List Int):Prop:=x.length<y.length\/(x.length=y.length/\ltL x y=true)
theorem Xq:∀ {x y:List Int},x.length=y.length->ltL x y=true\/x=y\/ltL y x=true
 | [],[],_=>.inr (.inl rfl)
 | [],_::_,h=>by simp at h
 | _::_,[],h=>by simp at h
 | a::x,b::y,h=>by
  simp only[ltL,Jk7,decide_eq_true_eq,JkP,beq_iff_eq];rcases Int.lt_trichotomy a b with h1|rfl|h1
  ·exact .inl (.inl h1)
  ·rcases Xq (by simpa using h:x.length=y.length)with h2|rfl|h2
   ·exact .inl (.inr ⟨rfl,h2⟩)
   ·exact .inr (.inl rfl)
   ·exact .inr (.inr (.inr ⟨rfl,h2⟩))
  ·exact .inr (.inr (.inl h1))
theorem Xr (x y:List Int):ltW x y\/x=y\/ltW y x:=by
 rcases Nat.lt_trichotomy x.length y.length with h|h|h
 ·exact .inl (.inl h)
 ·rcases Xq h with h1|h1|h1
  ·exact .inl (.inr ⟨h,h1⟩)
  ·exact .inr (.inl h1)
  ·exact .inr (.inr (.inr ⟨h.symm,h1⟩))
 ·exact .inr (.inr (.inl h))
def Lst (A:Nat->Ac->Prop) (acc:Nat->Prop) (w:List Int):Prop:=Amb A acc w/\∀ u,Amb A acc u->¬ltW u w
theorem Lst.uniq {A:Nat->Ac->Prop} {acc:Nat->Prop} {w u:List Int} (h:Lst A acc w) (h':Lst A acc u):w=u:=by
 rcases Xr w u with h1|h1|h1
 ·exact absurd h1 (h'.2 w h.1)
 ·exact h1
 ·exact absurd h1 (h.2 u h'.1)
end Go.AI
end
section
namespace Go.AI
def prt (t:Ab) (k:Nat):List UInt8:=(Er t (k:Int)).Print
def cls (t:Ab) (k:Nat):List Int:=(Er t (k:Int)).Cells
theorem Sp.inv {A:Nat->Ac->Prop} {h x:Hf} {c:Int} {p:List UInt8} (H:Sp A h c p x):(∃ r,h.2=c::r/\p=[]/\x=(h.1,r))\/(h.2=[]/\∃ a r,A h.1 a/\a.c=c::r/\p=a.p/\x=(a.to,r)):=by
 cases H with
 | rest k c r=>exact .inl ⟨r,rfl,rfl,rfl⟩
 | arc h hc=>exact .inr ⟨rfl,_,_,h,hc,rfl,rfl⟩
theorem Rn.rest {A:Nat->Ac->Prop} (k:Nat) (r:List Int):Rn A (k,r) r [] (k,[]):=by
 induction r with
 | nil=>exact .nil _
 | cons c r ih=>have:=Rn.cons (Sp.rest (A:=A) k c r) ih;simpa using this
theorem Rn.skip {A:Nat->Ac->Prop} {k k':Nat}:∀ {r w:List Int} {x:List UInt8},Rn A (k,r) w x (k',[])->∃ w',w=r++w'/\Rn A (k,[]) w' x (k',[])
 | [],w,x,h=>⟨w,rfl,h⟩
 | c::r,[],x,h=>by have:=h.inv0.1;cases this
 | c::r,c'::w,x,h=>by
  obtain⟨h1,p,y,s,h2,rfl⟩:=h.inv;rcases s.inv with⟨r',e1,rfl,rfl⟩|⟨e1,_⟩
  ·have e1:c::r=c'::r':=e1;cases e1;obtain⟨w',rfl,h3⟩:=Rn.skip h2;exact⟨w',rfl,h3⟩
  ·cases e1
theorem Rn.arc {A:Nat->Ac->Prop} {k:Nat} {a:Ac} (h:A k a) (hc:a.c≠[]):Rn A (k,[]) a.c a.p (a.to,[]):=by
 cases hcc:a.c with
 | nil=>exact absurd hcc hc
 | cons c r=>have:=Rn.cons (Sp.arc h hcc) (Rn.rest (A:=A) a.to r);simpa using this
theorem En.arcs {A:Nat->Ac->Prop} {acc:Nat->Prop} (hA:∀ k a,A k a->a.c≠[]) {k:Nat} {v:List Int} {x:List UInt8}:En A acc (k,[]) v x↔(v=[]/\x=[]/\acc k)\/∃ a v' x',A k a/\v=a.c++v'/\x=a.p++x'/\En A acc (a.to,[]) v' x':=by
 constructor
 ·rintro⟨k',h1,h2⟩;cases v with
  | nil=>
   obtain⟨e1,e2⟩:=h1.inv0;cases e1;exact .inl ⟨rfl,e2,h2⟩
  | cons c v=>
   obtain⟨h,p,y,s,r,rfl⟩:=h1.inv;rcases s.inv with⟨r',e1,_⟩|⟨_,a,r',ha,hc,rfl,rfl⟩
   ·cases e1
   ·obtain⟨w',rfl,h3⟩:=Rn.skip r;exact .inr ⟨a,w',y,ha,by rw[hc];rfl,rfl,k',h3,h2⟩
 ·rintro (⟨rfl,rfl,h⟩|⟨a,v',x',ha,rfl,rfl,k',h1,h2⟩)
  ·exact⟨k,.nil _,h⟩
  ·exact⟨k',(Rn.arc ha (hA k a ha)).app h1,h2⟩
end Go.AI
end
section
namespace Go.AI
def Rc (t:Ab) (s:Af):List Int->Af->Prop
 | [],s'=>s=s'
 | k::p,s'=>(Bv t s k).2=true/\Rc t (Bv t s k).1 p s'
theorem Rc.snoc {t:Ab}:∀ {p:List Int} {s s':Af} {k:Int},Rc t s p s'->(Bv t s' k).2=true->Rc t s (p++[k]) (Bv t s' k).1
 | [],s,s',k,h,h'=>by
  unfold Rc at h;subst h;exact⟨h',rfl⟩
 | a::p,s,s',k,h,h'=>⟨h.1,Rc.snoc h.2 h'⟩
theorem Rc.mem {t:Ab}:∀ {p:List Int} {s s':Af},Rc t s p s'->∀ k∈p,0<=k/\k<t.Rules.length
 | [],_,_,_,k,hk=>by cases hk
 | a::p,s,s',h,k,hk=>by
  rcases List.mem_cons.1 hk with rfl|hk
  ·exact Jcr h.1
  ·exact Rc.mem h.2 k hk
def JhK (t:Ab) (p:List Int):List UInt8:=p.flatMap λ k=>(Er t k).Print
def cellsOf (t:Ab) (p:List Int):List Int:=p.flatMap λ k=>(Er t k).Cells
end Go.AI
end
section
namespace Go.AI
theorem Y5 {r:AB} {m:Int} (h:Cc r m=true):(∀ b∈r.Print,Ga b=true)/\(∀ c∈r.Cells,c<63)/\r.Cells.countP (λ c=>c==0)=r.Print.countP C0:=by
 unfold Cc at h;simp only[JkP,Jky,decide_eq_true_eq]at h;obtain⟨⟨⟨⟨⟨⟨h1,_⟩,_⟩,_⟩,_⟩,h2⟩,h3⟩:=h;refine⟨h1,h2,?_⟩;cases hs:r.Print.any C0 with
 | true=>
  rw[hs]at h3;simp only[cond_true,JkP,decide_eq_true_eq]at h3;obtain⟨⟨a,b⟩,c⟩:=h3;obtain⟨x,hx⟩:=List.length_eq_one_iff.1 a;obtain⟨y,hy⟩:=List.length_eq_one_iff.1 b;rw[hx]at hs⊢;rw[hy]at c⊢;simp only[List.any_cons,List.any_nil,Bool.or_false]at hs c;simp[hs,c]
 | false=>
  rw[hs]at h3;simp only[cond_false,Bool.not_eq_true']at h3;rw[List.any_eq_false]at h3 hs;rw[List.countP_eq_zero.2 h3,List.countP_eq_zero.2 hs]
end Go.AI
end
section
namespace Go.AI
def ltB (a b:List UInt8):Prop:=Op.bytesLess a b=true
theorem Tq (a:List UInt8):¬ltB a []:=by cases a<;>simp[ltB,Op.bytesLess]
theorem Id {a b:UInt8} {x y:List UInt8}:ltB (a::x) (b::y)↔a<b\/(a=b/\ltB x y):=by
 simp[ltB,Op.bytesLess]
theorem CK:∀ a:List UInt8,¬ltB a a
 | []=>Tq _
 | a::x=>by
  rw[Id];rintro (h|⟨_,h⟩)
  ·exact UInt8.lt_irrefl a h
  ·exact CK x h
theorem Ie:∀ {a b c:List UInt8},ltB a b->ltB b c->ltB a c
 | a,[],c,h,_=>absurd h (Tq a)
 | _,_::_,[],_,h=>absurd h (Tq _)
 | [],_::_,_::_,_,_=>rfl
 | a::x,b::y,c::z,h,h'=>by
  rw[Id]at *;rcases h with h|⟨rfl,h⟩
  ·rcases h' with h'|⟨rfl,_⟩
   ·exact .inl (UInt8.lt_trans h h')
   ·exact .inl h
  ·rcases h' with h'|⟨rfl,h'⟩
   ·exact .inl h'
   ·exact .inr ⟨rfl,Ie h h'⟩
theorem KE:∀ (a b:List UInt8),a=b\/ltB a b\/ltB b a
 | [],[]=>.inl rfl
 | [],_::_=>.inr (.inl rfl)
 | _::_,[]=>.inr (.inr rfl)
 | a::x,b::y=>by
  rw[Id,Id];by_cases h:a=b
  ·subst h;rcases KE x y with rfl|h|h
   ·exact .inl rfl
   ·exact .inr (.inl (.inr ⟨rfl,h⟩))
   ·exact .inr (.inr (.inr ⟨rfl,h⟩))
  ·rcases Nat.lt_or_gt_of_ne (λ e=>h (UInt8.toNat_inj.1 e))with h1|h1
   ·exact .inr (.inl (.inl (UInt8.lt_iff_toNat_lt.2 h1)))
   ·exact .inr (.inr (.inl (UInt8.lt_iff_toNat_lt.2 h1)))
theorem R0 {a b:List UInt8} (h:ltB a b):¬ltB b a:=λ h'=>CK a (Ie h h')
theorem OK (c:List UInt8) {a b:List UInt8}:ltB (c++a) (c++b)↔ltB a b:=by
 induction c with
 | nil=>rfl
 | cons x c ih=>
  rw[List.cons_append,List.cons_append,Id,ih];exact⟨λ h=>h.elim (λ h=>absurd h (UInt8.lt_irrefl x)) λ h=>h.2,λ h=>.inr ⟨rfl,h⟩⟩
def Xs (l:List (List UInt8)):Prop:=l.Pairwise ltB
theorem Xs.ext:∀ {l m:List (List UInt8)},Xs l->Xs m->(∀ x,x∈l↔x∈m)->l=m
 | [],[],_,_,_=>rfl
 | [],b::m,_,_,h=>by have:=(h b).2 (by simp);cases this
 | a::l,[],_,_,h=>by have:=(h a).1 (by simp);cases this
 | a::l,b::m,hl,hm,h=>by
  have h1:=List.pairwise_cons.1 hl;have h2:=List.pairwise_cons.1 hm;have e:a=b:=by
   rcases List.mem_cons.1 ((h a).1 (by simp))with e|e
   ·exact e
   ·rcases List.mem_cons.1 ((h b).2 (by simp))with e'|e'
    ·exact e'.symm
    ·exact absurd (h1.1 b e') (R0 (h2.1 a e))
  subst e;congr 1;refine Xs.ext h1.2 h2.2 λ x=>⟨λ hx=>?_,λ hx=>?_⟩
  ·rcases List.mem_cons.1 ((h x).1 (by simp[hx]))with e|e
   ·subst e;exact absurd (h1.1 x hx) (CK x)
   ·exact e
  ·rcases List.mem_cons.1 ((h x).2 (by simp[hx]))with e|e
   ·subst e;exact absurd (h2.1 x hx) (CK x)
   ·exact e
end Go.AI
end
section
namespace Go.AI
def WrT (t:Ab) (w:List Int) (x:List UInt8):Prop:=∃ p s,Rc t Cb p s/\Bk t s=true/\cellsOf t p=w/\JhK t p=x
def Jcu (t:Ab) (w:List Int):Prop:=∃ x y,x≠y/\WrT t w x/\WrT t w y
def JhL (t:Ab) (w:List Int):Prop:=Jcu t w/\∀ u,Jcu t u->¬ltW u w
structure TbK (t:Ab):Prop where
 tab:H9 t
 valid:D2 t=true
 pos:∀ r∈t.Rules,∀ c∈r.Cells,0<=c
theorem TbK.sound {t:Ab} (h:TbK t):∀ r∈t.Rules,Cc r t.Modes=true:=IY h.valid
theorem TbK.small {t:Ab} (h:TbK t):Fp t:=RZ h.tab.1 λ r hr=>⟨h.tab.2 r hr,(IZ (h.sound r hr)).2.2⟩
end Go.AI
end
section
namespace Go.AI
theorem MJ {σ ρ:Type} {body:σ->Option (σ⊕ρ)} (I:σ->Prop) (P:ρ->Prop) (h1:∀ x y,I x->body x=some (.inl y)->I y) (h2:∀ x r,I x->body x=some (.inr r)->P r):∀ (n:Nat) (x:σ) (r:ρ),I x->whl body n x=some r->P r
 | 0,_,_,_,h=>by cases h
 | n+1,x,r,hI,h=>by
  unfold whl at h;cases hb:body x with
  | none=>rw[hb]at h;cases h
  | some y=>
   rw[hb]at h;cases y with
   | inl y=>exact MJ I P h1 h2 n y r (h1 x y hI hb) h
   | inr z=>cases h;exact h2 x _ hI hb
def Oo (r:AB):Prop:=∀ c∈r.Cells,0<=c
theorem Xt {α:Type} {l:List α} {i:Int} {x:α} (h:idx l i=some x):x∈l:=JkQ (CH h).2.2
theorem Xu {i x:Int} (h:idx ([1,3,9,5,7,32,44,60]:List Int) i=some x):0<=x:=by
 have:=Xt h;simp only[List.mem_cons,List.not_mem_nil,or_false]at this;omega
theorem Jcv {n:Nat} {x:CI} {m:Int} {r:AB} (h:HU n x m=some r):Oo r:=by
 unfold HU at h;obtain⟨a,_,h⟩:=bind_some h;obtain⟨b,_,h⟩:=bind_some h;obtain⟨_,_,h⟩:=bind_some h;obtain⟨_,_,h⟩:=bind_some h;obtain⟨y,_,h⟩:=bind_some h;obtain⟨c,hc,h⟩:=bind_some h;obtain⟨z,hz,h⟩:=bind_some h;cases h;refine MJ (λ y=>Oo y.1) Oo (λ x' y hI hb=>?_) (λ x' r hI hb=>?_) n _ _ ?_ hz
 ·unfold C4 at hb;rcases DB hb with⟨_,hb⟩|⟨_,hb⟩
  ·obtain⟨a,_,hb⟩:=bind_some hb;obtain⟨c,hc,hb⟩:=bind_some hb;obtain⟨l,hl,hb⟩:=bind_some hb;cases hb;obtain⟨_,rfl⟩:=HL hl;intro d hd;rcases List.mem_append.1 hd with hd|hd
   ·exact hI d hd
   ·simp only[List.mem_singleton]at hd;rw[hd];exact Xu hc
  ·cases hb
 ·unfold C4 at hb;rcases DB hb with⟨_,hb⟩|⟨_,hb⟩
  ·obtain⟨a,_,hb⟩:=bind_some hb;obtain⟨c,hc,hb⟩:=bind_some hb;obtain⟨l,hl,hb⟩:=bind_some hb;cases hb
  ·cases hb;exact hI
 ·intro d hd;simp only[List.mem_singleton]at hd;rw[hd];exact Xu hc
theorem Vh {r:Int} (h:0<=r) (h':r<8):∀ x∈(Fa r).Rules,Oo x:=by
 have:∀ k:Nat,k<8->((Fa (k:Int)).Rules.all λ x=>x.Cells.all λ c=>decide (0<=c))=true:=by decide +kernel
 have e:=this r.toNat (by omega);rw[Int.toNat_of_nonneg h]at e;intro x hx c hc;have h1:=Jky.1 (Jky.1 e x hx) c hc;simpa using h1
theorem Jcw {n:Nat} {x:Ji} (hx:0<=x.Base) {t:Ab} (h:FQ n x=some t):∀ r∈t.Rules,Oo r:=by
 unfold FQ at h;obtain⟨b,hb,h⟩:=bind_some h;obtain⟨t1,h1,h⟩:=bind_some h;obtain⟨t2,h2,h⟩:=bind_some h;obtain⟨e1,e2,e3⟩:=MF n x.Base hx;rw[e1]at hb;cases hb;have hbp:=Vh e2 e3;have ht1:∀ r∈t1.Rules,Oo r:=by
  refine MJ (λ y=>∀ r∈y.1.Rules,Oo r) (λ y=>∀ r∈y.Rules,Oo r) (λ x' y hI hb=>?_) (λ x' r hI hb=>?_) n _ _ (by simp) h1
  ·unfold C5 DE at hb;rcases DB hb with⟨_,hb⟩|⟨_,hb⟩
   ·obtain⟨_,_,hb⟩:=bind_some hb;rcases DB hb with⟨_,hb⟩|⟨_,hb⟩
    ·obtain⟨a,ha,hb⟩:=bind_some hb;obtain⟨l,hl,hb⟩:=bind_some hb;cases hb;obtain⟨_,rfl⟩:=HL hl;intro r hr;rcases List.mem_append.1 hr with hr|hr
     ·exact hI r hr
     ·simp only[List.mem_singleton]at hr;rw[hr];exact hbp a (Xt ha)
    ·cases hb;exact hI
   ·cases hb
  ·unfold C5 DE at hb;rcases DB hb with⟨_,hb⟩|⟨_,hb⟩
   ·obtain⟨_,_,hb⟩:=bind_some hb;rcases DB hb with⟨_,hb⟩|⟨_,hb⟩
    ·obtain⟨a,ha,hb⟩:=bind_some hb;obtain⟨l,hl,hb⟩:=bind_some hb;cases hb
    ·cases hb
   ·cases hb;exact hI
 have ht2:∀ r∈t2.Rules,Oo r:=by
  refine MJ (λ y=>∀ r∈y.1.Rules,Oo r) (λ y=>∀ r∈y.Rules,Oo r) (λ x' y hI hb=>?_) (λ x' r hI hb=>?_) n _ _ ht1 h2
  ·unfold C6 DF at hb;rcases DB hb with⟨_,hb⟩|⟨_,hb⟩
   ·obtain⟨a,_,hb⟩:=bind_some hb;obtain⟨r1,hr1,hb⟩:=bind_some hb;obtain⟨l,hl,hb⟩:=bind_some hb;obtain⟨v,_,hb⟩:=bind_some hb;obtain⟨_,rfl⟩:=HL hl;have hall:∀ r∈x'.1.Rules++[r1],Oo r:=λ r hr=>by
     rcases List.mem_append.1 hr with hr|hr
     ·exact hI r hr
     ·simp only[List.mem_singleton]at hr;rw[hr];exact Jcv hr1
    rcases DB hb with⟨_,hb⟩|⟨_,hb⟩
    ·obtain⟨l2,hl2,hb⟩:=bind_some hb;cases hb;intro r hr;unfold sub at hl2;split at hl2
     ·cases hl2;exact hall r (List.mem_of_mem_take (List.mem_of_mem_drop hr))
     ·cases hl2
    ·cases hb;exact hall
   ·cases hb
  ·unfold C6 DF at hb;rcases DB hb with⟨_,hb⟩|⟨_,hb⟩
   ·obtain⟨a,_,hb⟩:=bind_some hb;obtain⟨r1,hr1,hb⟩:=bind_some hb;obtain⟨l,hl,hb⟩:=bind_some hb;obtain⟨v,_,hb⟩:=bind_some hb;rcases DB hb with⟨_,hb⟩|⟨_,hb⟩
    ·obtain⟨l2,hl2,hb⟩:=bind_some hb;cases hb
    ·cases hb
   ·cases hb;exact hI
 unfold Ez at h;rcases DB h with⟨_,h⟩|⟨_,h⟩
 ·cases h;exact hbp
 ·cases h;exact ht2
theorem Ev.any {α:Type} {f:Nat->Option α} {z:α} (h:Ev f z):∃ n,f n=some z:=by
 obtain⟨N,h⟩:=h;exact⟨N,h N (JkD _)⟩
structure MK (t:Ab):Prop where
 made:LD t
 tk:TbK t
 lo:1<=t.Rules.length
 hi:t.Rules.length<=10
theorem Jcx {x:Ji} (hx:MG x):∃ t,MK t/\Ev (λ n=>FQ n x) t:=by
 obtain⟨t,⟨h1,h2,h3⟩,h4⟩:=Y2 hx;obtain⟨n,hn⟩:=h4.any;exact⟨t,⟨h1,⟨h1.tab,h1.valid,Jcw hx.1 hn⟩,h2,h3⟩,h4⟩
theorem JhL.uniq {t u:Ab} (h:∀ w x,WrT t w x↔WrT u w x) {w v:List Int} (hw:JhL t w) (hv:JhL u v):w=v:=by
 have ha:∀ z,Jcu t z↔Jcu u z:=λ z=>by unfold Jcu;simp only[h]
 rcases Xr w v with h1|h1|h1
 ·exact absurd h1 (hv.2 w ((ha w).1 hw.1))
 ·exact h1
 ·exact absurd h1 (hw.2 v ((ha v).2 hv.1))
end Go.AI
end
section
namespace Go.AI
def At5 (t:Ab) (i:Nat) (a:Ac):Prop:=∃ k j,Edge t (AH t) i k j/\a=⟨prt t k,cls t k,j⟩
theorem E3 {t:Ab} (ht:TbK t) {k:Nat} (hk:k<t.Rules.length):1<=(cls t k).length/\(cls t k).length<=4/\(prt t k).length<=4/\∀ c∈cls t k,0<=c/\c<63:=by
 have hm:Er t (k:Int)∈t.Rules:=WE (by omega) (by omega);have h1:=IZ (ht.sound _ hm);exact⟨h1.2.1,h1.2.2,h1.1,λ c hc=>⟨ht.pos _ hm c hc,(Y5 (ht.sound _ hm)).2.1 c hc⟩⟩
theorem Rn.snoc {A:Nat->Ac->Prop} {h h1 h':Hf} {w:List Int} {c:Int} {x p:List UInt8} (H:Rn A h w x h1) (s:Sp A h1 c p h'):Rn A h (w++[c]) (x++p) h':=H.app (Rn.one s)
def WfP (t:Ab) (p:GA):Prop:=p.Rule=-1\/∃ k a:Nat,p.Rule=(k:Int)/\k<t.Rules.length/\p.At=(a:Int)/\1<=a/\a<(cls t k).length
def Xv (t:Ab) (p:GA):List Int:=if p.Rule<0 then []else(cls t p.Rule.toNat).drop p.At.toNat
theorem WfP.rest {t:Ab} {p:GA} (h:WfP t p):Xv t p=[]↔p.Rule<0:=by
 unfold Xv;rcases h with h|⟨k,a,h1,h2,h3,h4,h5⟩
 ·rw[if_pos (by omega)];simp;omega
 ·rw[if_neg (by omega),h1,h3];simp only[JkX];constructor
  ·intro h;have:=congrArg List.length h;simp at this;omega
  ·intro h;omega
end Go.AI
end
section
namespace Go.AI
def JhM (t:Ab) (c:Int) (p:GA) (out:List GA):Prop:=∀ i,(AH t)[i]?=some p.S->∀ q h',Sp (At5 t) (i,Xv t p) c q h'->∃ y∈out,(AH t)[h'.1]?=some y.S/\y.Text=p.Text++q/\Xv t y=h'.2
theorem JhM.mono {t:Ab} {c:Int} {p:GA} {out out':List GA} (h:JhM t c p out) (hs:∀ y∈out,y∈out'):JhM t c p out':=λ i hi q h' hs'=>by
 obtain⟨y,h1,h2⟩:=h i hi q h' hs';exact⟨y,hs y h1,h2⟩
end Go.AI
end
section
namespace Go.AI
theorem Gp {α:Type}:∀ {l m:List α},l.Nodup->(∀ x∈l,x∈m)->l.length<=m.length
 | [],_,_,_=>Nat.zero_le _
 | a::l,m,h,hs=>by
  rw[List.nodup_cons]at h;obtain⟨u,v,rfl⟩:=List.append_of_mem (hs a (by simp));have:=Gp (m:=u++v) h.2 λ x hx=>by
   have h1:=hs x (by simp[hx]);simp only[List.mem_append,List.mem_cons]at h1⊢;rcases h1 with h1|h1|h1
   ·exact .inl h1
   ·subst h1;exact absurd hx h.1
   ·exact .inr h1
  simp at *;omega
def klr (r s:Ag):Prop:=r.Cost<s.Cost\/(r.Cost=s.Cost/\ltB r.Text s.Text)
def le2 (r s:Ag):Prop:=r.Cost<s.Cost\/(r.Cost=s.Cost/\¬ltB s.Cells r.Cells)
theorem Cm (r:Ag):¬klr r r:=by
 rintro (h|⟨_,h⟩)
 ·omega
 ·exact CK _ h
theorem Fq {r s u:Ag} (h:klr r s) (h':klr s u):klr r u:=by
 rcases h with h|⟨h,h1⟩<;>rcases h' with h'|⟨h',h1'⟩
 ·exact .inl (by omega)
 ·exact .inl (by omega)
 ·exact .inl (by omega)
 ·exact .inr ⟨by omega,Ie h1 h1'⟩
theorem If {r s:Ag} (h:klr r s):¬klr s r:=λ h'=>Cm r (Fq h h')
theorem Fr (r s:Ag):klr r s\/klr s r\/(r.Cost=s.Cost/\r.Text=s.Text):=by
 rcases Int.lt_trichotomy r.Cost s.Cost with h|h|h
 ·exact .inl (.inl h)
 ·rcases KE r.Text s.Text with h1|h1|h1
  ·exact .inr (.inr ⟨h,h1⟩)
  ·exact .inl (.inr ⟨h,h1⟩)
  ·exact .inr (.inl (.inr ⟨h.symm,h1⟩))
 ·exact .inr (.inl (.inl h))
theorem Qt {r s u:Ag} (h:¬klr r s) (h':¬klr s u):¬klr r u:=by
 intro hk;rcases Fr r s with h1|h1|⟨h1,h2⟩
 ·exact h h1
 ·exact h' (Fq h1 hk)
 ·apply h';rcases hk with hk|⟨hk,hk2⟩
  ·exact .inl (by omega)
  ·exact .inr ⟨by omega,by rw[← h2];exact hk2⟩
theorem ML (r:Ag):le2 r r:=.inr ⟨rfl,CK _⟩
theorem Ny {r s u:Ag} (h:le2 r s) (h':le2 s u):le2 r u:=by
 rcases h with h|⟨h,h1⟩<;>rcases h' with h'|⟨h',h1'⟩
 ·exact .inl (by omega)
 ·exact .inl (by omega)
 ·exact .inl (by omega)
 ·refine .inr ⟨by omega,λ hl=>?_⟩;rcases KE s.Cells r.Cells with e|e|e
  ·rw[e]at h1';exact h1' hl
  ·exact h1 e
  ·exact h1' (Ie hl e)
theorem Qu {r s:Ag} (h:le2 r s) (h':le2 s r) (ht:r.Text=s.Text):r=s:=by
 rcases h with h|⟨h,h1⟩<;>rcases h' with h'|⟨h',h1'⟩
 ·omega
 ·omega
 ·omega
 ·have:r.Cells=s.Cells:=by
   rcases KE r.Cells s.Cells with e|e|e
   ·exact e
   ·exact absurd e h1'
   ·exact absurd e h1
  cases r;cases s;simp only at *;subst h;subst ht;subst this;rfl
structure Bst (T:Ag->Prop) (B:Int) (M:Nat) (l:List Ag):Prop where
 snd:∀ r∈l,T r/\r.Cost<=B
 srt:l.Pairwise klr
 dst:∀ r∈l,∀ s∈l,r.Text=s.Text->r=s
 cov:∀ r,T r->r.Cost<=B->(∃ s∈l,s.Text=r.Text/\le2 s r)\/(l.length=M/\∀ s∈l,klr s r)
 len:l.length<=M
theorem Bst.mem {T:Ag->Prop} {B:Int} {M M':Nat} {l l':List Ag} (h:Bst T B M l) (h':Bst T B M' l') {r:Ag} (hr:r∈l):r∈l'\/(l'.length=M'/\∀ s∈l',klr s r):=by
 obtain⟨h1,h2⟩:=h.snd r hr;rcases h'.cov r h1 h2 with⟨s,hs,ht,hle⟩|h3
 ·left;obtain⟨h3,h4⟩:=h'.snd s hs;rcases h.cov s h3 h4 with⟨u,hu,hut,hule⟩|⟨_,h5⟩
  ·have e:=h.dst u hu r hr (hut.trans ht);subst e;rw[Qu hule hle ht.symm];exact hs
  ·rcases h5 r hr with h6|⟨h6,h7⟩
   ·rcases hle with hle|⟨hle,_⟩<;>omega
   ·rw[ht]at h7;exact absurd h7 (CK _)
 ·exact .inr h3
theorem WF {α:Type} {R:α->α->Prop} (hi:∀ a,¬R a a) (ha:∀ a b,R a b->¬R b a):∀ {l l':List α},l.Pairwise R->l'.Pairwise R->(∀ r∈l,r∈l')->(∀ r∈l',r∈l\/∀ s∈l,R s r)->∃ u,l'=l++u
 | [],l',_,_,_,_=>⟨l',rfl⟩
 | a::l,[],_,_,h,_=>by have:=h a (by simp);simp at this
 | a::l,b::l',p1,p2,h1,h2=>by
  rw[List.pairwise_cons]at p1 p2;have e:a=b:=by
   rcases List.mem_cons.1 (h1 a (by simp))with e|hm
   ·exact e
   ·have hba:=p2.1 a hm;rcases h2 b (by simp)with hb|hb
    ·rcases List.mem_cons.1 hb with e|hb
     ·exact e.symm
     ·exact absurd (p1.1 b hb) (ha _ _ hba)
    ·exact absurd (hb a (by simp)) (ha _ _ hba)
  subst e;obtain⟨u,rfl⟩:=WF hi ha p1.2 p2.2 (λ r hr=>by
   rcases List.mem_cons.1 (h1 r (by simp[hr]))with e|hm
   ·subst e;exact absurd (p1.1 _ hr) (hi _)
   ·exact hm) λ r hr=>by
   rcases h2 r (by simp[hr])with hm|hm
   ·rcases List.mem_cons.1 hm with e|hm
    ·subst e;exact absurd (p2.1 _ hr) (hi _)
    ·exact .inl hm
   ·exact .inr λ s hs=>hm s (by simp[hs])
  exact⟨u,rfl⟩
theorem Bst.nodup {T:Ag->Prop} {B:Int} {M:Nat} {l:List Ag} (h:Bst T B M l):l.Nodup:=h.srt.imp λ hk e=>by subst e;exact Cm _ hk
theorem Bst.take {T:Ag->Prop} {B:Int} {M M':Nat} {l l':List Ag} (h:Bst T B M l) (h':Bst T B M' l') (hM:M<=M'):l=l'.take M:=by
 by_cases hall:∀ r∈l,r∈l'
 ·obtain⟨u,hu⟩:=WF Cm (λ _ _=>If) h.srt h'.srt hall λ r hr=>by
   rcases h'.mem h hr with h1|⟨_,h1⟩
   ·exact .inl h1
   ·exact .inr h1
  cases u with
  | nil=>rw[List.append_nil]at hu;subst hu;exact(List.take_of_length_le h.len).symm
  | cons x u=>
   have hx:x∈l':=by rw[hu];simp
   have hxl:x ∉ l:=λ hx'=>by
    have:=h'.srt;rw[hu,List.pairwise_append]at this;exact Cm x (this.2.2 x hx' x (by simp))
   rcases h'.mem h hx with h1|⟨h1,_⟩
   ·exact absurd h1 hxl
   ·rw[hu,← h1,List.take_left'];rfl
 ·exfalso;obtain⟨r,hr⟩:=Classical.not_forall.1 hall;obtain⟨hr,hr'⟩:=Classical.not_imp.1 hr;rcases h.mem h' hr with h1|⟨h1,h2⟩
  ·exact hr' h1
  ·have hsub:∀ s∈r::l',s∈l:=λ s hs=>by
    rcases List.mem_cons.1 hs with rfl|hs
    ·exact hr
    ·rcases h'.mem h hs with h3|⟨_,h3⟩
     ·exact h3
     ·exact absurd (h3 r hr) (If (h2 s hs))
   have hnd:(r::l').Nodup:=List.nodup_cons.2 ⟨hr',h'.nodup⟩;have:=Gp hnd hsub;have:=h.len;simp at *;omega
theorem Bst.has {T:Ag->Prop} {B:Int} {M:Nat} {l:List Ag} (h:Bst T B M l) (hl:l.length<M) {r:Ag} (hr:T r) (hb:r.Cost<=B):∃ s∈l,s.Text=r.Text/\le2 s r:=by
 rcases h.cov r hr hb with h1|⟨h1,_⟩
 ·exact h1
 ·omega
theorem Bst.congr {T T':Ag->Prop} {B:Int} {M:Nat} {l:List Ag} (h:Bst T B M l) (e:∀ r,r.Cost<=B->(T r↔T' r)):Bst T' B M l:=
 ⟨λ r hr=>⟨(e r (h.snd r hr).2).1 (h.snd r hr).1,(h.snd r hr).2⟩,h.srt,h.dst,λ r hr hb=>h.cov r ((e r hb).2 hr) hb,h.len⟩
theorem Bst.grow {T:Ag->Prop} {B B':Int} {M:Nat} {l l':List Ag} (h:Bst T B M l) (h':Bst T B' M l') (hB:B<=B'):(l'.length<M->l.length<M/\∃ u,l'=l++u):=by
 intro hl';have hll:∀ r∈l,∃ s∈l',s.Text=r.Text/\le2 s r:=λ r hr=>h'.has hl' (h.snd r hr).1 (by have:=(h.snd r hr).2;omega);have hinj:l.length<=l'.length:=by
  have hnd:(l.map (·.Text)).Nodup:=by
   rw[List.Nodup,List.pairwise_map];exact(List.pairwise_iff_forall_sublist.2 λ {a b} hs=>by
    have hab:=List.pairwise_iff_forall_sublist.1 h.srt hs;intro e;have ha:a∈l:=hs.subset (by simp);have hb:b∈l:=hs.subset (by simp);have:=h.dst a ha b hb e;subst this;exact Cm _ hab)
  have hsub:∀ x∈l.map (·.Text),x∈l'.map (·.Text):=λ x hx=>by
   obtain⟨r,hr,rfl⟩:=JkG.1 hx;obtain⟨s,hs,ht,_⟩:=hll r hr;exact JkG.2 ⟨s,hs,ht⟩
  have:=Gp hnd hsub;simpa using this
 have hlt:l.length<M:=by omega
 refine⟨hlt,WF Cm (λ _ _=>If) h.srt h'.srt (λ r hr=>?_) λ r hr=>?_⟩
 ·obtain⟨s,hs,ht,hle⟩:=hll r hr;have hsB:s.Cost<=B:=by have:=(h.snd r hr).2;rcases hle with hle|⟨hle,_⟩<;>omega
  obtain⟨u,hu,hut,hule⟩:=h.has hlt (h'.snd s hs).1 hsB;have e:=h.dst u hu r hr (hut.trans ht);subst e;rw[Qu hule hle ht.symm];exact hs
 ·by_cases hrB:r.Cost<=B
  ·left;obtain⟨s,hs,ht,hle⟩:=h.has hlt (h'.snd r hr).1 hrB;obtain⟨u,hu,hut,hule⟩:=hll s hs;have e:=h'.dst u hu r hr (hut.trans ht);subst e;rw[Qu hule hle ht.symm];exact hs
  ·exact .inr λ s hs=>.inl (by have:=(h.snd s hs).2;omega)
end Go.AI
end
section
namespace Go.AI
open Go.Lib
theorem Vi:∀ (a b:List UInt8),compareBytes a b<0↔ltB a b
 | [],[]=>by simp[compareBytes,ltB,Op.bytesLess]
 | [],_::_=>by simp[compareBytes,ltB,Op.bytesLess]
 | _::_,[]=>by simp[compareBytes,ltB,Op.bytesLess]
 | a::x,b::y=>by
  rw[Id,compareBytes];split
  ·rename_i h;simp[h]
  ·rename_i h;split
   ·rename_i h2;have:a≠b:=λ e=>by subst e;exact h h2
    simp[h,this]
   ·rename_i h2;have e:a=b:=by
     rw[← UInt8.toNat_inj];rw[UInt8.lt_iff_toNat_lt]at h h2;omega
    subst e;rw[Vi x y];simp
theorem R1:∀ (a b:List UInt8),compareBytes a b=0↔a=b
 | [],[]=>by simp[compareBytes]
 | [],_::_=>by simp[compareBytes]
 | _::_,[]=>by simp[compareBytes]
 | a::x,b::y=>by
  rw[compareBytes];split
  ·rename_i h;have:a≠b:=λ e=>by subst e;rw[UInt8.lt_iff_toNat_lt]at h;omega
   simp[this]
  ·rename_i h;split
   ·rename_i h2;have:a≠b:=λ e=>by subst e;exact h h2
    simp[this]
   ·rename_i h2;have e:a=b:=by
     rw[← UInt8.toNat_inj];rw[UInt8.lt_iff_toNat_lt]at h h2;omega
    subst e;rw[R1 x y];simp
def Vj (r s:Ag):Int:=if r.Cost<s.Cost then -1 else if s.Cost<r.Cost then 1 else compareBytes r.Text s.Text
theorem Qv (r s:Ag):Vj r s<0↔klr r s:=by
 unfold Vj klr;split
 ·rename_i h;simp[h]
 ·rename_i h;split
  ·rename_i h2;simp[h];omega
  ·rename_i h2;rw[Vi];constructor
   ·intro h3;exact .inr ⟨by omega,h3⟩
   ·rintro (h3|⟨_,h3⟩)
    ·omega
    ·exact h3
theorem R2 (r s:Ag):Vj r s=0↔r.Cost=s.Cost/\r.Text=s.Text:=by
 unfold Vj;split
 ·rename_i h;simp;omega
 ·rename_i h;split
  ·rename_i h2;simp;omega
  ·rename_i h2;rw[R1];constructor
   ·intro h3;exact⟨by omega,h3⟩
   ·exact λ h3=>h3.2
theorem JhN (n:Nat) (a b:Int):Hc (n+3) [a,b]=some (if a=0 then b else a):=by
 have h2:¬(AZ .i64 1 1<2):=by decide
 have h3:AZ .i64 0 1=1:=by decide
 unfold Hc;simp only[whl,GC];by_cases ha:a=0
 ·subst ha;by_cases hb:b=0
  ·subst hb;simp[idx,h3,h2]
  ·simp[idx,h3,hb]
 ·simp[idx,ha]
theorem OL (n:Nat) (r s:Ag):AX (n+3) r s=some (Vj r s):=by
 have hc:DM (n+3) r.Cost s.Cost=some (if r.Cost<s.Cost then -1 else if s.Cost<r.Cost then 1 else 0):=by
  unfold DM EU;simp only[Jku,bne_self_eq_false,Jk0,if_false,decide_eq_true_eq];split
  ·rfl
  ·split<;>simp[*]
 unfold AX JP;rw[hc,Jku,Jku,JhN,Jku];unfold Vj;split
 ·rfl
 ·split
  ·rfl
  ·rfl
theorem GQ (n:Nat) (r s:Ag):ltC (λ x y=>AX (n+3) x y) r s=true↔klr r s:=by
 show decide ((AX (n+3) r s).getD 0<0)=true↔_;rw[OL,Jkz,decide_eq_true_eq,Qv]
theorem Fs (n:Nat) (r s:Ag):ltC (λ x y=>AX (n+3) x y) r s=false↔¬klr r s:=by
 rw[← GQ n,JkC]
theorem Qx (n:Nat):Xg (λ x y=>AX (n+3) x y):={
 tot x y:=by rw[OL];rfl
 irrefl x:=(Fs n x x).2 (Cm x)
 trans x y z h1 h2:=(GQ n x z).2 (Fq ((GQ n x y).1 h1) ((GQ n y z).1 h2))
 ntrans x y z h1 h2:=(Fs n x z).2 (Qt ((Fs n x y).1 h1) ((Fs n y z).1 h2)) }
theorem Vk {m:List Ag} (hd:∀ r∈m,∀ s∈m,r.Text=s.Text->r=s) (hl:m.length<4611686018427387904):∃ z:List Ag,z.Perm m/\z.Pairwise (λ a b=>¬klr b a)/\∀ n,JQ (n+3) m=some z:=by
 have h1:∀ n,Xh (λ x y=>AX (n+3) x y) m:=λ n x hx y hy h1 h2=>by
  rw[Fs]at h1 h2;rcases Fr x y with h|h|⟨_,h⟩
  ·exact absurd h h1
  ·exact absurd h h2
  ·exact hd x hx y hy h
 have e:∀ n,ltC (λ x y=>AX (n+3) x y)=ltC (λ x y=>AX (0+3) x y):=λ n=>by
  funext x y;rw[Bool.eq_iff_iff,GQ,GQ]
 refine⟨Lq (ltC (λ x y=>AX (0+3) x y)) m,G8 m,?_,λ n=>?_⟩
 ·refine(Ht (λ x y z h1 h2=>(Qx 0).ntrans x y z h1 h2) (λ x y h=>?_) m).imp λ h=>(Fs 0 _ _).1 h;rw[GQ]at h;exact(Fs 0 y x).2 (If h)
 ·unfold JQ;rw[JaQ (Qx n) (h1 n) hl,e n]
end Go.AI
end
section
namespace Go.AI
theorem Jjs (hs:List Ai) (hl:hs.length<1000000000):Tot (λ n=>Mm n hs) (λ r=>(r=-1/\∀ h∈hs,h.List≠[])\/∃ i:Nat,r=(i:Int)/\i<hs.length/\(∀ h∈hs.take i,h.List≠[])/\∃ h,hs[i]?=some h/\h.List=[]):=by
 unfold Mm;refine Tot.bind (R:=λ y=>(y=.inl ()/\∀ h∈hs,h.List≠[])\/∃ i:Nat,y=.inr (i:Int)/\i<hs.length/\(∀ h∈hs.take i,h.List≠[])/\∃ h,hs[i]?=some h/\h.List=[]) ?_ ?_
 ·refine Tot.upto (body:=λ n x=>FO n hs x) hs.length (λ i x=>x=(i:Int)/\∀ h∈hs.take i,h.List≠[]) ?_ ?_ _ ⟨rfl,by simp⟩
  ·rintro i x hi ⟨rfl,hx⟩;unfold FO;refine Tot.iteT (GZ hi) (Tot.bindC (Cl hi) (Jkn (λ n=>rfl) (Tot.ite (λ h=>?_) λ h=>?_)))
   ·have he:hs[i].List=[]:=by simpa using h
    exact Jkl (.inr ⟨i,rfl,hi,hx,hs[i],JkO hi,he⟩)
   ·refine Jkl ⟨Ef (by omega),λ g hg=>?_⟩;rw[List.take_add_one,JkO hi]at hg;rcases List.mem_append.1 hg with hg|hg
    ·exact hx g hg
    ·have e:g=hs[i]:=by simpa using hg
     subst e;intro e;rw[e]at h;simp at h
  ·rintro x ⟨rfl,hx⟩;unfold FO;exact Tot.iteF (Ki _) (Jkl (.inl ⟨rfl,by simpa using hx⟩))
 ·rintro y (⟨rfl,h⟩|⟨i,rfl,h⟩)
  ·exact Jkl (.inl ⟨rfl,h⟩)
  ·exact Jkl (.inr ⟨i,rfl,h⟩)
def neH (h:Ai):Bool:=!h.List.isEmpty
theorem JhO (hs:List Ai) (hl:hs.length<1000000000):Tot (λ n=>Kz n hs) (λ r=>r=hs.filter neH):=by
 have hall:∀ l:List Ai,(∀ h∈l,h.List≠[])->l.filter neH=l:=λ l h=>List.filter_eq_self.2 λ a ha=>by
  have:=h a ha;unfold neH;cases e:a.List with
  | nil=>exact absurd e this
  | cons=>rfl
 unfold Kz;refine Tot.bind (Jjs hs hl) ?_;rintro r (⟨rfl,h⟩|⟨i,rfl,hi,hp,g,hg,hge⟩)
 ·exact Tot.iteT rfl (Jkl (hall hs h).symm)
 refine Tot.iteF (by first|(simp;done)|(simp;omega)) ?_
 rw[Ef (by omega)];refine Tot.bind (R:=λ y=>∃ k:Nat,y.2=(k:Int)/\k<=y.1.length/\y.1.length=hs.length/\y.1.take k=hs.filter neH) ?_ ?_
 ·refine Tot.whl (body:=λ n (x:List Ai×Int×Int)=>Gh n x.1 x.2.1 x.2.2) (λ m x=>∃ j k:Nat,x.2.1=(k:Int)/\x.2.2=(j:Int)/\m=hs.length-j/\k<j/\j<=hs.length/\x.1.length=hs.length/\x.1.take k=(hs.take j).filter neH/\x.1.drop j=hs.drop j) ?_ (hs.length-(i+1)) _ ⟨i+1,i,rfl,rfl,rfl,by omega,by omega,rfl,?_,rfl⟩
  ·rintro m ⟨s,_,_⟩ ⟨j,k,rfl,rfl,rfl,hkj,hj,hsl,ht,hd⟩;simp only at *;unfold Gh;rcases JkE j hs.length with hlt|hge
   ·have hjs:j<s.length:=by omega
    have hsj:s[j]=hs[j]:=by
     have h1:(s.drop j)[0]?=(hs.drop j)[0]? := by rw[hd]
     rw[JkH,JkH,Nat.add_zero,JkO hjs,JkO hlt]at h1;exact Option.some.inj h1
    have hdd:s.drop (j+1)=hs.drop (j+1):=by
     have:=congrArg (List.drop 1) hd;simpa [List.drop_drop]using this
    refine Tot.iteT (by rw[hsl];exact GZ hlt) (Tot.bindC (Cl hjs) (Jkn (λ n=>rfl) (Tot.ite (λ h=>?_) λ h=>?_)))
    ·have hne:neH hs[j]=true:=by
      rw[hsj]at h;unfold neH;cases e:hs[j].List with
      | nil=>rw[e]at h;simp at h
      | cons=>rfl
     refine Tot.bindC (Cl (by omega:k<s.length)) (Tot.bindC (Qo (by omega)) (Jkl ⟨hs.length-(j+1),by omega,j+1,k+1,Ef (by omega),Ef (by omega),rfl,by omega,by omega,by simpa using hsl,?_,?_⟩))
     ·rw[List.take_add_one (l:=hs),JkO hlt,List.filter_append,← ht,List.take_add_one,JkZ (by omega),List.take_set_of_le (JkD _),hsj];simp[hne]
     ·rw[List.drop_set_of_lt (by omega)];exact hdd
    ·have hne:neH hs[j]=false:=by
      rw[hsj]at h;unfold neH;cases e:hs[j].List with
      | nil=>rfl
      | cons=>rw[e]at h;simp at h;omega
     refine Jkl ⟨hs.length-(j+1),by omega,j+1,k,rfl,Ef (by omega),rfl,by omega,by omega,hsl,?_,hdd⟩;rw[List.take_add_one (l:=hs),JkO hlt,List.filter_append,← ht];simp[hne]
   ·have:j=hs.length:=by omega
    subst this;refine Tot.iteF (by rw[hsl];exact Ki _) (Jkl ⟨k,rfl,(show k<=s.length by omega),hsl,?_⟩);simpa using ht
  ·rw[List.take_add_one,hg,List.filter_append,hall _ hp];have:neH g=false:=by unfold neH;rw[hge];rfl
   simp[this]
 ·rintro⟨s,_⟩ ⟨k,rfl,hk,hsl,ht⟩;simp only at *;refine Tot.bindC (U4 (by omega) (by omega) (by omega)) ?_;have hclr:Wc s (0+Int.toNat (k:Int)) (Int.toNat ((s.length:Nat):Int)-Int.toNat (k:Int)) (⟨⟨[],[],0⟩,0,[],⟨0,[],[]⟩⟩:Ai)=some (s.take k++List.replicate (s.length-k) ⟨⟨[],[],0⟩,0,[],⟨0,[],[]⟩⟩):=by
   unfold Wc spl;rw[if_pos (by simp;omega)];congr 1;simp;omega
  refine Tot.bindC hclr (Tot.bindC (U4 (Int.le_refl 0) (by omega) (by simp;omega)) (Jkl ?_));rw[← ht];simp only[JkX,Int.toNat_zero,List.drop_zero];exact List.take_left' (by simp;omega)
theorem Jea (hs:List Ai) (h0:hs≠[]) (hl:hs.length<1000000000):Tot (λ n=>IF n hs) (λ m=>m∈hs/\∀ h∈hs,¬klr h.First m.First):=by
 have hpos:0<hs.length:=List.length_pos_iff.2 h0;unfold IF;refine Tot.iteF (by simp;omega) (Tot.bindC (Cl (i:=0) hpos) (Tot.bind (R:=λ m=>m∈hs/\∀ h∈hs,¬klr h.First m.First) ?_ λ m hm=>Jkl hm));refine Tot.whl (body:=λ n (x:Ai×Int)=>FB n hs x.1 x.2) (λ k x=>∃ i:Nat,x.2=(i:Int)/\k=hs.length-i/\i<=hs.length/\x.1∈hs/\∀ h∈hs.take i,¬klr h.First x.1.First) ?_ (hs.length-1) _ ⟨1,rfl,rfl,by omega,JkA hpos,?_⟩
 ·rintro k ⟨m,_⟩ ⟨i,rfl,rfl,hi,hm,hx⟩;simp only at *;unfold FB;rcases JkE i hs.length with hlt|hge
  ·refine Tot.iteT (GZ hlt) (Tot.bindC (Cl hlt) ?_);have hcmp:Ev (λ n=>EV n hs[i] m) (Vj hs[i].First m.First):=⟨3,λ n hn=>by
    obtain⟨q,rfl⟩:∃ q,n=q+3:=⟨n-3,by omega⟩;show(AX (q+3) _ _).bind _=_;rw[OL];rfl⟩
   have nx:∀ m',m'∈hs->(∀ h∈hs.take i,¬klr h.First m'.First)->¬klr hs[i].First m'.First->Tot (λ n=>FA n (i:Int) m') (Rd2 (λ y=>∃ j,j<hs.length-i/\∃ i:Nat,y.2=(i:Int)/\j=hs.length-i/\i<=hs.length/\y.1∈hs/\∀ h∈hs.take i,¬klr h.First y.1.First) (λ m=>m∈hs/\∀ h∈hs,¬klr h.First m.First)):=λ m' h1 h2 h3=>by
    refine Jkl ⟨hs.length-(i+1),by omega,i+1,Ef (by omega),rfl,by omega,h1,λ g hg=>?_⟩;rw[List.take_add_one,JkO hlt]at hg;rcases List.mem_append.1 hg with hg|hg
    ·exact h2 g hg
    ·have e:g=hs[i]:=by simpa using hg
     subst e;exact h3
   refine Jkm hcmp (Tot.ite (λ h=>?_) λ h=>?_)
   ·have hk:klr hs[i].First m.First:=(Qv _ _).1 (by simpa using h);refine Tot.bindC (Cl hlt) (nx _ (JkA hlt) (λ g hg hgk=>hx g hg (Fq hgk hk)) (Cm _))
   ·exact nx _ hm hx λ hk=>by have:=(Qv _ _).2 hk;simp at h;omega
  ·have:i=hs.length:=by omega
   subst this;exact Tot.iteF (Ki _) (Jkl ⟨hm,by simpa using hx⟩)
 ·intro h hh;rw[List.take_one]at hh;cases hs with
  | nil=>exact absurd rfl h0
  | cons a r=>simp at hh;subst hh;exact Cm _
theorem Jeb (hs:List Ai) (m:Ai) (hm:m∈hs) (hl:hs.length<1000000000):Tot (λ n=>Hd n m hs) (λ r=>∃ (i:Nat) (h:Ai),r=(i:Int)/\hs[i]?=some h/\h.First.Cost=m.First.Cost/\h.First.Text=m.First.Text):=by
 unfold Hd;refine Tot.bind (R:=λ y=>∃ (i:Nat) (h:Ai),y=.inr (i:Int)/\hs[i]?=some h/\h.First.Cost=m.First.Cost/\h.First.Text=m.First.Text) ?_ ?_
 ·refine Tot.upto (body:=λ n x=>EW n m hs x) hs.length (λ i x=>x=(i:Int)/\∀ h∈hs.take i,¬(h.First.Cost=m.First.Cost/\h.First.Text=m.First.Text)) ?_ ?_ _ ⟨rfl,by simp⟩
  ·rintro i x hi ⟨rfl,hx⟩;unfold EW;have hcmp:Ev (λ n=>Ep n hs[i] m) (Vj hs[i].First m.First==0):=⟨3,λ n hn=>by
    obtain⟨q,rfl⟩:∃ q,n=q+3:=⟨n-3,by omega⟩;show((AX (q+3) _ _).bind _).bind _=_;rw[OL];rfl⟩
   refine Tot.iteT (GZ hi) (Tot.bindC (Cl hi) (Jkm hcmp (Tot.ite (λ h=>?_) λ h=>?_)))
   ·exact Jkl ⟨i,hs[i],rfl,JkO hi,(R2 _ _).1 (by simpa using h)⟩
   ·refine Jkl ⟨Ef (by omega),λ g hg=>?_⟩;rw[List.take_add_one,JkO hi]at hg;rcases List.mem_append.1 hg with hg|hg
    ·exact hx g hg
    ·have e:g=hs[i]:=by simpa using hg
     subst e;intro hc;have:=(R2 _ _).2 hc;rw[this]at h;simp at h
  ·rintro x ⟨rfl,hx⟩;exact absurd ⟨rfl,rfl⟩ (hx m (by simpa using hm))
 ·rintro y ⟨i,h,rfl,h1⟩;exact Jkl ⟨i,h,rfl,h1⟩
def mpR (h:Ai) (r:Ag):Ag:=⟨h.More+r.Cost,h.Arc.Print++r.Text,h.Arc.Cells++r.Cells⟩
def ldH (h:Ai):Ai:=match h.List with
 | []=>h
 | r::_=>{ h with First:=⟨h.More+r.Cost,h.Arc.Print++r.Text,[]⟩ }
structure SmR (r:Ag):Prop where
 c0:0<=r.Cost
 c1:r.Cost<=1000000
 tx:r.Text.length<=1000000
 cl:r.Cells.length<=1000000
structure SmH (h:Ai):Prop where
 m0:0<=h.More
 m1:h.More<=1000000
 pr:h.Arc.Print.length<=1000000
 cl:h.Arc.Cells.length<=1000000
 rs:∀ r∈h.List,SmR r
theorem Xw {hs:List Ai} {i:Nat} {h:Ai} (hi:hs[i]?=some h) (hs1:SmH h) (hne:h.List≠[]) (n:Nat):D5 n (i:Int) hs=some (hs.set i (ldH h)):=by
 unfold D5;have e:=CY hi;have hlt:=AE hi;cases hL:h.List with
 | nil=>exact absurd hL hne
 | cons r l=>
  have hr:SmR r:=hs1.rs r (by rw[hL];simp);have e0:idx h.List 0=some r:=by rw[hL];rfl
  have e1:AZ .i64 h.More r.Cost=h.More+r.Cost:=Jf (by have:=hs1.m0;have:=hr.c0;omega) (by have:=hs1.m1;have:=hr.c1;omega);simp only[e,Jku,e0,Tm (show h.Arc.Print.length+r.Text.length<=9223372036854775807 by have:=hs1.pr;have:=hr.tx;omega),e1,Qo hlt];unfold ldH;rw[hL]
end Go.AI
end
section
namespace Go.AI
def gam (h:Ai):List Ag:=h.List.map (mpR h)
def Ld8 (h:Ai):Prop:=∃ r l,h.List=r::l/\h.First=⟨h.More+r.Cost,h.Arc.Print++r.Text,[]⟩
theorem Jcy {h:Ai} (hne:h.List≠[]):Ld8 (ldH h):=by
 unfold Ld8 ldH;split
 ·rename_i e;exact absurd e hne
 ·rename_i r l e;exact⟨r,l,e,rfl⟩
theorem Qy (h:Ai):(ldH h).List=h.List:=by unfold ldH;split<;>rfl
theorem Tr (h:Ai):(ldH h).Arc=h.Arc:=by unfold ldH;split<;>rfl
theorem Qz (h:Ai):(ldH h).More=h.More:=by unfold ldH;split<;>rfl
theorem KF (h:Ai):gam (ldH h)=gam h:=by
 unfold gam;rw[Qy];exact JkM λ r _=>by unfold mpR;rw[Tr,Qz]
theorem Jcz {h:Ai} (hs:SmH h):SmH (ldH h):=⟨by rw[Qz];exact hs.m0,by rw[Qz];exact hs.m1,by rw[Tr];exact hs.pr,by rw[Tr];exact hs.cl,by rw[Qy];exact hs.rs⟩
theorem JcA {α:Type} {l:List α} {i:Nat} {x:α} (h:l[i]?=some x):∃ u v,l=u++x::v/\u.length=i:=by
 have hl:=AE h;refine⟨l.take i,l.drop (i+1),?_,by simp;omega⟩;have e:l[i]=x:=by rw[JkO hl]at h;exact Option.some.inj h
 rw[← e,← List.drop_eq_getElem_cons hl,List.take_append_drop]
theorem OM {α:Type} (u v:List α) (x y:α):(u++x::v).set u.length y=u++y::v:=by simp
def mes (hs:List Ai):Nat:=(hs.map λ h=>h.List.length).sum
theorem JcB {hs:List Ai} (h1:∀ h∈hs,SmH h/\h.List≠[]) (hl:hs.length<1000000000) (p:Int) (s:Ad):Tot (λ n=>whl (λ (x:List Ai×Int)=>B0 n p s hs x.1 x.2) n (hs,0)) (λ r=>r=hs.map ldH):=by
 refine Tot.upto (body:=λ n (x:List Ai×Int)=>B0 n p s hs x.1 x.2) hs.length (λ i x=>x.2=(i:Int)/\x.1=(hs.take i).map ldH++hs.drop i) ?_ ?_ _ ⟨rfl,by simp⟩
 ·rintro i ⟨x,_⟩ hi ⟨rfl,hx⟩;simp only at hx;subst hx;unfold B0;have e:((hs.take i).map ldH++hs.drop i)=(hs.take i).map ldH++hs[i]::hs.drop (i+1):=by rw[List.drop_eq_getElem_cons hi]
  have hlen:((hs.take i).map ldH).length=i:=by simp;omega
  have hat:((hs.take i).map ldH++hs.drop i)[i]?=some hs[i]:=by
   rw[e,Jk6 (by omega),hlen];simp
  obtain⟨g1,g2⟩:=h1 _ (JkA hi);have e2:((hs.take i).map ldH++hs.drop i).set i (ldH hs[i])=(hs.take (i+1)).map ldH++hs.drop (i+1):=by
   rw[e];have:=OM ((hs.take i).map ldH) (hs.drop (i+1)) hs[i] (ldH hs[i]);rw[hlen]at this;rw[this,List.take_add_one,JkO hi];simp only[Option.toList_some,List.map_append,JkK,List.map_nil,List.append_assoc,List.singleton_append]
  refine Tot.iteT (GZ hi) (Tot.bindC (CY hat) (Jkn (λ n=>Xw hat g1 g2 n) (Tot.bindC (CZ (by simp)) (Jkl ⟨Ef (by omega),e2⟩))))
 ·rintro⟨x,_⟩ ⟨rfl,hx⟩;unfold B0;refine Tot.iteF (Ki _) (Jkl ?_);simp only at hx;subst hx;show _=_;simp
theorem Jec {hs:List Ai} {u v:List Ai} {h:Ai} {r:Ag} {l:List Ag} (he:hs=u++h::v) (hL:h.List=r::l) (hsm:SmH h) (hl:hs.length<1000000000) (f:List (List UInt8×Ag)) :
  Tot (λ n=>B1 n hs (u.length:Int) f) (Rd2 (λ y=>y.2=f/\((l≠[]/\y.1=u++ldH { h with List:=l }::v)\/(l=[]/\y.1=u++v))) (λ _=>False)):=by
 subst he;unfold B1;have hat:(u++h::v)[u.length]?=some h:=by simp
 have hsub:sub h.List 1 ((h.List.length:Nat):Int)=some l:=by rw[hL,U4 (by omega) (by simp;omega) (by omega)];simp
 have hll:u.length<(u++h::v).length:=by simp
 refine Tot.bindC (CY hat) (Tot.bindC hsub (Tot.bindC (CY hat) (Tot.bindC (Qo hll) ?_)));rw[OM];have hat2:(u++{ Arc:=h.Arc,More:=h.More,List:=l,First:=h.First }::v:List Ai)[u.length]?=some { Arc:=h.Arc,More:=h.More,List:=l,First:=h.First }:=by simp
 refine Tot.bindC (CY hat2) (Tot.ite (λ hc=>?_) λ hc=>?_)
 ·have hne:l≠[]:=λ e=>by subst e;simp at hc
  have hsm2:SmH { Arc:=h.Arc,More:=h.More,List:=l,First:=h.First }:=⟨hsm.m0,hsm.m1,hsm.pr,hsm.cl,λ q hq=>hsm.rs q (by rw[hL];simp[hq])⟩;refine Jkn (λ n=>Xw hat2 hsm2 hne n) (Tot.bindC (CZ (by simp)) (Jkl ⟨rfl,.inl ⟨hne,?_⟩⟩));exact OM _ _ _ _
 ·have hne:l=[]:=by
   cases l with
   | nil=>rfl
   | cons=>simp at hc<;>omega
  have hd:S1 0 (u.length:Int) (AZ .i64 (u.length:Int) 1) (u++{ Arc:=h.Arc,More:=h.More,List:=l,First:=h.First }::v)=some (u++v):=by
   unfold S1 Jd2;rw[Ef (by simp at hl;omega),if_pos ⟨by omega,by omega,by simp;omega⟩];simp
  exact Tot.bindC hd (Jkl ⟨rfl,.inr ⟨hne,rfl⟩⟩)
structure MI (All:Ag->Prop) (B:Int) (M:Nat) (hs:List Ai) (f:List (List UInt8×Ag)) (dn:Ag->Prop):Prop where
 ld:∀ h∈hs,Ld8 h/\SmH h/\(gam h).Pairwise klr
 rem:∀ h∈hs,∀ c∈gam h,∀ d,dn d->¬klr c d
 tot:∀ c,All c->dn c\/∃ h∈hs,c∈gam h
 snd:∀ d,dn d->All d/\d.Cost<=B
 sndh:∀ h∈hs,∀ c∈gam h,All c
 key:∀ x r,AR x f=some r->r.Text=x/\dn r
 fnd:∀ d,dn d->∃ r,AR d.Text f=some r/\le2 r d
 nd:(f.map Prod.fst).Nodup
 len:f.length<=M
def Xx (All:Ag->Prop) (B:Int) (M:Nat) (f:List (List UInt8×Ag)):Prop:=
 ∃ hs dn,MI All B M hs f dn/\(hs=[]\/∃ f0:Ag,(∃ h∈hs,f0∈gam h)/\(∀ h∈hs,∀ c∈gam h,¬klr c f0)/\(B<f0.Cost\/(AR f0.Text f=none/\f.length=M)))
theorem Nz {α:Type} (k:List UInt8) (v:α):∀ m:List (List UInt8×α),(BQ k v m).map Prod.fst=if k∈m.map Prod.fst then m.map Prod.fst else m.map Prod.fst++[k]
 | []=>by simp[BQ]
 | p::m=>by
  unfold BQ;by_cases e:k=p.1
  ·rw[if_pos e];simp[e]
  ·rw[if_neg e,JkK,Nz k v m];by_cases hm:k∈m.map Prod.fst
   ·rw[if_pos hm,if_pos (by simp only[JkK,List.mem_cons];exact .inr hm)];rfl
   ·rw[if_neg hm,if_neg (by simp only[JkK,List.mem_cons,not_or];exact⟨e,hm⟩)];rfl
theorem NA {α:Type} (k:List UInt8):∀ m:List (List UInt8×α),k∈m.map Prod.fst↔(AR k m).isSome=true
 | []=>by simp[AR]
 | p::m=>by
  unfold AR;by_cases e:k=p.1
  ·rw[if_pos e];simp[e]
  ·rw[if_neg e,JkK,List.mem_cons,NA k m];simp[e]
theorem Y6 {α:Type} (k:List UInt8) (v:α) (m:List (List UInt8×α)):(BQ k v m).length=if(AR k m).isSome=true then m.length else m.length+1:=by
 have:=congrArg List.length (Nz k v m);rw[JkJ]at this;rw[this];by_cases h:k∈m.map Prod.fst
 ·rw[if_pos h,if_pos ((NA k m).1 h)];simp
 ·rw[if_neg h,if_neg λ h'=>h ((NA k m).2 h')];simp
theorem JcC {α:Type} (k:List UInt8) (v:α) (m:List (List UInt8×α)) (h:(m.map Prod.fst).Nodup):((BQ k v m).map Prod.fst).Nodup:=by
 rw[Nz];split
 ·exact h
 ·rename_i hk;rw[List.nodup_append];refine⟨h,by simp,λ a ha b hb=>?_⟩;simp at hb;subst hb;intro e;subst e;exact hk ha
theorem MI.step {All:Ag->Prop} {B:Int} {M:Nat} {u v:List Ai} {h:Ai} {r:Ag} {l:List Ag} {f f':List (List UInt8×Ag)} {dn:Ag->Prop} {hs':List Ai}
  (hI:MI All B M (u++h::v) f dn) (hL:h.List=r::l) (hmin:∀ g∈u++h::v,∀ c∈gam g,¬klr c (mpR h r)) (hc:(mpR h r).Cost<=B)
  (hhs:(l≠[]/\hs'=u++ldH { h with List:=l }::v)\/(l=[]/\hs'=u++v))
  (hf:(f'=BQ (mpR h r).Text (mpR h r) f/\((AR (mpR h r).Text f=none/\f.length<M)\/∃ o,AR (mpR h r).Text f=some o/\o.Cost=(mpR h r).Cost/\ltB (mpR h r).Cells o.Cells)) \/
   (f'=f/\∃ o,AR (mpR h r).Text f=some o/\¬(o.Cost=(mpR h r).Cost/\ltB (mpR h r).Cells o.Cells))) :
  MI All B M hs' f' (λ d=>dn d\/d=mpR h r):=by
 have hg:gam h=mpR h r::gam { h with List:=l }:=by unfold gam;rw[hL];rfl
 have hmem:∀ g∈hs',g∈u++h::v\/(l≠[]/\g=ldH { h with List:=l }):=λ g hg'=>by
  rcases hhs with⟨h1,rfl⟩|⟨h1,rfl⟩
  ·simp only[List.mem_append,List.mem_cons]at hg'⊢;rcases hg' with h2|h2|h2
   ·exact .inl (.inl h2)
   ·exact .inr ⟨h1,h2⟩
   ·exact .inl (.inr (.inr h2))
  ·simp only[List.mem_append,List.mem_cons]at hg'⊢;rcases hg' with h2|h2
   ·exact .inl (.inl h2)
   ·exact .inl (.inr (.inr h2))
 have hh:h∈u++h::v:=by simp
 obtain⟨_,hsm,hpw⟩:=hI.ld h hh;rw[hg,List.pairwise_cons]at hpw;have hgam:∀ g∈hs',∀ c∈gam g,∃ g0∈u++h::v,c∈gam g0:=λ g hg' c hc'=>by
  rcases hmem g hg' with h1|⟨_,rfl⟩
  ·exact⟨g,h1,hc'⟩
  ·exact⟨h,hh,by rw[KF]at hc';rw[hg];exact List.mem_cons_of_mem _ hc'⟩
 have hold:∀ d,dn d->d.Text=(mpR h r).Text->d.Cost<=(mpR h r).Cost:=λ d hd ht=>by
  have:=hI.rem h hh (mpR h r) (by rw[hg];simp) d hd;rcases Int.lt_or_le (mpR h r).Cost d.Cost with h1|h1
  ·exact absurd (.inl h1) this
  ·exact h1
 refine⟨λ g hg'=>?_,λ g hg' c hc' d hd=>?_,λ c hc'=>?_,λ d hd=>?_,λ g hg' c hc'=>?_,λ x q hq=>?_,λ d hd=>?_,?_,?_⟩
 ·rcases hmem g hg' with h1|⟨h1,rfl⟩
  ·exact hI.ld g h1
  ·refine⟨Jcy h1,Jcz ⟨hsm.m0,hsm.m1,hsm.pr,hsm.cl,λ q hq=>hsm.rs q (by rw[hL];exact List.mem_cons_of_mem _ hq)⟩,?_⟩;rw[KF];exact hpw.2
 ·obtain⟨g0,hg0,hc0⟩:=hgam g hg' c hc';rcases hd with hd|rfl
  ·exact hI.rem g0 hg0 c hc0 d hd
  ·exact hmin g0 hg0 c hc0
 ·rcases hI.tot c hc' with h1|⟨g,hg',hc''⟩
  ·exact .inl (.inl h1)
  ·by_cases e:g=h
   ·subst e;rw[hg]at hc'';rcases List.mem_cons.1 hc'' with h1|h1
    ·exact .inl (.inr h1)
    ·right;rcases hhs with⟨h2,rfl⟩|⟨h2,rfl⟩
     ·exact⟨ldH { g with List:=l },by simp,by rw[KF];exact h1⟩
     ·subst h2;simp[gam]at h1
   ·right;refine⟨g,?_,hc''⟩;simp only[List.mem_append,List.mem_cons]at hg';rcases hhs with⟨h2,rfl⟩|⟨h2,rfl⟩
    ·simp only[List.mem_append,List.mem_cons];rcases hg' with h3|h3|h3
     ·exact .inl h3
     ·exact absurd h3 e
     ·exact .inr (.inr h3)
    ·simp only[List.mem_append];rcases hg' with h3|h3|h3
     ·exact .inl h3
     ·exact absurd h3 e
     ·exact .inr h3
 ·rcases hd with hd|rfl
  ·exact hI.snd d hd
  ·exact⟨hI.sndh h hh (mpR h r) (by rw[hg];simp),hc⟩
 ·obtain⟨g0,hg0,hc0⟩:=hgam g hg' c hc';exact hI.sndh g0 hg0 c hc0
 ·rcases hf with⟨rfl,_⟩|⟨rfl,_⟩
  ·rw[Ib]at hq;split at hq
   ·rename_i e;cases hq;exact⟨e.symm,.inr rfl⟩
   ·obtain⟨h1,h2⟩:=hI.key x q hq;exact⟨h1,.inl h2⟩
  ·obtain⟨h1,h2⟩:=hI.key x q hq;exact⟨h1,.inl h2⟩
 ·rcases hf with⟨rfl,h3⟩|⟨rfl,o,ho,h3⟩
  ·rcases hd with hd|rfl
   ·obtain⟨q,hq,hle⟩:=hI.fnd d hd;rw[Ib];split
    ·rename_i e;refine⟨_,rfl,?_⟩;rcases h3 with⟨h3,_⟩|⟨o,ho,h4,h5⟩
     ·rw[e,h3]at hq;cases hq
     ·rw[e,ho]at hq;cases hq;exact Ny (.inr ⟨h4.symm,λ h6=>R0 h5 h6⟩) hle
    ·exact⟨q,hq,hle⟩
   ·exact⟨_,by rw[Ib,if_pos rfl],ML _⟩
  ·rcases hd with hd|rfl
   ·exact hI.fnd d hd
   ·refine⟨o,ho,?_⟩;obtain⟨h4,h5⟩:=hI.key _ _ ho;have h6:=hold o h5 h4;rcases Int.lt_or_eq_of_le h6 with h7|h7
    ·exact .inl h7
    ·exact .inr ⟨h7,λ h8=>h3 ⟨h7,h8⟩⟩
 ·rcases hf with⟨rfl,_⟩|⟨rfl,_⟩
  ·exact JcC _ _ _ hI.nd
  ·exact hI.nd
 ·rcases hf with⟨rfl,h3⟩|⟨rfl,_⟩
  ·rw[Y6];rcases h3 with⟨h3,h4⟩|⟨o,h3,_⟩
   ·rw[h3,if_neg (by simp)];omega
   ·rw[h3];simpa using hI.len
  ·exact hI.len
end Go.AI
end
section
namespace Go.AI
theorem NB {a b c d:Ag} (h1:a.Cost=b.Cost) (h2:a.Text=b.Text) (h3:c.Cost=d.Cost) (h4:c.Text=d.Text):klr a c↔klr b d:=by unfold klr;rw[h1,h2,h3,h4]
theorem Jed {u v:List Ai} {h:Ai}:mes (u++h::v)=mes (u++v)+h.List.length:=by simp[mes];omega
theorem Jee {u v:List Ai} {h g:Ai}:mes (u++h::v)+g.List.length=mes (u++g::v)+h.List.length:=by simp[mes];omega
theorem JcD {All:Ag->Prop} {B:Int} {M:Nat} {s:Ad} (hM:s.Most=(M:Int)) {hs:List Ai} (hI:MI All B M hs [] (λ _=>False)) (hl:hs.length<1000000000) :
  Tot (λ n=>whl (λ (x:List Ai×List (List UInt8×Ag))=>Cp n B s x.1 x.2) n (hs,[])) (Xx All B M):=by
 refine Tot.whl (body:=λ n (x:List Ai×List (List UInt8×Ag))=>Cp n B s x.1 x.2) (λ k x=>∃ dn,MI All B M x.1 x.2 dn/\k=mes x.1/\x.1.length<1000000000) ?_ (mes hs) _ ⟨_,hI,rfl,hl⟩;rintro k ⟨hs,f⟩ ⟨dn,hI,rfl,hl⟩;simp only at *;unfold Cp;by_cases h0:hs=[]
 ·subst h0;exact Tot.iteF (by simp) (Jkl ⟨[],dn,hI,.inl rfl⟩)
 have hpos:0<hs.length:=List.length_pos_iff.2 h0;refine Tot.iteT (by simp;omega) (Tot.bind (Jea hs h0 hl) λ m ⟨hm,hmin⟩=>Tot.bind (Jeb hs m hm hl) ?_);rintro _ ⟨i,h,rfl,hi,e1,e2⟩;obtain⟨u,v,he,hul⟩:=JcA hi;have hh:h∈hs:=JkQ hi;obtain⟨⟨r,l,hL,hF⟩,hsm,hpw⟩:=hI.ld h hh;have hFc:h.First.Cost=(mpR h r).Cost:=by rw[hF];rfl
 have hFt:h.First.Text=(mpR h r).Text:=by rw[hF];rfl
 have hle:∀ g∈hs,∀ c∈gam g,¬klr c (mpR h r):=λ g hg c hc hk=>by
  obtain⟨⟨r',l',hL',hF'⟩,_,hpw'⟩:=hI.ld g hg;have h3:¬klr g.First m.First:=hmin g hg;rw[NB (b:=mpR g r') (d:=mpR h r) (by rw[hF'];rfl) (by rw[hF'];rfl) (by rw[← e1,hFc]) (by rw[← e2,hFt])]at h3;have hg':gam g=mpR g r'::l'.map (mpR g):=by unfold gam;rw[hL'];rfl
  rw[hg']at hc hpw';rcases List.mem_cons.1 hc with rfl|hc
  ·exact h3 hk
  ·exact h3 (Fq ((List.pairwise_cons.1 hpw').1 c hc) hk)
 refine Tot.bindC (CY hi) (Tot.ite (λ hc=>?_) λ hc=>?_)
 ·refine Jkl ⟨hs,dn,hI,.inr ⟨mpR h r,⟨h,hh,by unfold gam;rw[hL];simp⟩,hle,?_⟩⟩;rw[← hFc,← hFt];simp only[Jk7,decide_eq_true_eq,JkP,Bool.not_eq_true',Option.isSome_eq_false_iff,Option.isNone_iff_eq_none,beq_iff_eq,hM]at hc;rcases hc with hc|⟨hc,hc2⟩
  ·exact .inl (by omega)
  ·exact .inr ⟨hc,by omega⟩
 ·simp only[JkN,decide_eq_false_iff_not,hM]at hc;obtain⟨hc1,hc2⟩:=hc;have hcB:(mpR h r).Cost<=B:=by rw[← hFc];omega
  have h00:idx h.List 0=some r:=by rw[hL];rfl
  have hr:=hsm.rs r (by rw[hL];simp);refine Tot.bindC h00 (Tot.bindC (Tm (by have:=hsm.cl;have:=hr.cl;omega)) ?_);have nx:∀ f',((f'=BQ (mpR h r).Text (mpR h r) f/\((AR (mpR h r).Text f=none/\f.length<M)\/∃ o,AR (mpR h r).Text f=some o/\o.Cost=(mpR h r).Cost/\ltB (mpR h r).Cells o.Cells)) \/
   (f'=f/\∃ o,AR (mpR h r).Text f=some o/\¬(o.Cost=(mpR h r).Cost/\ltB (mpR h r).Cells o.Cells))) ->
   Tot (λ n=>B1 n hs (i:Int) f') (Rd2 (λ y=>∃ j,j<mes hs/\∃ dn,MI All B M y.1 y.2 dn/\j=mes y.1/\y.1.length<1000000000) (Xx All B M)):=λ f' hf'=>by
   rw[← hul];refine(Jec he hL hsm hl f').mono λ z hz=>?_;cases z with
   | inr z=>exact hz.elim
   | inl z=>
    obtain⟨hz1,hz2⟩:=hz;rw[he]at hI hle;have hst:=hI.step hL hle hcB hz2 hf';refine⟨mes z.1,?_,_,by rw[hz1];exact hst,rfl,?_⟩
    ·rw[he];rcases hz2 with⟨_,e⟩|⟨_,e⟩
     ·rw[e];have:=Jee (u:=u) (v:=v) (h:=h) (g:=ldH { h with List:=l });rw[Qy,hL]at this;simp only[List.length_cons]at this;omega
     ·rw[e,Jed,hL];simp
    ·rw[he]at hl;rcases hz2 with⟨_,e⟩|⟨_,e⟩<;>rw[e]<;>simp at hl⊢<;>omega
  rw[hFt,hFc]at *;refine Tot.ite (λ hd=>?_) λ hd=>?_
  ·refine nx _ (.inl ⟨rfl,?_⟩);cases hg:AR (mpR h r).Text f with
   | none=>
    rw[hg]at hc2;left;refine⟨rfl,?_⟩;have:=hI.len;simp at hc2;omega
   | some o=>
    right;rw[hg]at hd;simp only[Option.isSome_some,JkB,Bool.false_or,Jkz,JkP,beq_iff_eq]at hd;exact⟨o,rfl,hd.1,hd.2⟩
  ·refine nx _ (.inr ⟨rfl,?_⟩);cases hg:AR (mpR h r).Text f with
   | none=>rw[hg]at hd;simp at hd
   | some o=>
    rw[hg]at hd;refine⟨o,rfl,λ hx=>?_⟩;have h2:Op.bytesLess (h.Arc.Cells++r.Cells) o.Cells=true:=hx.2;simp[hx.1,h2]at hd
theorem Kl {α:Type} {p:List UInt8×α}:∀ {f:List (List UInt8×α)},p∈f->(f.map Prod.fst).Nodup->AR p.1 f=some p.2
 | q::f,hp,hnd=>by
  unfold AR;rw[JkK,List.nodup_cons]at hnd;rcases List.mem_cons.1 hp with rfl|hp
  ·rw[if_pos rfl]
  ·rw[if_neg (λ e=>hnd.1 (by rw[← e];exact List.mem_map_of_mem hp))];exact Kl hp hnd.2
theorem Xy {α:Type} {x:List UInt8} {r:α}:∀ {f:List (List UInt8×α)},AR x f=some r->(x,r)∈f
 | q::f,hx=>by
  unfold AR at hx;split at hx
  ·rename_i e;cases hx;subst e;simp
  ·exact List.mem_cons_of_mem _ (Xy hx)
theorem Xx.bst {All T:Ag->Prop} {B:Int} {M:Nat} {f:List (List UInt8×Ag)} (h:Xx All B M f) {l:List Ag} (hp:l.Perm (f.map Prod.snd)) (hs:l.Pairwise λ a b=>¬klr b a)
  (hsnd:∀ c,All c->T c) (hcov:∀ r,T r->r.Cost<=B->(∃ c,All c/\c.Text=r.Text/\le2 c r)\/∃ cs:List Ag,cs.length=M/\cs.Pairwise (λ a b=>a.Text≠b.Text)/\∀ c∈cs,All c/\klr c r):Bst T B M l:=by
 obtain⟨hs',dn,hI,hend⟩:=h;have hml:∀ r∈l,AR r.Text f=some r/\dn r:=λ r hr=>by
  obtain⟨p,hp,rfl⟩:=JkG.1 (hp.mem_iff.1 hr);have hm:=Kl hp hI.nd;obtain⟨h1,h2⟩:=hI.key _ _ hm;exact⟨by rw[h1];exact hm,h2⟩
 have hin:∀ x r,AR x f=some r->r∈l:=λ x r hx=>by
  rw[hp.mem_iff];exact JkG.2 ⟨_,Xy hx,rfl⟩
 have hlen:l.length=f.length:=by rw[hp.length_eq,JkJ]
 have hdst:∀ r∈l,∀ s∈l,r.Text=s.Text->r=s:=λ r hr s hs2 e=>by
  have h1:=(hml r hr).1;rw[e,(hml s hs2).1]at h1;exact(Option.some.inj h1).symm
 have hnd:l.Nodup:=by
  rw[hp.nodup_iff];have h1:=hI.nd;rw[List.Nodup,List.pairwise_map]at h1⊢;refine List.Pairwise.imp_of_mem (λ {a b} ha hb hab e=>hab ?_) h1;rw[← (hI.key _ _ (Kl ha hI.nd)).1,← (hI.key _ _ (Kl hb hI.nd)).1,e]
 have hsrt:l.Pairwise klr:=by
  refine List.Pairwise.imp_of_mem (λ {a b} ha hb hab=>?_) (hs.and hnd);obtain⟨h1,h2⟩:=hab;rcases Fr a b with h3|h3|⟨_,h3⟩
  ·exact h3
  ·exact absurd h3 h1
  ·exact absurd (hdst a ha b hb h3) h2
 refine⟨λ r hr=>⟨hsnd r (hI.snd r (hml r hr).2).1,(hI.snd r (hml r hr).2).2⟩,hsrt,hdst,λ r hr hrB=>?_,by rw[hlen];exact hI.len⟩;have hdone:∀ c,dn c->∃ s∈l,s.Text=c.Text/\le2 s c:=λ c hc=>by
  obtain⟨s,h1,h2⟩:=hI.fnd c hc;exact⟨s,hin _ _ h1,(hI.key _ _ h1).1,h2⟩
 have hrest:∀ c,All c->c.Cost<=B->¬dn c->l.length=M/\∃ f0:Ag,¬klr c f0/\AR f0.Text f=none/\∀ s∈l,klr s f0:=λ c hc hcB hnd=>by
  rcases hI.tot c hc with h1|⟨g,hg,hcg⟩
  ·exact absurd h1 hnd
  ·rcases hend with rfl|⟨f0,⟨g0,hg0,hf0⟩,h1,h2⟩
   ·simp at hg
   ·have h3:=h1 g hg c hcg;rcases h2 with h2|⟨h2,h4⟩
    ·exact absurd (.inl (by omega)) h3
    ·refine⟨by rw[hlen];exact h4,f0,h3,h2,λ s hs2=>?_⟩;obtain⟨h5,h6⟩:=hml s hs2;have h7:=hI.rem g0 hg0 f0 hf0 s h6;rcases Fr s f0 with h8|h8|⟨_,h8⟩
     ·exact h8
     ·exact absurd h8 h7
     ·rw[h8,h2]at h5;cases h5
 have hbehind:∀ c,All c->c.Cost<=B->¬dn c->∀ r:Ag,¬klr r c->l.length=M/\∀ s∈l,klr s r:=λ c hc hcB hnd r hrc=>by
  obtain⟨h1,f0,h2,_,h4⟩:=hrest c hc hcB hnd;refine⟨h1,λ s hs2=>?_⟩;have h5:¬klr r f0:=Qt hrc h2;rcases Fr s r with h6|h6|⟨h6,h7⟩
  ·exact h6
  ·exact absurd (Fq h6 (h4 s hs2)) h5
  ·exact absurd ((NB h6 h7 rfl rfl).1 (h4 s hs2)) h5
 rcases hcov r hr hrB with⟨c,hc,hct,hcle⟩|⟨cs,hcl,hcd,hcs⟩
 ·have hcB:c.Cost<=B:=by rcases hcle with h1|⟨h1,_⟩<;>omega
  by_cases hd:dn c
  ·left;obtain⟨s,hs2,hst,hsle⟩:=hdone c hd;exact⟨s,hs2,hst.trans hct,Ny hsle hcle⟩
  ·right;refine hbehind c hc hcB hd r λ hk=>?_;rcases hk with hk|⟨_,hk⟩
   ·rcases hcle with h1|⟨h1,_⟩<;>omega
   ·rw[hct]at hk;exact CK _ hk
 ·right;by_cases hall:∀ c∈cs,dn c
  ·
   have hcB:∀ c∈cs,∃ s∈l,s.Text=c.Text/\le2 s c:=λ c hc=>hdone c (hall c hc);have htx:∀ x∈cs.map (·.Text),x∈l.map (·.Text):=λ x hx=>by
    obtain⟨c,hc,rfl⟩:=JkG.1 hx;obtain⟨s,h1,h2,_⟩:=hcB c hc;exact JkG.2 ⟨s,h1,h2⟩
   have hcn:(cs.map (·.Text)).Nodup:=by rw[List.Nodup,List.pairwise_map];exact hcd
   have hle:=Gp hcn htx;simp only[JkJ,hcl]at hle;have hlM:l.length=M:=by have:=hI.len;omega
   refine⟨hlM,λ s hs2=>?_⟩;have hsub:∀ x∈l.map (·.Text),x∈cs.map (·.Text):=by
    intro x hx;by_cases hxc:x∈cs.map (·.Text)
    ·exact hxc
    ·exfalso;have h1:(x::cs.map (·.Text)).Nodup:=List.nodup_cons.2 ⟨hxc,hcn⟩;have h2:=Gp h1 (m:=l.map (·.Text)) λ y hy=>by
      rcases List.mem_cons.1 hy with rfl|hy
      ·exact hx
      ·exact htx y hy
     simp[hcl,hlM]at h2;omega
   obtain⟨c,hc,hct⟩:=JkG.1 (hsub s.Text (List.mem_map_of_mem hs2));obtain⟨s',hs3,hst,hsle⟩:=hcB c hc;have:=hdst s' hs3 s hs2 (hst.trans hct);subst this;have h3:=(hcs c hc).2;rcases hsle with h4|⟨h4,_⟩
   ·rcases h3 with h3|⟨h3,_⟩
    ·exact .inl (by omega)
    ·exact .inl (by omega)
   ·exact(NB h4 hst rfl rfl).2 h3
  ·obtain⟨c,hc⟩:=Classical.not_forall.1 hall;obtain⟨hc,hnd2⟩:=Classical.not_imp.1 hc;obtain⟨h1,h2⟩:=hcs c hc;exact hbehind c h1 (by rcases h2 with h2|⟨h2,_⟩<;>omega) hnd2 r (If h2)
end Go.AI
end
section
namespace Go.AI
theorem R3 {α:Type}:∀ l:List α,∃ L:List (List α),∀ o:List α,o.Perm l->o∈L
 | []=>⟨[[]],λ o ho=>by rw[ho.eq_nil];simp⟩
 | a::l=>by
  obtain⟨L,hL⟩:=R3 l;refine⟨L.flatMap λ u=>(List.range (u.length+1)).map λ i=>u.take i++a::u.drop i,λ o ho=>?_⟩;obtain⟨x,y,rfl⟩:=List.append_of_mem (ho.mem_iff.2 (List.mem_cons_self));have h1:(x++y).Perm l:=(List.perm_middle.symm.trans ho).cons_inv;rw[List.mem_flatMap];refine⟨x++y,hL _ h1,JkG.2 ⟨x.length,List.mem_range.2 (by simp;omega),by simp⟩⟩
theorem Ev.demP {ε ζ:Type} {k:Nat->List ε->Option ζ} {m:List ε} {z:ζ} (h:∀ o:List ε,o.Perm m->Ev (λ n=>k n o) z):Ev (λ n=>dem (λ o:List ε=>List.Perm o m) (k n)) z:=by
 obtain⟨L,hL⟩:=R3 m;have:∀ L:List (List ε),∃ N,∀ o∈L,o.Perm m->∀ n,N<=n->k n o=some z:=by
  intro L;induction L with
  | nil=>exact⟨0,λ o ho=>by simp at ho⟩
  | cons a L ih=>
   obtain⟨N,hN⟩:=ih;by_cases hp:a.Perm m
   ·obtain⟨N2,h2⟩:=h a hp;refine⟨max N N2,λ o ho hop n hn=>?_⟩;rcases List.mem_cons.1 ho with rfl|ho
    ·exact h2 n (by omega)
    ·exact hN o ho hop n (by omega)
   ·refine⟨N,λ o ho hop n hn=>?_⟩;rcases List.mem_cons.1 ho with rfl|ho
    ·exact absurd hop hp
    ·exact hN o ho hop n hn
 obtain⟨N,hN⟩:=this L;exact⟨N,λ n hn=>Jat ⟨m,List.Perm.refl m⟩ λ o ho=>hN o (hL o ho) ho n hn⟩
theorem Tot.demP {ε ζ:Type} {P:ζ->Prop} {k:Nat->List ε->Option ζ} {m:List ε} (z:ζ) (h:∀ o:List ε,o.Perm m->Tot (λ n=>k n o) (λ y=>y=z)) (hp:P z):Tot (λ n=>dem (λ o:List ε=>List.Perm o m) (k n)) P:=
 (Ev.demP λ o ho=>(h o ho).ev).tot hp
theorem Tot.mapW {ε σ:Type} {F:Nat->ε->σ->Option (σ⊕Empty)} {o:List ε} (I:List ε->σ->Prop) (step:∀ u e v x,o=u++e::v->I u x->Tot (λ n=>F n e x) (Rd2 (I (u++[e])) (λ _=>True))) {x:σ} (h0:I [] x):Tot (λ n=>Go.AI.mapW (F n) o x) (Rd2 (I o) (λ _=>True)):=by
 have key:∀ (v u:List ε) (x:σ),o=u++v->I u x->Tot (λ n=>Go.AI.mapW (F n) v x) (Rd2 (I o) (λ _=>True)):=by
  intro v;induction v with
  | nil=>intro u x ho hx;rw[List.append_nil]at ho;subst ho;exact Jkl hx
  | cons e v ih=>
   intro u x ho hx;obtain⟨z,hz,N1,h1⟩:=step u e v x ho hx;cases z with
   | inr z=>exact nomatch z
   | inl y=>
    obtain⟨w,hw,N2,h2⟩:=ih (u++[e]) y (by rw[ho];simp) hz;refine⟨w,hw,max N1 N2,λ n hn=>?_⟩;have e1:=h1 n (by omega);have e2:=h2 n (by omega);simp only at e1 e2;simp only[Go.AI.mapW,e1];exact e2
 exact key o [] x rfl h0
theorem JcE {T:Ag->Prop} {B:Int} {M:Nat} {s:Ad} (hM:s.Most=(M:Int)) (hM1:M<=1000) {hs:List Ai} (hl:hs.length<1000000000) (hsm:∀ h∈hs,SmH h)
  (hsnd:∀ h∈hs,∀ c∈gam h,T c) (hsrt:∀ h∈hs,(gam h).Pairwise klr) (hdst:∀ h∈hs,(gam h).Pairwise λ a b=>a.Text≠b.Text)
  (hcov:∀ r,T r->r.Cost<=B->∃ h∈hs,h.List≠[]/\((∃ c∈gam h,c.Text=r.Text/\le2 c r)\/((gam h).length=M/\∀ c∈gam h,klr c r))):Tot (λ n=>CU n B s hs) (Bst T B M):=by
 unfold CU;refine Tot.bind (JhO hs hl) ?_;rintro _ rfl;have hne:∀ h∈hs.filter neH,h∈hs/\h.List≠[]:=λ h hh=>by
  rw[List.mem_filter]at hh;refine⟨hh.1,λ e=>?_⟩;have:=hh.2;unfold neH at this;rw[e]at this;simp at this
 have hnf:∀ h∈hs,h.List≠[]->h∈hs.filter neH:=λ h h1 h2=>by
  rw[List.mem_filter];refine⟨h1,?_⟩;unfold neH;cases e:h.List with
  | nil=>exact absurd e h2
  | cons=>rfl
 have hlf:(hs.filter neH).length<1000000000:=by have:=List.length_filter_le neH hs;omega
 refine Tot.bind (JcB (λ h hh=>⟨hsm h (hne h hh).1,(hne h hh).2⟩) hlf B s) ?_;rintro _ rfl;let All:Ag->Prop:=λ c=>∃ h∈hs.filter neH,c∈gam h;have hI:MI All B M ((hs.filter neH).map ldH) [] (λ _=>False):=by
  refine⟨λ h hh=>?_,λ _ _ _ _ _ hd=>hd.elim,λ c hc=>?_,λ _ hd=>hd.elim,λ h hh c hc=>?_,λ x r hx=>(by cases hx),λ _ hd=>hd.elim,by simp,by simp⟩
  ·obtain⟨g,hg,rfl⟩:=JkG.1 hh;obtain⟨h1,h2⟩:=hne g hg;exact⟨Jcy h2,Jcz (hsm g h1),by rw[KF];exact hsrt g h1⟩
  ·obtain⟨h,hh,hc⟩:=hc;exact .inr ⟨ldH h,List.mem_map_of_mem hh,by rw[KF];exact hc⟩
  ·obtain⟨g,hg,rfl⟩:=JkG.1 hh;rw[KF]at hc;exact⟨g,hg,hc⟩
 refine Tot.bind (JcD hM hI (by simpa using hlf)) λ f hf=>?_;have hfl:f.length<=M:=by obtain⟨_,_,h,_⟩:=hf;exact h.len
 have hfd:∀ r∈f.map Prod.snd,∀ s∈f.map Prod.snd,r.Text=s.Text->r=s:=by
  obtain⟨_,dn,hI,_⟩:=hf;have hml:∀ r∈f.map Prod.snd,AR r.Text f=some r:=λ r hr=>by
   obtain⟨p,hp,rfl⟩:=JkG.1 hr;have hm:=Kl hp hI.nd;rw[(hI.key _ _ hm).1];exact hm
  intro r hr s hs e;have h1:=hml r hr;rw[e,hml s hs]at h1;exact(Option.some.inj h1).symm
 obtain⟨z,hzp,hzs,hz⟩:=Vk hfd (by simp;omega);refine Tot.demP z (λ o ho=>?_) ?_
 ·have hmw:Tot (λ n=>mapW (λ (e:List UInt8×Ag) (x:List Ag)=>BA n e x) o ([]:List Ag)) (Rd2 (λ x=>x=o.map Prod.snd) (λ _=>True)):=by
   refine Tot.mapW (F:=λ n e x=>BA n e x) (λ u x=>x=u.map Prod.snd) (λ u e v x hu hx=>?_) rfl;subst hx;unfold BA;have:u.length<=f.length:=by rw[← ho.length_eq,hu];simp
   exact Tot.bindC (IX (by simp;omega)) (Jkl (by show _=_;simp))
  refine Tot.bind hmw ?_;rintro (y|y) hy
  ·have hy:y=o.map Prod.snd:=hy;subst hy;have hpo:(o.map Prod.snd).Perm (f.map Prod.snd):=ho.map _;obtain⟨z',hzp',hzs',hz'⟩:=Vk (m:=o.map Prod.snd) (λ r hr s hs e=>hfd r (hpo.mem_iff.1 hr) s (hpo.mem_iff.1 hs) e) (by rw[hpo.length_eq];simp;omega);have ezz:z'=z:=by
    refine List.Perm.eq_of_pairwise (le:=λ a b=>¬klr b a) (λ a b ha hb h1 h2=>?_) hzs' hzs (hzp'.trans (hpo.trans hzp.symm));rcases Fr a b with h3|h3|⟨_,h3⟩
    ·exact absurd h3 h2
    ·exact absurd h3 h1
    ·exact hfd a (hpo.mem_iff.1 (hzp'.mem_iff.1 ha)) b (hzp.mem_iff.1 hb) h3
   subst ezz;have hev:Ev (λ n=>JQ n (o.map Prod.snd)) z':=⟨3,λ n hn=>by
    obtain⟨q,rfl⟩:∃ q,n=q+3:=⟨n-3,by omega⟩;exact hz' q⟩
   exact Jkm hev (Tot.bindC (CZ (by rw[hzp'.length_eq];simp)) (Jkl rfl))
  ·exact nomatch y
 ·refine hf.bst hzp hzs (λ c hc=>?_) λ r hr hrB=>?_
  ·obtain⟨h,hh,hc⟩:=hc;exact hsnd h (hne h hh).1 c hc
  ·obtain⟨h,hh,hn,h1⟩:=hcov r hr hrB;rcases h1 with⟨c,hc,h2,h3⟩|⟨h2,h3⟩
   ·exact .inl ⟨c,⟨h,hnf h hh hn,hc⟩,h2,h3⟩
   ·exact .inr ⟨gam h,h2,hdst h hh,λ c hc=>⟨⟨h,hnf h hh hn,hc⟩,h3 c hc⟩⟩
end Go.AI
end
section
namespace Go.AI
def clb (t:Ab) (k:Nat):List UInt8:=(cls t k).map λ c=>UInt8.ofNat c.toNat
structure JcF (t:Ab) (st:List Af) (i m:Nat) (l:List Hu):Prop where
 len:l.length<=m
 snd:∀ a∈l,∃ j k:Nat,Edge t st i k j/\a=⟨prt t k,clb t k,(j:Int)⟩
 cov:∀ k j:Nat,k<m->Edge t st i k j->(⟨prt t k,clb t k,(j:Int)⟩:Hu)∈l
structure SrK (t:Ab) (fl:List Ay) (bu mo:Int) (s:Ad):Prop where
 felt:s.Felt=fl
 bud:s.Budget=bu
 most:s.Most=mo
 len:s.Arcs.length=(AH t).length
 acc:∀ (i:Nat) q,(AH t)[i]?=some q->s.Accepts[i]?=some (Bk t q)
 arcs:∀ (i:Nat) l,s.Arcs[i]?=some l->JcF t (AH t) i t.Rules.length l
structure SJ (t:Ab) (fl:List Ay) (bu mo:Int) (i m c:Nat) (s:Ad):Prop where
 felt:s.Felt=fl
 bud:s.Budget=bu
 most:s.Most=mo
 len:s.Arcs.length=(AH t).length
 aln:s.Accepts.length=(AH t).length
 acc:∀ (j:Nat) q,j<c->(AH t)[j]?=some q->s.Accepts[j]?=some (Bk t q)
 arcs:∀ (j:Nat) l,s.Arcs[j]?=some l->(j<i->JcF t (AH t) j t.Rules.length l)/\(j=i->JcF t (AH t) i m l)/\(i<j->l=[])
theorem JcF.nil (t:Ab) (st:List Af) (i:Nat):JcF t st i 0 []:=⟨JkD _,λ a h=>by simp at h,λ k j h=>by omega⟩
theorem WG {t:Ab} (ht:TbK t) {fl:List Ay} {bu mo:Int} {nb:List (Af×Int)} (hN:Je (AH t) nb) {i:Nat} {q:Af} (hi:(AH t)[i]?=some q) {s:Ad} (hs:SJ t fl bu mo i 0 (i+1) s) :
  Tot (λ n=>whl (λ (x:Ad×Int)=>Ct n t (AH t) nb (i:Int) q x.1 x.2) n (s,0)) (SJ t fl bu mo (i+1) 0 (i+1)):=by
 obtain⟨hF,hD⟩:=DQ ht.tab;have hil:=AE hi;have h768:=hF.len;have hr:=ht.tab.1;refine Tot.upto (body:=λ n (x:Ad×Int)=>Ct n t (AH t) nb (i:Int) q x.1 x.2) t.Rules.length (λ m x=>x.2=(m:Int)/\SJ t fl bu mo i m (i+1) x.1) ?_ ?_ _ ⟨rfl,hs⟩
 ·rintro m ⟨s,_⟩ hm ⟨rfl,hs⟩;unfold Ct;refine Tot.iteT (by simp;omega) (Tot.bindC (Ve (k:=(m:Int)) (by omega) (by omega)) (Jkn (λ n=>OH ht.tab.short n q (m:Nat)) ?_));have nxt:∀ s',SJ t fl bu mo i (m+1) (i+1) s'->Tot (λ n=>DN n (m:Int) s') (Rd2 (λ x=>x.2=((m+1:Nat):Int)/\SJ t fl bu mo i (m+1) (i+1) x.1) (SJ t fl bu mo (i+1) 0 (i+1))):=λ s' hs'=>Jkl ⟨Ef (by omega),hs'⟩;by_cases hst:(Bv t q (m:Nat)).2=true
  ·have hmem:=hD (i+1) i q (by omega) hi m hm hst;obtain⟨j,hjl,hj⟩:=List.mem_iff_getElem.1 hmem;have hj':(AH t)[j]?=some (Bv t q (m:Nat)).1:=by rw[JkO hjl,hj]
   have hE:Edge t (AH t) i m j:=⟨q,_,hi,hm,hj',by rw[← hst]⟩;have hnum:Option.getD (AR (Bv t q (m:Nat)).1 nb) 0=(j:Int):=by rw[hN,Cq hF.nodup hj'];rfl
   refine Tot.iteF (by rw[hst];rfl) ?_;obtain⟨_,c4,_,c63⟩:=E3 ht hm;have hcells:Tot (λ n=>whl (λ (x:List Int×Int)=>Cs n t (AH t) nb (i:Int) q s (m:Int) (Er t (m:Int)) (Bv t q (m:Nat)) x.1 x.2) n (([]:List Int),0)) (λ r=>r=cls t m):=by
    refine Tot.upto (body:=λ n (x:List Int×Int)=>Cs n t (AH t) nb (i:Int) q s (m:Int) (Er t (m:Int)) (Bv t q (m:Nat)) x.1 x.2) (cls t m).length (λ a x=>x.2=(a:Int)/\x.1=(cls t m).take a) ?_ ?_ _ ⟨rfl,rfl⟩
    ·rintro a ⟨x,_⟩ ha ⟨rfl,hx⟩;simp only at hx;subst hx;unfold Cs;refine Tot.iteT (GZ ha) (Tot.bindC (Cl ha) (Tot.bindC (IX (by simp;omega)) (Jkl ⟨Ef (by omega),?_⟩)));show _=_;rw[List.take_add_one,JkO ha];rfl
    ·rintro⟨x,_⟩ ⟨rfl,hx⟩;simp only at hx;subst hx;unfold Cs;exact Tot.iteF (Ki _) (Jkl (List.take_length))
   refine Tot.bind hcells ?_;rintro _ rfl;have hial:i<s.Arcs.length:=by rw[hs.len];exact hil
   have hai:=JkO hial;obtain⟨_,hA,_⟩:=hs.arcs i _ hai;have hA:=hA rfl;have hb:Uq (cls t m)=some (clb t m):=by
    unfold Uq;rw[if_pos]
    ·rfl
    ·rw[Jky];intro c hc;have:=c63 c hc;simp;omega
   refine Tot.bindC (Cl hial) (Tot.bindC hb (Tot.bindC (IX (by have:=hA.len;simp;omega)) (nxt _ ?_)));refine⟨hs.felt,hs.bud,hs.most,by simpa using hs.len,hs.aln,hs.acc,λ j' l hl=>?_⟩;rw[hnum,JkX,List.getElem?_set]at hl;split at hl
   ·rename_i e;subst e
    try rw[if_pos hial]at hl
    cases hl;refine⟨λ h=>absurd h (Nat.lt_irrefl _),λ _=>⟨by have:=hA.len;simp;omega,λ a ha=>?_,λ k j2 hk hE2=>?_⟩,λ h=>absurd h (Nat.lt_irrefl _)⟩
    ·rcases List.mem_append.1 ha with h|h
     ·exact hA.snd a h
     ·simp only[List.mem_singleton]at h;subst h;exact⟨j,m,hE,rfl⟩
    ·by_cases e:k=m
     ·subst e;obtain⟨s1,s2,k1,_,k3,k4⟩:=hE2;rw[hi]at k1;cases k1;have:j2=j:=Xp hF.nodup (s:=s2) k3 (by rw[hj'];rw[k4]);subst this;exact List.mem_append_right _ (List.mem_singleton.2 rfl)
     ·exact List.mem_append_left _ (hA.cov k j2 (by omega) hE2)
   ·rename_i e;obtain⟨h1,h2,h3⟩:=hs.arcs j' l hl;exact⟨h1,λ h=>absurd h.symm e,h3⟩
  ·have hs':(Bv t q (m:Nat)).2=false:=by simpa using hst
   refine Tot.iteT (by rw[hs'];rfl) (nxt _ ⟨hs.felt,hs.bud,hs.most,hs.len,hs.aln,hs.acc,λ j l hl=>?_⟩);obtain⟨h1,h2,h3⟩:=hs.arcs j l hl;refine⟨h1,λ e=>?_,h3⟩;obtain⟨q1,q2,q3⟩:=h2 e;refine⟨by omega,q2,λ k j hk hE=>?_⟩;by_cases e:k=m
   ·subst e;obtain⟨s1,s2,k1,_,k3,k4⟩:=hE;rw[hi]at k1;cases k1;rw[k4]at hs';cases hs'
   ·exact q3 k j (by omega) hE
 ·rintro⟨s,_⟩ ⟨rfl,hs⟩;unfold Ct;refine Tot.iteF (by simp) (Jkl ⟨hs.felt,hs.bud,hs.most,hs.len,hs.aln,hs.acc,λ j l hl=>?_⟩);obtain⟨h1,h2,h3⟩:=hs.arcs j l hl;refine⟨λ h=>?_,λ h=>?_,λ h=>h3 (by omega)⟩
  ·by_cases e:j=i
   ·subst e;exact h2 rfl
   ·exact h1 (by omega)
  ·have:=h3 (by omega);subst this;exact .nil _ _ _
theorem Ts {t:Ab} (ht:TbK t) (fl:List Ay) (bu mo:Int):Tot (λ n=>Fz n t fl bu mo) (SrK t fl bu mo):=by
 obtain⟨hF,hD⟩:=DQ ht.tab;have h768:=hF.len;unfold Fz;refine Jkm (Wz ht.tab) (Tot.bind (R:=Je (AH t)) ?_ λ nb hN=>Tot.bindC (Jce (by omega) (by omega)) (Tot.bindC (Jce (by omega) (by omega)) ?_))
 ·refine Tot.upto (body:=λ n (x:(List (Af×Int))×Int)=>CS n t fl bu mo (AH t) x.1 x.2) (AH t).length (λ i x=>x.2=(i:Int)/\Je ((AH t).take i) x.1) ?_ ?_ _ ⟨rfl,λ s=>rfl⟩
  ·rintro i ⟨nb,_⟩ hi ⟨rfl,hN⟩;unfold CS;refine Tot.iteT (by simp;omega) (Tot.bindC (Cl hi) (Jkl ⟨Ef (by omega),?_⟩));rw[List.take_add_one,JkO hi,Option.toList_some];have:=hN.snoc (p:=(AH t)[i]) (hF.nodup.sublist (List.take_sublist _ _)) (λ h=>by
    obtain⟨j,hj,e⟩:=List.mem_iff_getElem.1 h;rw[List.getElem_take]at e;have hj':j<i:=by rw[List.length_take]at hj;omega
    have:=Xp hF.nodup (i:=i) (j:=j) (JkO hi) (by rw[JkO (show j<(AH t).length by omega),e]);omega)
   rw[List.length_take,Nat.min_eq_left (by omega)]at this;exact this
  ·rintro⟨nb,_⟩ ⟨rfl,hN⟩;unfold CS;refine Tot.iteF (by simp) (Jkl ?_);rw[List.take_length]at hN;exact hN
 ·refine Tot.bind (R:=SrK t fl bu mo) ?_ λ s hs=>Jkl hs;refine Tot.upto (body:=λ n (x:Ad×Int)=>CT n t (AH t) nb x.1 x.2) (AH t).length (λ i x=>x.2=(i:Int)/\SJ t fl bu mo i 0 i x.1) ?_ ?_ _ ⟨rfl,rfl,rfl,rfl,by simp,by simp,λ j s h=>by omega,λ j l hl=>?_⟩
  ·rintro i ⟨s,_⟩ hi ⟨rfl,hs⟩;have hia:i<s.Accepts.length:=by rw[hs.aln];exact hi
   have hsi:=JkO hi;unfold CT;refine Tot.iteT (by simp;omega) (Tot.bindC (Cl hi) (Jkn (λ n=>Ww n t _) (Tot.bindC (Cl hia) (Tot.bindC (Qo hia) (Tot.bind (WG ht hN hsi ?_) λ s' hs'=>Jkl ⟨Ef (by omega),hs'⟩)))));refine⟨hs.felt,hs.bud,hs.most,hs.len,by simpa using hs.aln,λ j q hj hq=>?_,hs.arcs⟩;rw[List.getElem?_set];split
   ·rename_i e;subst e;rw[hsi]at hq;cases hq
    first|rfl|rw[if_pos hia]
   ·exact hs.acc j q (by omega) hq
  ·rintro⟨s,_⟩ ⟨rfl,hs⟩;unfold CT;exact Tot.iteF (by simp) (Jkl ⟨hs.felt,hs.bud,hs.most,hs.len,λ i q hq=>hs.acc i q (AE hq) hq,λ i l hl=>(hs.arcs i l hl).1 (by have:=AE hl;rw[hs.len]at this;exact this)⟩)
  ·have:l=[]:=List.eq_of_mem_replicate (JkQ hl);subst this;exact⟨λ h=>by omega,λ h=>by subst h;exact .nil _ _ _,λ _=>rfl⟩
end Go.AI
end
section
namespace Go.AI
def KM {α:Type} (m:List (Int×α)):Prop:=m.Pairwise λ a b=>a.1<b.1
theorem KM.nd {α:Type} {m:List (Int×α)} (h:KM m):(m.map Prod.fst).Nodup:=by
 rw[List.Nodup,List.pairwise_map];exact h.imp λ h=>by omega
theorem JcG {α:Type} {p:Int×α}:∀ {f:List (Int×α)},p∈f->(f.map Prod.fst).Nodup->AR p.1 f=some p.2
 | q::f,hp,hnd=>by
  unfold AR;rw[JkK,List.nodup_cons]at hnd;rcases List.mem_cons.1 hp with rfl|hp
  ·rw[if_pos rfl]
  ·rw[if_neg (λ e=>hnd.1 (by rw[← e];exact List.mem_map_of_mem hp))];exact JcG hp hnd.2
theorem gin {α:Type} {x:Int} {r:α}:∀ {f:List (Int×α)},AR x f=some r->(x,r)∈f
 | q::f,hx=>by
  unfold AR at hx;split at hx
  ·rename_i e;cases hx;subst e;simp
  ·exact List.mem_cons_of_mem _ (gin hx)
theorem KM.mem {α:Type} {m:List (Int×α)} (h:KM m) (k:Int) (v:α):(k,v)∈m↔AR k m=some v:=⟨λ hm=>JcG hm h.nd,gin⟩
theorem KM.ext {α:Type} {m m':List (Int×α)} (h:KM m) (h':KM m') (e:∀ k,AR k m=AR k m'):m=m':=by
 refine RO ?_ h.nd (h.imp λ h=>by omega) (h'.imp λ h=>by omega);have n1:m.Nodup:=h.imp λ h e=>by subst e;omega
 have n2:m'.Nodup:=h'.imp λ h e=>by subst e;omega
 rw[List.perm_ext_iff_of_nodup n1 n2];rintro⟨k,v⟩;rw[h.mem,h'.mem,e]
theorem QA {α:Type} (k:Int) (v:α):∀ m:List (Int×α),(BQ k v m).map Prod.fst=if k∈m.map Prod.fst then m.map Prod.fst else m.map Prod.fst++[k]
 | []=>by simp[BQ]
 | p::m=>by
  unfold BQ;by_cases e:k=p.1
  ·rw[if_pos e];simp[e]
  ·rw[if_neg e,JkK,QA k v m];by_cases hm:k∈m.map Prod.fst
   ·rw[if_pos hm,if_pos (by simp only[JkK,List.mem_cons];exact .inr hm)];rfl
   ·rw[if_neg hm,if_neg (by simp only[JkK,List.mem_cons,not_or];exact⟨e,hm⟩)];rfl
theorem Vl {α:Type} (k:Int) (v:α) (m:List (Int×α)) (h:(m.map Prod.fst).Nodup):((BQ k v m).map Prod.fst).Nodup:=by
 rw[QA];split
 ·exact h
 ·rename_i hk;rw[List.nodup_append];refine⟨h,by simp,λ a ha b hb=>?_⟩;simp at hb;subst hb;intro e;subst e;exact hk ha
theorem Vm {α:Type} {m:List (Int×α)} (h:(m.map Prod.fst).Nodup):KM (Ce m):=by
 have h2:((Ce m).map Prod.fst).Nodup:=(((Eo m).map _).nodup_iff).2 h;rw[List.Nodup,List.pairwise_map]at h2;exact((PS m).and h2).imp λ⟨h3,h4⟩=>by omega
theorem Y7 {α:Type} {m:List (Int×α)} (h:(m.map Prod.fst).Nodup) (k:Int):AR k (Ce m)=AR k m:=by
 have hk:=Vm h;cases hg:AR k m with
 | some v=>rw[← hk.mem];exact(Eo m).mem_iff.2 (gin hg)
 | none=>
  cases hg':AR k (Ce m)with
  | none=>rfl
  | some v=>
   have:=JcG ((Eo m).mem_iff.1 (gin hg')) h;simp only at this;rw[hg]at this;cases this
theorem Xz {α:Type} {m:List (Int×α)} (h:KM m) (k:Int) (v:α):KM (Ce (BQ k v m)):=Vm (Vl k v m h.nd)
theorem MM {α:Type} {m:List (Int×α)} (h:KM m) (k k':Int) (v:α):AR k' (Ce (BQ k v m))=if k'=k then some v else AR k' m:=by
 rw[Y7 (Vl k v m h.nd),Ib]
structure Js (C:Int->Int->Prop) (m:List (Int×Int)):Prop where
 km:KM m
 lst:∀ k v,AR k m=some v->C k v/\∀ w,C k w->v<=w
 non:∀ k,AR k m=none->∀ v,¬C k v
theorem Js.ext {C:Int->Int->Prop} {m m':List (Int×Int)} (h:Js C m) (h':Js C m'):m=m':=by
 refine h.km.ext h'.km λ k=>?_;cases e:AR k m with
 | none=>
  cases e':AR k m' with
  | none=>rfl
  | some v=>exact absurd (h'.lst k v e').1 (h.non k e v)
 | some v=>
  cases e':AR k m' with
  | none=>exact absurd (h.lst k v e).1 (h'.non k e' v)
  | some w=>
   have h1:=(h.lst k v e).2 w (h'.lst k w e').1;have h2:=(h'.lst k w e').2 v (h.lst k v e).1;congr 1;omega
theorem Js.congr {C C':Int->Int->Prop} {m:List (Int×Int)} (h:Js C m) (e:∀ k v,C k v↔C' k v):Js C' m:=by
 have:C=C':=by funext k v;exact propext (e k v)
 subst this;exact h
theorem Js.has {C:Int->Int->Prop} {m:List (Int×Int)} (h:Js C m) {k v:Int} (hc:C k v):∃ w,AR k m=some w/\w<=v:=by
 cases e:AR k m with
 | none=>exact absurd hc (h.non k e v)
 | some w=>exact⟨w,rfl,(h.lst k w e).2 v hc⟩
def JcH (k v:Int) (m:List (Int×Int)):List (Int×Int):=if((!(Option.isSome (AR k m)))||(decide (v<Option.getD (AR k m) (0:Int))))=true then Ce (BQ k v m)else m
theorem Js.upd {C:Int->Int->Prop} {m:List (Int×Int)} (h:Js C m) (k v:Int):Js (λ k' v'=>C k' v'\/(k'=k/\v'=v)) (JcH k v m):=by
 unfold JcH;split
 ·rename_i hc;refine⟨Xz h.km k v,λ k' w hw=>?_,λ k' hn w=>?_⟩
  ·rw[MM h.km]at hw;split at hw
   ·rename_i e;cases hw;subst e;refine⟨.inr ⟨rfl,rfl⟩,λ w' hw'=>?_⟩;rcases hw' with hw'|⟨_,rfl⟩
    ·obtain⟨x,hx,hxw⟩:=h.has hw';rw[hx]at hc;simp at hc;omega
    ·exact Int.le_refl _
   ·rename_i e;obtain⟨h1,h2⟩:=h.lst k' w hw;refine⟨.inl h1,λ w' hw'=>?_⟩;rcases hw' with hw'|⟨e',_⟩
    ·exact h2 w' hw'
    ·exact absurd e' e
  ·rw[MM h.km]at hn;split at hn
   ·cases hn
   ·rename_i e;rintro (h1|⟨e',_⟩)
    ·exact h.non k' hn w h1
    ·exact e e'
 ·rename_i hc;refine⟨h.km,λ k' w hw=>?_,λ k' hn w=>?_⟩
  ·obtain⟨h1,h2⟩:=h.lst k' w hw;refine⟨.inl h1,λ w' hw'=>?_⟩;rcases hw' with hw'|⟨rfl,rfl⟩
   ·exact h2 w' hw'
   ·rw[hw]at hc;simp at hc;omega
  ·rintro (h1|⟨rfl,rfl⟩)
   ·exact h.non k' hn w h1
   ·rw[hn]at hc;simp at hc
abbrev Rws:=List (Option (Bool×List (Int×Int)))
structure RKr (L fl:Nat) (C:Nat->Int->Int->Prop) (rows:Rws):Prop where
 len:rows.length=L+1
 row:∀ p,p<=L->∃ m,rows[p]?=some (some (decide (p<fl),m))/\Js (C p) m
theorem RKr.ext {L fl:Nat} {C:Nat->Int->Int->Prop} {a b:Rws} (h:RKr L fl C a) (h':RKr L fl C b):a=b:=by
 apply List.ext_getElem?;intro p;rcases JkE L p with h1|h1
 ·rw[Jk9 (by rw[h.len];omega),Jk9 (by rw[h'.len];omega)]
 ·obtain⟨m,e,hm⟩:=h.row p h1;obtain⟨m',e',hm'⟩:=h'.row p h1;rw[e,e',hm.ext hm']
theorem RKr.congr {L fl:Nat} {C C':Nat->Int->Int->Prop} {a:Rws} (h:RKr L fl C a) (e:∀ p k v,C p k v↔C' p k v):RKr L fl C' a:=by
 have:C=C':=by funext p k v;exact propext (e p k v)
 subst this;exact h
theorem RKr.rowM {L fl p:Nat} {C:Nat->Int->Int->Prop} {a:Rws} (h:RKr L fl C a) (h1:fl<=p) (h2:p<=L):∃ m,Go.AI.rowM a (p:Int)=some m/\Js (C p) m:=by
 obtain⟨m,e,hm⟩:=h.row p h2;refine⟨m,?_,hm⟩;unfold Go.AI.rowM;rw[CY e,show decide (p<fl)=false from by simpa using h1];rfl
theorem RKr.rowA {L fl p:Nat} {C:Nat->Int->Int->Prop} {a:Rws} (h:RKr L fl C a) (h2:p<=L):∃ m,Go.AI.rowA a (p:Int)=some (decide (p<fl),m)/\Js (C p) m:=by
 obtain⟨m,e,hm⟩:=h.row p h2;refine⟨m,?_,hm⟩;unfold Go.AI.rowA;rw[CY e];rfl
theorem RKr.frz {L fl:Nat} {C:Nat->Int->Int->Prop} {a:Rws} (h:RKr L fl C a) {m:List (Int×Int)} (hm:Js (C fl) m):RKr L (fl+1) C (a.set fl (some (true,m))):=by
 refine⟨by rw[Jk5];exact h.len,λ p hp=>?_⟩;by_cases e:fl=p
 ·subst e;exact⟨m,by rw[JkZ (by rw[h.len];omega)];simp,hm⟩
 ·obtain⟨m',e',hm'⟩:=h.row p hp;refine⟨m',?_,hm'⟩;rw[Jk4 e,e'];congr 3;rw[decide_eq_decide];omega
theorem RKr.upd {L fl p:Nat} {C:Nat->Int->Int->Prop} {a:Rws} (h:RKr L fl C a) (h1:fl<=p) (h2:p<=L) {m:List (Int×Int)} (hm:Js (C p) m) (k v:Int) :
  RKr L fl (λ p' k' v'=>C p' k' v'\/(p'=p/\k'=k/\v'=v)) (a.set p (some (false,JcH k v m))):=by
 refine⟨by rw[Jk5];exact h.len,λ p' hp=>?_⟩;by_cases e:p=p'
 ·subst e;refine⟨JcH k v m,by rw[JkZ (by rw[h.len];omega),show decide (p<fl)=false from by simpa using h1],(hm.upd k v).congr λ k' v'=>?_⟩;simp
 ·obtain⟨m',e',hm'⟩:=h.row p' hp;refine⟨m',by rw[Jk4 e,e'],hm'.congr λ k' v'=>?_⟩;constructor
  ·exact .inl
  ·rintro (h3|⟨h3,_⟩)
   ·exact h3
   ·exact absurd h3.symm e
end Go.AI
end
section
namespace Go.AI
def Jg (f:Ay) (c:Int):Int:=(GB 0 f c).getD 0
theorem JhP {s:List UInt8} (h:s.all (λ b=>decide (b.toNat<=8))=true) (i:Nat):(s[i]?.getD 0).toNat<=8:=by
 cases e:s[i]? with
 | none=>simp
 | some b=>simpa using Jky.1 h b (JkQ e)
theorem JcI {s:List UInt8} (hl:Nat.beq s.length 256=true) (ha:s.all (λ b=>decide (b.toNat<=8))=true) {x:Int} (h:0<=x) (h':x<256):∃ v,((Jh s x).bind λ b=>some (IntKind.i64.wrap b))=some v/\0<=v/\v<=8:=by
 have hl:=JkV hl;have:=JhP ha x.toNat;unfold Jh;rw[if_pos ⟨h,by omega⟩,Jku,w64 (by omega) (by omega)];exact⟨_,rfl,by omega,by omega⟩
theorem Jef {x:Int} (h:0<=x) (h':x<256):∃ v,(∀ n,CQ n x=some v)/\0<=v/\v<=8:=by
 obtain⟨v,h1,h2⟩:∃ v,CQ 0 x=some v/\0<=v/\v<=8:=JcI (by kernel_rfl) (by kernel_rfl) h h';exact⟨v,λ n=>h1,h2⟩
theorem QB (f:Ay) (c:Int):(∀ n,GB n f c=some (Jg f c))/\0<=Jg f c/\Jg f c<=8:=by
 have hr:0<=G7 .u8 (Uo .u8 f.Up c) f.Maybe/\G7 .u8 (Uo .u8 f.Up c) f.Maybe<256:=Jcd _;obtain⟨v,h1,h2,h3⟩:=Jef hr.1 hr.2;have e:∀ n,GB n f c=some v:=λ n=>by unfold GB;rw[h1];rfl
 have:Jg f c=v:=by unfold Jg;rw[e];rfl
 rw[this];exact⟨e,h2,h3⟩
def BJ:List Ay->List UInt8->Int
 | f::fl,c::w=>Jg f (c.toNat:Int)+BJ fl w
 | _,_=>0
theorem EI:∀ (fl:List Ay) (w:List UInt8),0<=BJ fl w/\BJ fl w<=8*w.length
 | [],w=>by cases w<;>simp[BJ]<;>omega
 | f::fl,[]=>by simp[BJ]
 | f::fl,c::w=>by
  have h1:=(QB f (c.toNat:Int)).2;have h2:=EI fl w;simp only[BJ,List.length_cons];omega
theorem R4:∀ (fl:List Ay) (w v:List UInt8),w.length<=fl.length->BJ fl (w++v)=BJ fl w+BJ (fl.drop w.length) v
 | fl,[],v,_=>by cases fl<;>simp[BJ]
 | [],_::_,_,h=>by simp at h
 | f::fl,c::w,v,h=>by
  simp only[List.cons_append,BJ,List.length_cons,List.drop_succ_cons];rw[R4 fl w v (by simpa using h)];omega
theorem QC (fl:List Ay) (w:List UInt8) (c:UInt8) (f:Ay) (h:fl[w.length]?=some f):BJ fl (w++[c])=BJ fl w+Jg f (c.toNat:Int):=by
 have hl:=AE h;rw[R4 fl w [c] (by omega)];have:fl.drop w.length=f::fl.drop (w.length+1):=by
  rw[List.drop_eq_getElem_cons hl];rw[JkO hl]at h;rw[Option.some.inj h]
 rw[this];simp[BJ]
theorem Vn {s:Ad} {q:Nat} {w:List UInt8} (hL:s.Felt.length<=1000000) (hq:q<=s.Felt.length) :
  Tot (λ n=>Dj n (q:Int) w s) (λ r=>r=if q+w.length<=s.Felt.length then(BJ (s.Felt.drop q) w,true)else(0,false)):=by
 unfold Dj;rw[RU (by omega) (by omega)];by_cases h:q+w.length<=s.Felt.length
 ·refine Tot.iteF (by simp;omega) (Tot.bind (R:=λ y=>y=BJ (s.Felt.drop q) w) ?_ ?_)
  ·refine Tot.upto (body:=λ n (x:Int×Int)=>Cy n (q:Int) w s x.1 x.2) w.length (λ i x=>x.2=(i:Int)/\x.1=BJ (s.Felt.drop q) (w.take i)) ?_ ?_ _ ⟨rfl,by cases s.Felt.drop q<;>rfl⟩
   ·rintro i ⟨x,_⟩ hi ⟨rfl,hx⟩;simp only at hx;subst hx;unfold Cy;have hlt:q+i<s.Felt.length:=by omega
    have hf:s.Felt[q+i]?=some s.Felt[q+i]:=JkO hlt;have e1:AZ .i64 (q:Int) (i:Int)=((q+i:Nat):Int):=by rw[Jf (by omega) (by omega)];simp
    obtain⟨c1,c2,c3⟩:=QB s.Felt[q+i] ((w[i].toNat:Nat):Int);have hr:=EI (s.Felt.drop q) (w.take i);have hlt2:(w.take i).length<=1000000:=by rw[List.length_take];omega
    refine Tot.iteT (GZ hi) (Tot.bindC (by rw[e1];exact Cl hlt) (Tot.bindC (Kh (JkO hi)) (Jkn c1 (Jkl ⟨Ef (by omega),?_⟩))));show AZ .i64 _ _=_;rw[Jf (by omega) (by omega),List.take_add_one,JkO hi,Option.toList_some,QC _ _ _ s.Felt[q+i] (by rw[List.length_take,Nat.min_eq_left (by omega),JkH];exact hf)]
   ·rintro⟨x,_⟩ ⟨rfl,hx⟩;simp only at hx;subst hx;unfold Cy;exact Tot.iteF (Ki _) (Jkl (by show _=_;rw[List.take_length]))
  ·rintro _ rfl;exact Jkl (by rw[if_pos h])
 ·exact Tot.iteT (by simp;omega) (Jkl (by rw[if_neg h]))
end Go.AI
end
section
namespace Go.AI
def wb (s:Ad) (b:Rws):Ad:={ Felt:=s.Felt,Budget:=s.Budget,Most:=s.Most,Arcs:=s.Arcs,Accepts:=s.Accepts,Before:=b }
theorem SrK.wb {t:Ab} {fl:List Ay} {bu mo:Int} {s:Ad} (h:SrK t fl bu mo s) (b:Rws):SrK t fl bu mo (wb s b):=⟨h.felt,h.bud,h.most,h.len,h.acc,h.arcs⟩
def Tt (s:Ad) (q:Nat) (e:Int×Int) (p:Nat) (k v:Int):Prop:=
 ∃ l a,idx s.Arcs e.1=some l/\a∈l/\p=q+a.Cells.length/\p<=s.Felt.length/\k=a.To/\v=e.2+BJ (s.Felt.drop q) a.Cells/\v<=s.Budget
structure SmS (t:Ab) (s:Ad):Prop where
 tb:TbK t
 sr:SrK t s.Felt s.Budget s.Most s
 fl:s.Felt.length<=100000
 b0:0<=s.Budget
 b1:s.Budget<=100000
theorem SmS.wb {t:Ab} {s:Ad} (h:SmS t s) (b:Rws):SmS t (wb s b):=⟨h.tb,h.sr.wb b,h.fl,h.b0,h.b1⟩
theorem SmS.arc {t:Ab} {s:Ad} (h:SmS t s) {k:Int} {l:List Hu} (hl:idx s.Arcs k=some l) {a:Hu} (ha:a∈l):1<=a.Cells.length/\a.Cells.length<=4/\a.Print.length<=4/\∃ j:Nat,a.To=(j:Int)/\j<(AH t).length:=by
 obtain⟨_,_,h2⟩:=CH hl;obtain⟨j,m,hE,rfl⟩:=(h.sr.arcs _ _ h2).snd a ha;obtain⟨_,_,_,hm,hj,_⟩:=hE;obtain⟨c1,c2,c3,_⟩:=E3 h.tb hm;have:(clb t m).length=(cls t m).length:=by unfold clb;simp
 exact⟨by simp only;omega,by simp only;omega,c3,j,rfl,AE hj⟩
theorem Jeg {t:Ab} {s:Ad} (hs:SmS t s) {q:Nat} (hq:q<=s.Felt.length) {e:Int×Int} (he0:0<=e.2) (he1:e.2<=s.Budget) {l:List Hu} (hl:idx s.Arcs e.1=some l) (hll:l.length<=1000) {C:Nat->Int->Int->Prop} {rows:Rws} (hr:RKr s.Felt.length (q+1) C rows) (y:Ad) (m:List (Int×Int)) :
  Tot (λ n=>whl (λ (x:Ad×Int)=>BF n y m (q:Int) e l x.1 x.2) n (wb s rows,0)) (λ r=>∃ rows',r=wb s rows'/\RKr s.Felt.length (q+1) (λ p k v=>C p k v\/Tt s q e p k v) rows'):=by
 refine Tot.upto (body:=λ n (x:Ad×Int)=>BF n y m (q:Int) e l x.1 x.2) l.length (λ i x=>x.2=(i:Int)/\∃ rows',x.1=wb s rows'/\RKr s.Felt.length (q+1) (λ p k v=>C p k v\/∃ a∈l.take i,p=q+a.Cells.length/\p<=s.Felt.length/\k=a.To/\v=e.2+BJ (s.Felt.drop q) a.Cells/\v<=s.Budget) rows') ?_ ?_ _ ⟨rfl,rows,rfl,hr.congr λ p k v=>by simp⟩
 ·rintro i ⟨x,_⟩ hi ⟨rfl,rows',hx,hr'⟩;simp only at hx;subst hx;unfold BF;obtain⟨a1,a4,_,j,hj,hjl⟩:=hs.arc hl (JkA hi);have htk:∀ a,a∈l.take (i+1)↔a∈l.take i\/a=l[i]:=λ a=>by rw[List.take_add_one,JkO hi,Option.toList_some,List.mem_append,List.mem_singleton]
  refine Tot.iteT (GZ hi) (Tot.bindC (Cl hi) (Tot.bind (Vn (s:=wb s rows') (w:=l[i].Cells) (by have:=hs.fl;show s.Felt.length<=_;omega) hq) ?_));rintro r rfl;show Tot _ _;have hfl:(wb s rows').Felt=s.Felt:=rfl;rw[hfl];have hcr:=EI (s.Felt.drop q) l[i].Cells;have hb1:=hs.b1;have nx:∀ rows'',RKr s.Felt.length (q+1) (λ p k v=>C p k v\/∃ a∈l.take (i+1),p=q+a.Cells.length/\p<=s.Felt.length/\k=a.To/\v=e.2+BJ (s.Felt.drop q) a.Cells/\v<=s.Budget) rows'' ->
    Tot (λ n=>B9 n (i:Int) (wb s rows'')) (Rd2 (λ x=>x.2=((i+1:Nat):Int)/\∃ rows',x.1=wb s rows'/\RKr s.Felt.length (q+1) (λ p k v=>C p k v\/∃ a∈l.take (i+1),p=q+a.Cells.length/\p<=s.Felt.length/\k=a.To/\v=e.2+BJ (s.Felt.drop q) a.Cells/\v<=s.Budget) rows') (λ r=>∃ rows',r=wb s rows'/\RKr s.Felt.length (q+1) (λ p k v=>C p k v\/Tt s q e p k v) rows')):=λ rows'' h=>Jkl ⟨Ef (by omega),rows'',rfl,h⟩
  have same:¬(q+l[i].Cells.length<=s.Felt.length/\e.2+BJ (s.Felt.drop q) l[i].Cells<=s.Budget)->RKr s.Felt.length (q+1) (λ p k v=>C p k v\/∃ a∈l.take (i+1),p=q+a.Cells.length/\p<=s.Felt.length/\k=a.To/\v=e.2+BJ (s.Felt.drop q) a.Cells/\v<=s.Budget) rows':=λ hn=>hr'.congr λ p k v=>by
   constructor
   ·rintro (h|⟨a,ha,h⟩)
    ·exact .inl h
    ·exact .inr ⟨a,(htk a).2 (.inl ha),h⟩
   ·rintro (h|⟨a,ha,h⟩)
    ·exact .inl h
    ·rcases (htk a).1 ha with ha|rfl
     ·exact .inr ⟨a,ha,h⟩
     ·obtain⟨rfl,h1,_,rfl,h2⟩:=h;exact absurd ⟨h1,h2⟩ hn
  by_cases hfit:q+l[i].Cells.length<=s.Felt.length
  ·rw[if_pos hfit];have hadd:AZ .i64 e.2 (BJ (s.Felt.drop q) l[i].Cells)=e.2+BJ (s.Felt.drop q) l[i].Cells:=Jf (by omega) (by omega);have hadd2:AZ .i64 (q:Int) ((List.length l[i].Cells:Nat):Int)=((q+l[i].Cells.length:Nat):Int):=by rw[Jf (by have:=hs.fl;omega) (by have:=hs.fl;omega)];simp
   simp only[hadd,hadd2,JkB,Bool.false_or];by_cases hbu:e.2+BJ (s.Felt.drop q) l[i].Cells<=s.Budget
   ·refine Tot.iteF (by simp;exact hbu) ?_;obtain⟨m3,hm3,hrow⟩:=hr'.rowM (p:=q+l[i].Cells.length) (by omega) hfit;refine Tot.bindC hm3 ?_;have hu:=hr'.upd (p:=q+l[i].Cells.length) (by omega) hfit hrow l[i].To (e.2+BJ (s.Felt.drop q) l[i].Cells);have hu2:=hu.congr (C':=λ p k v=>C p k v\/∃ a∈l.take (i+1),p=q+a.Cells.length/\p<=s.Felt.length/\k=a.To/\v=e.2+BJ (s.Felt.drop q) a.Cells/\v<=s.Budget) λ p k v=>by
     constructor
     ·rintro ((h|⟨a,ha,h⟩)|⟨rfl,rfl,rfl⟩)
      ·exact .inl h
      ·exact .inr ⟨a,(htk a).2 (.inl ha),h⟩
      ·exact .inr ⟨l[i],(htk _).2 (.inr rfl),rfl,hfit,rfl,rfl,hbu⟩
     ·rintro (h|⟨a,ha,h⟩)
      ·exact .inl (.inl h)
      ·rcases (htk a).1 ha with ha|rfl
       ·exact .inl (.inr ⟨a,ha,h⟩)
       ·obtain⟨rfl,_,rfl,rfl,_⟩:=h;exact .inr ⟨rfl,rfl,rfl⟩
    unfold JcH at hu2;rw[JkX];refine Tot.ite (λ hc=>?_) λ hc=>?_
    ·rw[if_pos hc]at hu2;exact nx _ hu2
    ·rw[if_neg (by rw[hc];simp)]at hu2;exact nx _ hu2
   ·exact Tot.iteT (by simp;show s.Budget<_;omega) (nx _ (same λ h=>hbu h.2))
  ·rw[if_neg hfit];exact Tot.iteT rfl (nx _ (same λ h=>hfit h.1))
 ·rintro⟨x,_⟩ ⟨rfl,rows',hx,hr'⟩;simp only at hx;subst hx;unfold BF;refine Tot.iteF (Ki _) (Jkl ⟨rows',rfl,hr'.congr λ p k v=>?_⟩);rw[List.take_length];constructor
  ·rintro (h|⟨a,ha,h⟩)
   ·exact .inl h
   ·exact .inr ⟨l,a,hl,ha,h⟩
  ·rintro (h|⟨l',a,hl',ha,h⟩)
   ·exact .inl h
   ·rw[hl]at hl';cases hl';exact .inr ⟨a,ha,h⟩
theorem Jeh {t:Ab} {s:Ad} (hs:SmS t s) {q:Nat} (hq:q<=s.Felt.length) {e:Int×Int} (he0:0<=e.2) (he1:e.2<=s.Budget) (hk:∃ i:Nat,e.1=(i:Int)/\i<(AH t).length) {C:Nat->Int->Int->Prop} {rows:Rws} (hr:RKr s.Felt.length (q+1) C rows) (y:Ad) (m:List (Int×Int)) :
  Tot (λ n=>Bf n y m (q:Int) e (wb s rows)) (Rd2 (λ r=>∃ rows',r=wb s rows'/\RKr s.Felt.length (q+1) (λ p k v=>C p k v\/Tt s q e p k v) rows') (λ _=>True)):=by
 obtain⟨i,hi,hil⟩:=hk;have hlt:i<s.Arcs.length:=by rw[hs.sr.len];exact hil
 have hl:idx s.Arcs e.1=some s.Arcs[i]:=by rw[hi];exact Cl hlt
 have hA:=hs.sr.arcs i _ (JkO hlt);have hr11:=hs.tb.tab.1;unfold Bf;refine Tot.bindC (show idx (wb s rows).Arcs e.1=some s.Arcs[i]from hl) (Tot.bind (Jeg hs hq he0 he1 hl (by have:=hA.len;omega) hr y m) λ r h=>Jkl h)
structure CV (t:Ab) (s:Ad) (q:Nat) (C:Nat->Int->Int->Prop) (rows:Rws):Prop where
 rk:RKr s.Felt.length q C rows
 val:∀ p k v,C p k v->(∃ i:Nat,k=(i:Int)/\i<(AH t).length)/\0<=v/\v<=s.Budget
 rt:C 0 0 0/\∀ v,C 0 0 v->v=0
 clo:∀ p,p<q->∀ m,rows[p]?=some (some (true,m))->∀ e∈m,∀ P K V,Tt s p e P K V->C P K V
theorem QE {t:Ab} {s:Ad} (hs:SmS t s) {q:Nat} {e:Int×Int} {P:Nat} {K V:Int} (h:Tt s q e P K V):q<P/\(∃ i:Nat,K=(i:Int)/\i<(AH t).length)/\e.2<=V/\V<=s.Budget:=by
 obtain⟨l,a,hl,ha,rfl,_,rfl,rfl,h4⟩:=h;obtain⟨a1,_,_,j,hj,hjl⟩:=hs.arc hl ha;have:=EI (s.Felt.drop q) a.Cells;exact⟨by omega,⟨j,hj,hjl⟩,by omega,h4⟩
theorem Jei {t:Ab} {s:Ad} (hs:SmS t s) {q:Nat} (hq:q<=s.Felt.length) {C:Nat->Int->Int->Prop} {rows:Rws} (hc:CV t s q C rows) (y:Ad) (hy:y.Before.length=s.Felt.length+1) (m:List (Int×Int)) :
  Tot (λ n=>BG n y m (wb s rows) (q:Int)) (Rd2 (λ x=>x.2=((q+1:Nat):Int)/\∃ C' rows',x.1=wb s rows'/\CV t s (q+1) C' rows') (λ _=>False)):=by
 have hfl:=hs.fl;obtain⟨m2,hm2,hrow⟩:=hc.rk.rowA hq;have hfz:RKr s.Felt.length (q+1) C (rows.set q (some (true,m2))):=hc.rk.frz hrow;have hent:∀ e∈m2,(∃ i:Nat,e.1=(i:Int)/\i<(AH t).length)/\0<=e.2/\e.2<=s.Budget:=λ e he=>hc.val q e.1 e.2 (hrow.lst e.1 e.2 ((hrow.km.mem e.1 e.2).1 he)).1;unfold BG;refine Tot.iteT (by simp[hy];omega) ?_;refine Tot.bindC hm2 ?_;have pass:∀ o:List (Int×Int),o.Perm m2->Tot (λ n=>mapW (λ (e:Int×Int) (x:Ad)=>Bf n y m (q:Int) e x) o (wb s (rows.set q (some (true,m2))))) (Rd2 (λ r=>∃ rows',r=wb s rows'/\RKr s.Felt.length (q+1) (λ p k v=>C p k v\/∃ e∈m2,Tt s q e p k v) rows') (λ _=>True)):=λ o ho=>by
  refine(Tot.mapW (F:=λ n e x=>Bf n y m (q:Int) e x) (λ u r=>∃ rows',r=wb s rows'/\RKr s.Felt.length (q+1) (λ p k v=>C p k v\/∃ e∈u,Tt s q e p k v) rows') (λ u e v x hu hx=>?_) ⟨_,rfl,hfz.congr λ p k v=>by simp⟩).mono λ z hz=>?_
  ·obtain⟨rows',rfl,hr'⟩:=hx;have hem:e∈m2:=ho.mem_iff.1 (by rw[hu];simp);obtain⟨h1,h2,h3⟩:=hent e hem;refine(Jeh hs hq h2 h3 h1 hr' y m).mono λ z hz=>?_;cases z with
   | inr z=>exact trivial
   | inl z=>
    obtain⟨rows'',e1,h4⟩:=hz;refine⟨rows'',e1,h4.congr λ p k v=>?_⟩;constructor
    ·rintro ((h|⟨e',he',h⟩)|h)
     ·exact .inl h
     ·exact .inr ⟨e',by simp[he'],h⟩
     ·exact .inr ⟨e,by simp,h⟩
    ·rintro (h|⟨e',he',h⟩)
     ·exact .inl (.inl h)
     ·rcases List.mem_append.1 he' with he'|he'
      ·exact .inl (.inr ⟨e',he',h⟩)
      ·simp only[List.mem_singleton]at he';subst he';exact .inr h
  ·cases z with
   | inr z=>exact trivial
   | inl z=>
    obtain⟨rows',e1,h4⟩:=hz;refine⟨rows',e1,h4.congr λ p k v=>?_⟩;constructor
    ·rintro (h|⟨e',he',h⟩)
     ·exact .inl h
     ·exact .inr ⟨e',ho.mem_iff.1 he',h⟩
    ·rintro (h|⟨e',he',h⟩)
     ·exact .inl h
     ·exact .inr ⟨e',ho.mem_iff.2 he',h⟩
 obtain⟨z0,hz0,_⟩:=pass m2 (List.Perm.refl _);cases z0 with
 | inr z=>exact nomatch z
 | inl z0=>
  obtain⟨rows0,rfl,h0⟩:=hz0;refine Tot.demP (.inl (wb s rows0,((q+1:Nat):Int))) (λ o ho=>?_) ⟨rfl,_,rows0,rfl,h0,?_,?_,?_⟩
  ·refine Tot.bind (pass o ho) ?_;rintro (z|z) hz
   ·obtain⟨rows',rfl,h'⟩:=hz;have:=h'.ext h0;subst this;exact Jkl (by rw[Ef (by omega)])
   ·exact nomatch z
  ·rintro p k v (h|⟨e,he,h⟩)
   ·exact hc.val p k v h
   ·obtain⟨h1,h2,h3,h4⟩:=QE hs h;exact⟨h2,by have:=(hent e he).2.1;omega,h4⟩
  ·refine⟨.inl hc.rt.1,λ v hv=>?_⟩;rcases hv with h|⟨e,he,h⟩
   ·exact hc.rt.2 v h
   ·have:=(QE hs h).1;omega
  ·intro p hp m' hm' e he P K V hx;have hsame:∀ k v,(C p k v\/∃ e∈m2,Tt s q e p k v)↔C p k v:=λ k v=>by
    constructor
    ·rintro (h|⟨e,_,h⟩)
     ·exact h
     ·have:=(QE hs h).1;omega
    ·exact .inl
   obtain⟨m'',e'',hm''⟩:=h0.row p (by omega);rw[e'',decide_eq_true (show p<q+1 by omega)]at hm';cases hm';have hm3:=hm''.congr hsame;rcases JkE p q with h1|h1
   ·obtain⟨m4,e4,hm4⟩:=hc.rk.row p (by omega);rw[hm4.ext hm3,decide_eq_true h1]at e4;exact .inl (hc.clo p h1 _ e4 e he P K V hx)
   ·have:p=q:=by omega
    subst this;rw[hm3.ext hrow]at he;exact .inr ⟨e,he,hx⟩
structure FwK (t:Ab) (s:Ad) (rows:Rws):Prop where
 cv:∃ C,CV t s (s.Felt.length+1) C rows
theorem WH {t:Ab} {s:Ad} (hs:SmS t s):Tot (λ n=>Db n s) (λ r=>∃ rows,r=wb s rows/\FwK t s rows):=by
 have hfl:=hs.fl;have hadd:AZ .i64 ((s.Felt.length:Nat):Int) 1=((s.Felt.length+1:Nat):Int):=Ef (by omega);unfold Db;rw[hadd];refine Tot.bindC (Jce (by omega) (by rw[JkX];omega)) ?_;rw[JkX];refine Tot.bind (R:=λ y=>y=wb s (List.replicate (s.Felt.length+1) (some (false,[])))) ?_ ?_
 ·refine Tot.upto (body:=λ n (x:Ad×Int)=>B8 n (List.replicate (s.Felt.length+1) none) x.1 x.2) (s.Felt.length+1) (λ i x=>x.2=(i:Int)/\x.1=wb s (List.replicate i (some (false,[]))++List.replicate (s.Felt.length+1-i) none)) ?_ ?_ _ ⟨rfl,rfl⟩
  ·rintro i ⟨x,_⟩ hi ⟨rfl,hx⟩;simp only at hx;subst hx;unfold B8;have hlt:i<(wb s (List.replicate i (some (false,[]))++List.replicate (s.Felt.length+1-i) none)).Before.length:=by show i<(List.replicate i _++List.replicate _ _).length;simp;omega
   refine Tot.iteT (by simp;omega) (Tot.bindC (Cl hlt) (Jkl ⟨Ef (by omega),?_⟩));show wb s _=wb s _;congr 1;rw[JkX];obtain⟨d,hd⟩:∃ d,s.Felt.length+1-i=d+1:=⟨s.Felt.length-i,by omega⟩;rw[show s.Felt.length+1-(i+1)=d by omega];show(List.replicate i _++List.replicate (s.Felt.length+1-i) none).set i _=_;rw[hd,List.replicate_succ];have:=OM (List.replicate i (some (false,([]:List (Int×Int))))) (List.replicate d none) none (some (false,[]));rw[List.length_replicate]at this;rw[this,List.replicate_succ'];simp
  ·rintro⟨x,_⟩ ⟨rfl,hx⟩;simp only at hx;subst hx;unfold B8;refine Tot.iteF (by simp) (Jkl ?_);show wb s _=wb s _;simp
 ·rintro _ rfl;have hrow0:rowM (wb s (List.replicate (s.Felt.length+1) (some (false,([]:List (Int×Int)))))).Before 0=some []:=by
   unfold rowM;rw[show idx (wb s (List.replicate (s.Felt.length+1) (some (false,([]:List (Int×Int)))))).Before 0=some (some (false,[]))from rfl];rfl
  refine Tot.bindC hrow0 (Tot.bind (R:=λ r=>∃ rows,r=wb s rows/\FwK t s rows) ?_ λ r hr=>Jkl hr);refine Tot.upto (body:=λ n (x:Ad×Int)=>BG n (wb s (List.replicate (s.Felt.length+1) (some (false,[])))) [] x.1 x.2) (s.Felt.length+1) (λ i x=>x.2=(i:Int)/\∃ C rows,x.1=wb s rows/\CV t s i C rows) ?_ ?_ _ ⟨rfl,λ p k v=>p=0/\k=0/\v=0,(List.replicate (s.Felt.length+1) (some (false,[]))).set 0 (some (false,[(0,0)])),rfl,?_,?_,?_,λ p hp=>by omega⟩
  ·rintro i ⟨x,_⟩ hi ⟨rfl,C,rows,hx,hc⟩;simp only at hx;subst hx;refine(Jei hs (by omega) hc _ (by show(List.replicate _ _).length=_;simp) []).mono λ z hz=>?_;cases z with
   | inl z=>exact hz
   | inr z=>exact hz.elim
  ·rintro⟨x,_⟩ ⟨rfl,C,rows,hx,hc⟩;simp only at hx;subst hx;unfold BG;refine Tot.iteF (by show decide (_<((List.length ((List.replicate _ _).set _ _):Nat):Int))=false;simp) (Jkl ⟨rows,rfl,⟨C,hc⟩⟩)
  ·refine⟨by simp,λ p hp=>?_⟩;by_cases e:p=0
   ·subst e;refine⟨[(0,0)],by simp,List.pairwise_singleton _ _,λ k v h=>?_,λ k h v hh=>?_⟩
    ·simp only[AR]at h;split at h
     ·cases h;rename_i e;subst e;exact⟨⟨rfl,rfl,rfl⟩,λ w hw=>by rw[hw.2.2];exact Int.le_refl _⟩
     ·cases h
    ·simp only[AR]at h;rw[if_pos hh.2.1]at h;cases h
   ·refine⟨[],?_,List.Pairwise.nil,λ k v h=>(by cases h),λ k _ v h=>e h.1⟩;rw[Jk4 (Ne.symm e),List.getElem?_replicate,if_pos (by omega)];rfl
  ·rintro p k v ⟨rfl,rfl,rfl⟩;exact⟨⟨0,rfl,by have:=(DQ hs.tb.tab).1.first;exact AE this⟩,Int.le_refl _,hs.b0⟩
  ·exact⟨⟨rfl,rfl,rfl⟩,λ v h=>h.2.2⟩
end Go.AI
end
section
namespace Go.AI
inductive Rdg (t:Ab):Nat->List Ay->Ag->Prop
 | nil (i:Nat) (q:Af) (h:(AH t)[i]?=some q) (ha:Bk t q=true):Rdg t i [] ⟨0,[],[]⟩
 | arc (i k j:Nat) (fl:List Ay) (r:Ag) (h:Edge t (AH t) i k j) (hl:(clb t k).length<=fl.length) (hr:Rdg t j (fl.drop (clb t k).length) r):Rdg t i fl ⟨BJ fl (clb t k)+r.Cost,prt t k++r.Text,clb t k++r.Cells⟩
theorem D3 (t:Ab) (k:Nat):(clb t k).length=(cls t k).length:=by unfold clb;simp
theorem Rdg.len {t:Ab} (ht:TbK t) {i:Nat} {fl:List Ay} {r:Ag} (h:Rdg t i fl r):r.Cells.length=fl.length/\r.Text.length<=4*fl.length/\0<=r.Cost:=by
 induction h with
 | nil=>simp
 | arc i k j fl r h hl hr ih=>
  obtain⟨_,_,_,hk,_,_⟩:=h;obtain⟨c1,c2,c3,_⟩:=E3 ht hk;have h1:=EI fl (clb t k);rw[List.length_drop]at ih;rw[D3]at hl ih;simp only[List.length_append,D3];omega
abbrev Lws:=List (Option (Bool×List (Int×List Ag)))
def NC (ls:Lws) (p:Nat):List (Int×List Ag):=match ls[p % 5]? with
 | some (some (_,m))=>m
 | _=>[]
structure I0 (t:Ab) (s:Ad) (M:Nat) (u:List (Int×Int)) (p:Nat) (mm:List (Int×List Ag)):Prop where
 km:KM mm
 som:∀ k l,AR k mm=some l->l≠[]/\∃ (i:Nat) (σ:Int),k=(i:Int)/\(k,σ)∈u/\Bst (Rdg t i (s.Felt.drop p)) (s.Budget-σ) M l
 non:∀ k,AR k mm=none->∀ (i:Nat) (σ:Int),k=(i:Int)->(k,σ)∈u->Bst (Rdg t i (s.Felt.drop p)) (s.Budget-σ) M []
theorem Bst.uniq {T:Ag->Prop} {B:Int} {M:Nat} {l l':List Ag} (h:Bst T B M l) (h':Bst T B M l'):l=l':=by
 rw[h.take h' (JkD _)];exact List.take_of_length_le h'.len
theorem I0.ext {t:Ab} {s:Ad} {M:Nat} {u:List (Int×Int)} {p:Nat} {a b:List (Int×List Ag)} (hu:(u.map Prod.fst).Nodup) (h:I0 t s M u p a) (h':I0 t s M u p b):a=b:=by
 have one:∀ k σ σ',(k,σ)∈u->(k,σ')∈u->σ=σ':=λ k σ σ' h1 h2=>by
  have e1:=JcG h1 hu;have e2:=JcG h2 hu;simp only at e1 e2;rw[e1]at e2;exact Option.some.inj e2
 refine h.km.ext h'.km λ k=>?_;cases e:AR k a with
 | none=>
  cases e':AR k b with
  | none=>rfl
  | some l=>
   obtain⟨h1,i,σ,hi,hm,hb⟩:=h'.som k l e';exact absurd (hb.uniq (h.non k e i σ hi hm)) h1
 | some l=>
  obtain⟨h1,i,σ,hi,hm,hb⟩:=h.som k l e;cases e':AR k b with
  | none=>exact absurd (hb.uniq (h'.non k e' i σ hi hm)) h1
  | some l'=>
   obtain⟨_,i',σ',hi',hm',hb'⟩:=h'.som k l' e';have hii:i=i':=by omega
   subst hii;rw[one k σ σ' hm hm']at hb;rw[hb.uniq hb']
theorem I0.congr {t:Ab} {s:Ad} {M:Nat} {u u':List (Int×Int)} {p:Nat} {a:List (Int×List Ag)} (h:I0 t s M u p a) (e:∀ x,x∈u↔x∈u'):I0 t s M u' p a:=
 ⟨h.km,λ k l hl=>by obtain⟨h1,i,σ,h2,h3,h4⟩:=h.som k l hl;exact⟨h1,i,σ,h2,(e _).1 h3,h4⟩,λ k hk i σ hi hm=>h.non k hk i σ hi ((e _).2 hm)⟩
def hdA (s:Ad) (q:Nat) (ls:Lws) (a:Hu):Ai:={ Arc:=a,More:=BJ (s.Felt.drop q) a.Cells,List:=Option.getD (AR a.To (NC ls (q+a.Cells.length))) [],First:=⟨0,[],[]⟩ }
def hdO (s:Ad) (q:Nat) (ls:Lws) (a:Hu):Option Ai:=if q+a.Cells.length<=s.Felt.length then some (hdA s q ls a)else none
structure LK (s:Ad) (q:Nat) (ls:Lws):Prop where
 len:ls.length=5
 row:∀ p,q<=p->p<=s.Felt.length->p<q+5->∃ mm,ls[p % 5]?=some (some (false,mm))
theorem LK.rowM {s:Ad} {q p:Nat} {ls:Lws} (h:LK s q ls) (h1:q<=p) (h2:p<=s.Felt.length) (h3:p<q+5):Go.AI.rowM ls ((p % 5:Nat):Int)=some (NC ls p)/\ls.set (p % 5) (some (false,NC ls p))=ls:=by
 obtain⟨mm,e⟩:=h.row p h1 h2 h3;have em:NC ls p=mm:=by unfold NC;rw[e]
 rw[em];refine⟨by unfold Go.AI.rowM;rw[CY e];rfl,?_⟩;apply List.ext_getElem?;intro j;by_cases ej:p % 5=j
 ·subst ej;rw[JkZ (by rw[h.len];omega),e]
 ·rw[Jk4 ej]
theorem Vo (p:Nat):Bo (p:Int) 5=((p % 5:Nat):Int):=by
 rw[(RW (by omega) (by omega)).1];omega
theorem JcJ {t:Ab} {s:Ad} (hs:SmS t s) {q:Nat} (hq:q<=s.Felt.length) {ls:Lws} (hls:LK s (q+1) ls) {i:Nat} {l:List Hu} (hl:s.Arcs[i]?=some l) (rows:Rws) (e:Int×Int) (h0:List Ai) (h01:h0.length<=1) :
  Tot (λ n=>whl (λ (x:Lws×List Ai×Int)=>Bx n (q:Int) (wb s rows) e l x.1 x.2.1 x.2.2) n (ls,h0,0)) (λ r=>r=(ls,h0++l.filterMap (hdO s q ls))):=by
 have hA:=hs.sr.arcs i _ hl;have hr11:=hs.tb.tab.1;have hfl:=hs.fl;have hll:l.length<=11:=by have:=hA.len;omega
 refine Tot.upto (body:=λ n (x:Lws×List Ai×Int)=>Bx n (q:Int) (wb s rows) e l x.1 x.2.1 x.2.2) l.length (λ m x=>x.2.2=(m:Int)/\x.1=ls/\x.2.1=h0++(l.take m).filterMap (hdO s q ls)) ?_ ?_ _ ⟨rfl,rfl,by simp⟩
 ·rintro m ⟨x,hh,_⟩ hm ⟨rfl,hx,hhh⟩;simp only at hx hhh;subst hx;subst hhh;unfold Bx;have hidx:idx s.Arcs (i:Int)=some l:=CY hl;obtain⟨a1,a4,_,j,hj,hjl⟩:=hs.arc hidx (JkA hm);refine Tot.iteT (GZ hm) (Tot.bindC (Cl hm) (Tot.bind (Vn (s:=wb s rows) (w:=l[m].Cells) (by show s.Felt.length<=_;omega) hq) ?_));rintro r rfl;have hfl2:(wb s rows).Felt=s.Felt:=rfl;rw[hfl2];have htk:(l.take (m+1)).filterMap (hdO s q x)=(l.take m).filterMap (hdO s q x)++(hdO s q x l[m]).toList:=by
   rw[List.take_add_one,JkO hm,Option.toList_some,List.filterMap_append];congr 1
  have hlen:(h0++(l.take m).filterMap (hdO s q x)).length<=1+11:=by
   have:=List.length_filterMap_le (hdO s q x) (l.take m);simp only[List.length_append,List.length_take]at this⊢;omega
  by_cases hfit:q+l[m].Cells.length<=s.Felt.length
  ·rw[if_pos hfit];have hadd2:AZ .i64 (q:Int) ((List.length l[m].Cells:Nat):Int)=((q+l[m].Cells.length:Nat):Int):=by rw[Jf (by omega) (by omega)];simp
   refine Tot.iteT rfl ?_;simp only[hadd2,Vo];obtain⟨e1,e2⟩:=hls.rowM (p:=q+l[m].Cells.length) (by omega) hfit (by omega);refine Tot.bindC e1 (Tot.bindC (CZ (by simp;omega)) (Tot.bindC (IX (by simp only[List.length_cons,List.length_nil];omega)) ?_));rw[JkX,e2];refine Jkl ⟨Ef (by omega),rfl,?_⟩;rw[htk];unfold hdO;rw[if_pos hfit];simp[hdA]
  ·rw[if_neg hfit];refine Tot.iteF rfl (Jkl ⟨Ef (by omega),rfl,?_⟩);rw[htk];unfold hdO;rw[if_neg hfit];simp
 ·rintro⟨x,hh,_⟩ ⟨rfl,hx,hhh⟩;simp only at hx hhh;subst hx;subst hhh;unfold Bx;refine Tot.iteF (Ki _) (Jkl (by show _=_;rw[List.take_length]))
end Go.AI
end
section
namespace Go.AI
theorem Jej {h:Ai} (hp:h.List.Pairwise klr):(gam h).Pairwise klr:=by
 unfold gam;rw[List.pairwise_map];refine hp.imp λ {a b} hk=>?_;rcases hk with hk|⟨hk,h2⟩
 ·exact .inl (by show h.More+a.Cost<h.More+b.Cost;omega)
 ·exact .inr ⟨by show h.More+a.Cost=h.More+b.Cost;omega,(OK _).2 h2⟩
theorem Jek {h:Ai} (hp:h.List.Pairwise λ a b=>a.Text≠b.Text):(gam h).Pairwise λ a b=>a.Text≠b.Text:=by
 unfold gam;rw[List.pairwise_map];exact hp.imp λ {a b} hk e=>hk (List.append_cancel_left e)
theorem Bst.tx {T:Ag->Prop} {B:Int} {M:Nat} {l:List Ag} (h:Bst T B M l):l.Pairwise λ a b=>a.Text≠b.Text:=
 List.Pairwise.imp_of_mem (λ {a b} ha hb hab e=>by
  have:=h.dst a ha b hb e;subst this;exact Cm _ hab) h.srt
theorem JhQ {h:Ai} {a b:Ag} (hl:le2 a b):le2 (mpR h a) (mpR h b):=by
 rcases hl with hl|⟨hl,h2⟩
 ·exact .inl (by show h.More+a.Cost<h.More+b.Cost;omega)
 ·exact .inr ⟨by show h.More+a.Cost=h.More+b.Cost;omega,λ h3=>h2 ((OK _).1 h3)⟩
theorem JhR {h:Ai} {a b:Ag} (hl:klr a b):klr (mpR h a) (mpR h b):=by
 rcases hl with hk|⟨hk,h2⟩
 ·exact .inl (by show h.More+a.Cost<h.More+b.Cost;omega)
 ·exact .inr ⟨by show h.More+a.Cost=h.More+b.Cost;omega,(OK _).2 h2⟩
def hd0:Ai:={ Arc:=⟨[],[],0⟩,More:=0,List:=[⟨0,[],[]⟩],First:=⟨0,[],[]⟩ }
def LV (t:Ab) (s:Ad) (M:Nat) (rows:Rws) (q:Nat) (ls:Lws):Prop:=
 ls.length=5/\∀ p m,q<p->p<=s.Felt.length->p<q+5->rows[p]?=some (some (true,m))->∃ mm,ls[p % 5]?=some (some (false,mm))/\I0 t s M m p mm
theorem LV.set {t:Ab} {s:Ad} {M:Nat} {rows:Rws} {q:Nat} {ls:Lws} (h:LV t s M rows q ls) (x:Option (Bool×List (Int×List Ag))):LV t s M rows q (ls.set (q % 5) x):=by
 refine⟨by rw[Jk5];exact h.1,λ p m h1 h2 h3 h4=>?_⟩;obtain⟨mm,e,hm⟩:=h.2 p m h1 h2 h3 h4;exact⟨mm,by rw[Jk4 (by omega)];exact e,hm⟩
theorem RKr.at {L fl p:Nat} {C:Nat->Int->Int->Prop} {a:Rws} (h:RKr L fl C a) (h1:p<fl) (h2:p<=L):∃ m,a[p]?=some (some (true,m))/\Js (C p) m:=by
 obtain⟨m,e,hm⟩:=h.row p h2;rw[decide_eq_true h1]at e;exact⟨m,e,hm⟩
theorem Y8 {t:Ab} {s:Ad} (hs:SmS t s) {M:Nat} (hM:s.Most=(M:Int)) (hM0:1<=M) (hM1:M<=1000) {C:Nat->Int->Int->Prop} {rows:Rws} (hc:CV t s (s.Felt.length+1) C rows) {q:Nat} (hq:q<=s.Felt.length) {m:List (Int×Int)} (hm:rows[q]?=some (some (true,m)))
  {i:Nat} {σ:Int} (he:((i:Int),σ)∈m) {g:Af} (hg:(AH t)[i]?=some g) {l:List Hu} (hl:s.Arcs[i]?=some l) {ls:Lws} (hls:LV t s M rows q ls) (rows':Rws) :
  Tot (λ n=>CU n (s.Budget-σ) (wb s rows') ((if q=s.Felt.length/\Bk t g=true then [hd0]else [])++l.filterMap (hdO s q ls))) (Bst (Rdg t i (s.Felt.drop q)) (s.Budget-σ) M):=by
 have hA:=hs.sr.arcs i _ hl;have hr11:=hs.tb.tab.1;have hfl:=hs.fl;have hb0:=hs.b0;have hb1:=hs.b1;have hhd:∀ h∈(if q=s.Felt.length/\Bk t g=true then [hd0]else [])++l.filterMap (hdO s q ls),(h=hd0/\q=s.Felt.length/\Bk t g=true) \/
   ∃ k j:Nat,Edge t (AH t) i k j/\q+(clb t k).length<=s.Felt.length/\h.Arc=⟨prt t k,clb t k,(j:Int)⟩/\h.More=BJ (s.Felt.drop q) (clb t k)/\(h.List=[]\/∃ σ',0<=σ'/\Bst (Rdg t j (s.Felt.drop (q+(clb t k).length))) (s.Budget-σ') M h.List):=λ h hh=>by
  rcases List.mem_append.1 hh with hh|hh
  ·split at hh
   ·rename_i hx;simp only[List.mem_singleton]at hh;exact .inl ⟨hh,hx.1,hx.2⟩
   ·simp at hh
  ·right;obtain⟨a,ha,e⟩:=List.mem_filterMap.1 hh;unfold hdO at e;split at e
   ·rename_i hfit;cases e;obtain⟨j,k,hE,rfl⟩:=hA.snd a ha;have hk4:=E3 hs.tb hE.choose_spec.choose_spec.2.1;simp only at hfit;refine⟨k,j,hE,hfit,rfl,rfl,?_⟩;obtain⟨mp,emp,hrp⟩:=hc.rk.at (p:=q+(clb t k).length) (by omega) hfit;obtain⟨mm,emm,hmm⟩:=hls.2 (q+(clb t k).length) mp (by rw[D3];omega) hfit (by rw[D3];omega) emp;have:NC ls (q+(clb t k).length)=mm:=by unfold NC;rw[emm]
    show Option.getD (AR (j:Int) (NC ls (q+(clb t k).length))) []=[]\/_;rw[this];cases e3:AR (j:Int) mm with
    | none=>exact .inl rfl
    | some x=>
     right;obtain⟨_,j',σ',hj',hmem,hb⟩:=hmm.som _ _ e3;have:j=j':=by omega
     subst this;have hv:=hc.val _ _ _ (hrp.lst _ _ ((hrp.km.mem _ _).1 hmem)).1;refine⟨σ',hv.2.1,?_⟩;show Bst _ _ _ (Option.getD (AR (j:Int) (NC ls (q+(clb t k).length))) []);rw[‹NC ls _=mm›,e3];exact hb
   ·cases e
 have hlen:((if q=s.Felt.length/\Bk t g=true then [hd0]else [])++l.filterMap (hdO s q ls)).length<=12:=by
  have h1:=List.length_filterMap_le (hdO s q ls) l;have h2:=hA.len;rw[List.length_append];split<;>simp<;>omega
 have hBst:∀ h∈(if q=s.Felt.length/\Bk t g=true then [hd0]else [])++l.filterMap (hdO s q ls),h.List.Pairwise klr/\h.List.Pairwise λ a b=>a.Text≠b.Text:=λ h hh=>by
  rcases hhd h hh with⟨rfl,_⟩|⟨k,j,_,_,_,_,e|⟨σ',_,hb⟩⟩
  ·exact⟨List.pairwise_singleton _ _,List.pairwise_singleton _ _⟩
  ·rw[e];exact⟨List.Pairwise.nil,List.Pairwise.nil⟩
  ·exact⟨hb.srt,hb.tx⟩
 refine JcE (s:=wb s rows') hM hM1 (by omega) (λ h hh=>?_) (λ h hh c hc'=>?_) (λ h hh=>Jej (hBst h hh).1) (λ h hh=>Jek (hBst h hh).2) λ r hr hrB=>?_
 ·rcases hhd h hh with⟨rfl,_⟩|⟨k,j,hE,hfit,ea,em,hl'⟩
  ·exact⟨Int.le_refl _,by decide,by decide,by decide,λ r hr=>by
    have:r=⟨0,[],[]⟩:=by simpa [hd0]using hr
    subst this;exact⟨Int.le_refl _,by decide,by decide,by decide⟩⟩
  ·obtain⟨_,_,_,hk,_,_⟩:=hE;obtain⟨c1,c2,c3,_⟩:=E3 hs.tb hk;have h1:=EI (s.Felt.drop q) (clb t k);rw[D3]at h1;refine⟨by rw[em];omega,by rw[em];omega,by rw[ea];show(prt t k).length<=_;omega,by rw[ea];show(clb t k).length<=_;rw[D3];omega,λ r hr=>?_⟩;rcases hl' with e|⟨σ',h0,hb⟩
   ·rw[e]at hr;simp at hr
   ·obtain⟨h2,h3⟩:=hb.snd r hr;obtain⟨h4,h5,h6⟩:=h2.len hs.tb;rw[List.length_drop]at h4 h5;exact⟨h6,by omega,by omega,by omega⟩
 ·obtain⟨r,hr,rfl⟩:=JkG.1 hc';rcases hhd h hh with⟨rfl,e1,e2⟩|⟨k,j,hE,hfit,ea,em,hl'⟩
  ·have:r=⟨0,[],[]⟩:=by simpa [hd0]using hr
   subst this;rw[e1,List.drop_length];exact .nil i g hg e2
  ·rcases hl' with e|⟨σ',h0,hb⟩
   ·rw[e]at hr;simp at hr
   ·obtain⟨h2,_⟩:=hb.snd r hr;have:=Rdg.arc i k j (s.Felt.drop q) r hE (by rw[List.length_drop];omega) (by rw[List.drop_drop];exact h2);unfold mpR;rw[ea,em];exact this
 ·generalize hfd:s.Felt.drop q=fd at hr;cases hr with
  | nil _ g' hg' ha=>
   have e1:q=s.Felt.length:=by have:=congrArg List.length hfd;simp at this;omega
   rw[hg]at hg';cases hg';refine⟨hd0,by rw[if_pos ⟨e1,ha⟩];simp,by simp[hd0],.inl ⟨⟨0,[],[]⟩,by simp[gam,hd0,mpR],rfl,ML _⟩⟩
  | arc _ k j _ r' hE hl2 hr'=>
   subst hfd;rw[List.length_drop]at hl2;rw[List.drop_drop]at hr';have hfit:q+(clb t k).length<=s.Felt.length:=by
    have:=(E3 hs.tb hE.choose_spec.choose_spec.2.1).1;rw[← D3]at this;omega
   have hk4:=E3 hs.tb hE.choose_spec.choose_spec.2.1;have hmem:(⟨prt t k,clb t k,(j:Int)⟩:Hu)∈l:=hA.cov k j hE.choose_spec.choose_spec.2.1 hE;have hhm:hdA s q ls ⟨prt t k,clb t k,(j:Int)⟩∈(if q=s.Felt.length/\Bk t g=true then [hd0]else [])++l.filterMap (hdO s q ls):=by
    refine List.mem_append_right _ (List.mem_filterMap.2 ⟨_,hmem,?_⟩);unfold hdO;rw[if_pos hfit]
   have hr0:=(hr'.len hs.tb).2.2;simp only at hrB;have hx:Tt s q ((i:Int),σ) (q+(clb t k).length) (j:Int) (σ+BJ (s.Felt.drop q) (clb t k)):=⟨l,_,CY hl,hmem,rfl,hfit,rfl,rfl,by omega⟩;have hC:=hc.clo q (by omega) m hm _ he _ _ _ hx;obtain⟨mp,emp,hrp⟩:=hc.rk.at (p:=q+(clb t k).length) (by omega) hfit;obtain⟨w,hw,hwle⟩:=hrp.has hC;obtain⟨mm,emm,hmm⟩:=hls.2 (q+(clb t k).length) mp (by rw[D3];omega) hfit (by rw[D3];omega) emp;have emA:NC ls (q+(clb t k).length)=mm:=by unfold NC;rw[emm]
   have hwm:=(hrp.km.mem _ _).2 hw;have hlst:(hdA s q ls ⟨prt t k,clb t k,(j:Int)⟩).List=Option.getD (AR (j:Int) mm) []:=by
    show Option.getD (AR (j:Int) (NC ls (q+(clb t k).length))) []=_;rw[emA]
   have hmp:∀ x,mpR (hdA s q ls ⟨prt t k,clb t k,(j:Int)⟩) x=⟨BJ (s.Felt.drop q) (clb t k)+x.Cost,prt t k++x.Text,clb t k++x.Cells⟩:=λ x=>rfl;cases e3:AR (j:Int) mm with
   | none=>
    have hb:=hmm.non _ e3 j w rfl hwm;rcases hb.cov r' hr' (by omega)with⟨x,hx',_⟩|⟨h2,_⟩
    ·simp at hx'
    ·simp at h2;omega
   | some x=>
    obtain⟨hne,j',σ',hj',hmem',hb⟩:=hmm.som _ _ e3;have:j=j':=by omega
    subst this;have hσ:σ'=w:=by
     have:=(hrp.km.mem _ _).1 hmem';rw[hw]at this;exact(Option.some.inj this).symm
    subst hσ;rw[e3,Jkz]at hlst;refine⟨_,hhm,by rw[hlst];exact hne,?_⟩;rw[← hmp r'];rcases hb.cov r' hr' (by omega)with⟨y,hy,hyt,hyle⟩|⟨h2,h3⟩
    ·exact .inl ⟨mpR _ y,by unfold gam;rw[hlst];exact List.mem_map_of_mem hy,by show prt t k++y.Text=prt t k++r'.Text;rw[hyt],JhQ hyle⟩
    ·refine .inr ⟨by unfold gam;rw[hlst,JkJ];exact h2,λ c hc'=>?_⟩;unfold gam at hc';rw[hlst]at hc';obtain⟨y,hy,rfl⟩:=JkG.1 hc';exact JhR (h3 y hy)
end Go.AI
end
section
namespace Go.AI
theorem I0.put {t:Ab} {s:Ad} {M:Nat} {u:List (Int×Int)} {q:Nat} {mm:List (Int×List Ag)} (h:I0 t s M u q mm) {i:Nat} {σ:Int} {l:List Ag} (hb:Bst (Rdg t i (s.Felt.drop q)) (s.Budget-σ) M l) (hu:((u++[((i:Int),σ)]).map Prod.fst).Nodup) :
  I0 t s M (u++[((i:Int),σ)]) q (if l=[]then mm else Ce (BQ (i:Int) l mm)):=by
 have hnew:∀ σ',((i:Int),σ') ∉ u:=λ σ' hm=>by
  rw[List.map_append,List.nodup_append]at hu;exact hu.2.2 (i:Int) (JkG.2 ⟨_,hm,rfl⟩) (i:Int) (by simp) rfl
 split
 ·rename_i hl;subst hl;refine⟨h.km,λ k l hl=>?_,λ k hk j τ hj hm=>?_⟩
  ·obtain⟨h1,j,τ,h2,h3,h4⟩:=h.som k l hl;exact⟨h1,j,τ,h2,List.mem_append_left _ h3,h4⟩
  ·rcases List.mem_append.1 hm with hm|hm
   ·exact h.non k hk j τ hj hm
   ·simp only[List.mem_singleton,Prod.mk.injEq]at hm;obtain⟨rfl,rfl⟩:=hm;have:i=j:=by omega
    subst this;exact hb
 ·rename_i hl;refine⟨Xz h.km _ _,λ k l' hl'=>?_,λ k hk j τ hj hm=>?_⟩
  ·rw[MM h.km]at hl';split at hl'
   ·rename_i e;cases hl';subst e;exact⟨hl,i,σ,rfl,by simp,hb⟩
   ·obtain⟨h1,j,τ,h2,h3,h4⟩:=h.som k l' hl';exact⟨h1,j,τ,h2,List.mem_append_left _ h3,h4⟩
  ·rw[MM h.km]at hk;split at hk
   ·cases hk
   ·rename_i e;rcases List.mem_append.1 hm with hm|hm
    ·exact h.non k hk j τ hj hm
    ·simp only[List.mem_singleton,Prod.mk.injEq]at hm;exact absurd hm.1 e
theorem Jel {t:Ab} {s:Ad} (hs:SmS t s) {M:Nat} (hM:s.Most=(M:Int)) (hM0:1<=M) (hM1:M<=1000) {C:Nat->Int->Int->Prop} {rows:Rws} (hc:CV t s (s.Felt.length+1) C rows) {q:Nat} (hq:q<=s.Felt.length) {m:List (Int×Int)} (hm:rows[q]?=some (some (true,m))) (hrow:Js (C q) m)
  {u:List (Int×Int)} {e:Int×Int} (he:e∈m) (hu:((u++[e]).map Prod.fst).Nodup) {ls:Lws} (hls:LV t s M rows q ls) {mm:List (Int×List Ag)} (hmm:I0 t s M u q mm) :
  Tot (λ n=>Ba n (q:Int) e (wb s rows) (ls.set (q % 5) (some (false,mm)))) (Rd2 (λ r=>∃ mm',r=(wb s rows,ls.set (q % 5) (some (false,mm')))/\I0 t s M (u++[e]) q mm') (λ _=>True)):=by
 obtain⟨k,σ⟩:=e;obtain⟨⟨i,rfl,hil⟩,h0,h1⟩:=hc.val q k σ (hrow.lst k σ ((hrow.km.mem k σ).1 he)).1;obtain⟨g,hg⟩:∃ g,(AH t)[i]?=some g:=⟨_,JkO hil⟩;have hal:i<s.Arcs.length:=by rw[hs.sr.len];exact hil
 have hl:=JkO hal;have hfl:=hs.fl;have hb1:=hs.b1;have hls2:=hls.set (some (false,mm));have hlk:LK s (q+1) (ls.set (q % 5) (some (false,mm))):=by
  refine⟨hls2.1,λ p h2 h3 h4=>?_⟩;by_cases e5:p=q+5
  ·subst e5;rw[show(q+5) % 5=q % 5 by omega];exact⟨mm,by rw[JkZ (by rw[hls.1];omega)]⟩
  ·obtain⟨mp,emp,_⟩:=hc.rk.at (p:=p) (by omega) h3;obtain⟨x,hx,_⟩:=hls2.2 p mp (by omega) h3 (by omega) emp;exact⟨x,hx⟩
 have main:∀ h0:List Ai,h0=(if q=s.Felt.length/\Bk t g=true then [hd0]else [])->Tot (λ n=>BV n (q:Int) (wb s rows) (ls.set (q % 5) (some (false,mm))) ((i:Int),σ) h0) (Rd2 (λ r=>∃ mm',r=(wb s rows,ls.set (q % 5) (some (false,mm')))/\I0 t s M (u++[((i:Int),σ)]) q mm') (λ _=>True)):=λ h0' hh0=>by
  unfold BV;refine Tot.bindC (show idx (wb s rows).Arcs (i:Int)=some s.Arcs[i]from CY hl) (Tot.bind (JcJ hs hq hlk hl rows _ h0' (by rw[hh0];split<;>simp)) ?_);rintro _ rfl;have hmg:=Y8 hs hM hM0 hM1 hc hq hm he hg hl hls2 rows;rw[← hh0]at hmg;have hsub:FZ .i64 (wb s rows).Budget σ=s.Budget-σ:=RU (by show _<=s.Budget-σ;omega) (by show s.Budget-σ<_;omega);show Tot _ _;simp only[hsub];refine Tot.bind hmg λ r hr=>?_;have hput:=hmm.put hr hu;refine Tot.ite (λ hx=>?_) λ hx=>?_
  ·have hne:r≠[]:=λ e=>by subst e;simp at hx
   rw[if_neg hne]at hput;have hrm:rowM (ls.set (q % 5) (some (false,mm))) (Bo (q:Int) 5)=some mm:=by
    rw[Vo];unfold rowM;rw[CY (JkZ (by rw[hls.1];omega))];rfl
   refine Tot.bindC hrm (Tot.bindC (CZ (by rw[Vo];simp;omega)) (Jkl ⟨_,?_,hput⟩));rw[Vo,JkX,List.set_set]
  ·have hne:r=[]:=by
    cases r with
    | nil=>rfl
    | cons=>(first|(simp at hx;done)|(simp at hx;omega))
   rw[if_pos hne]at hput;exact Jkl ⟨mm,rfl,hput⟩
 unfold Ba;have hacc:idx (wb s rows).Accepts (i:Int)=some (Bk t g):=CY (hs.sr.acc i g hg);have hfw:(wb s rows).Felt=s.Felt:=rfl;rw[hfw];by_cases hqe:q=s.Felt.length
 ·refine Tot.bindC (y:=Bk t g) (by rw[if_pos (by simp[hqe])];exact hacc) (Tot.ite (λ hx=>?_) λ hx=>?_)
  ·have ha:Bk t g=true:=by simpa [hqe]using hx
   refine Tot.bindC (IX (by simp)) (main _ ?_);rw[if_pos ⟨hqe,ha⟩];rfl
  ·have ha:¬Bk t g=true:=by simpa [hqe]using hx
   exact main _ (by rw[if_neg λ h=>ha h.2])
 ·refine Tot.bindC (y:=default) (by rw[if_neg (by first|(simp;done)|(simp;omega))]) (Tot.iteF (by first|(simp;done)|(simp;omega)) (main _ (by rw[if_neg λ h=>hqe h.1])))
theorem Y9 {rows:Rws} {q:Nat} {x:Option (Bool×List (Int×Int))} (h:rows[q]?=some x):rows.set q x=rows:=by
 apply List.ext_getElem?;intro j;by_cases e:q=j
 ·subst e;rw[JkZ (AE h),h]
 ·rw[Jk4 e]
theorem Jem {t:Ab} {s:Ad} (hs:SmS t s) {M:Nat} (hM:s.Most=(M:Int)) (hM0:1<=M) (hM1:M<=1000) {C:Nat->Int->Int->Prop} {rows:Rws} (hc:CV t s (s.Felt.length+1) C rows) {q:Nat} (hq:q<=s.Felt.length) {ls:Lws} (hls:LV t s M rows q ls) :
  Tot (λ n=>By n (wb s rows) ls (q:Int)) (Rd2 (λ r=>∃ m mm,rows[q]?=some (some (true,m))/\I0 t s M m q mm/\r=(wb s rows,ls.set (q % 5) (some (false,mm)),(q:Int)-1)) (λ _=>False)):=by
 have hfl:=hs.fl;obtain⟨m,hm,hrow⟩:=hc.rk.at (p:=q) (by omega) hq;unfold By;have hidx:(q % 5)<ls.length:=by rw[hls.1];omega
 have hra:rowA (wb s rows).Before (q:Int)=some (true,m):=by
  unfold rowA;rw[show idx (wb s rows).Before (q:Int)=some (some (true,m))from CY hm];rfl
 simp only[Vo];refine Tot.iteT (by simp) (Tot.bindC (Cl hidx) (Tot.bindC (CZ (by simp;omega)) (Tot.bindC hra ?_)));have hsame:({ Felt:=(wb s rows).Felt,Budget:=(wb s rows).Budget,Most:=(wb s rows).Most,Arcs:=(wb s rows).Arcs,Accepts:=(wb s rows).Accepts,Before:=List.set (wb s rows).Before q (some (true,m)) }:Ad)=wb s rows:=by
  show wb s (rows.set q (some (true,m)))=_;rw[Y9 hm]
 simp only[JkX];simp only[hsame];have pass:∀ o:List (Int×Int),o.Perm m->Tot (λ n=>mapW (λ (e:Int×Int) (x:Ad×Lws)=>Ba n (q:Int) e x.1 x.2) o (wb s rows,ls.set (q % 5) (some (false,[])))) (Rd2 (λ r=>∃ mm,r=(wb s rows,ls.set (q % 5) (some (false,mm)))/\I0 t s M m q mm) (λ _=>True)):=λ o ho=>by
  refine(Tot.mapW (F:=λ n (e:Int×Int) (x:Ad×Lws)=>Ba n (q:Int) e x.1 x.2) (λ u r=>∃ mm,r=(wb s rows,ls.set (q % 5) (some (false,mm)))/\I0 t s M u q mm) (λ u e v x hu hx=>?_) ⟨[],rfl,List.Pairwise.nil,λ k l h=>(by cases h),λ k _ i σ _ h=>by simp at h⟩).mono λ z hz=>?_
  ·obtain⟨mm,rfl,hmm⟩:=hx;refine Jel hs hM hM0 hM1 hc hq hm hrow (ho.mem_iff.1 (by rw[hu];simp)) ?_ hls hmm;have h1:(o.map Prod.fst).Nodup:=((ho.map Prod.fst).nodup_iff).2 hrow.km.nd;rw[hu,show u++e::v=(u++[e])++v by simp,List.map_append,List.nodup_append]at h1;exact h1.1
  ·cases z with
   | inr z=>exact trivial
   | inl z=>
    obtain⟨mm,e1,h2⟩:=hz;exact⟨mm,e1,h2.congr λ x=>ho.mem_iff⟩
 obtain⟨z0,hz0,_⟩:=pass m (List.Perm.refl _);cases z0 with
 | inr z=>exact nomatch z
 | inl z0=>
  obtain⟨mm0,rfl,h0⟩:=hz0;refine Tot.demP (.inl (wb s rows,ls.set (q % 5) (some (false,mm0)),(q:Int)-1)) (λ o ho=>?_) ⟨m,mm0,hm,h0,rfl⟩;refine Tot.bind (pass o ho) ?_;rintro (z|z) hz
  ·obtain⟨mm,rfl,h'⟩:=hz;have:=I0.ext hrow.km.nd h' h0;subst this;exact Jkl (by rw[RU (by omega) (by omega)])
  ·exact nomatch z
theorem Vp {t:Ab} {s:Ad} (hs:SmS t s) {M:Nat} (hM:s.Most=(M:Int)) (hM0:1<=M) (hM1:M<=1000) {rows:Rws} (hf:FwK t s rows):Tot (λ n=>CL n (wb s rows)) (λ r=>Bst (Rdg t 0 s.Felt) s.Budget M r.2):=by
 obtain⟨C,hc⟩:=hf.cv;have hfl:=hs.fl;unfold CL;refine Tot.bind (R:=λ y=>y.2.length=5/\∃ m mm,rows[0]?=some (some (true,m))/\I0 t s M m 0 mm/\y.2[0]?=some (some (false,mm))) ?_ ?_
 ·refine Tot.whl (body:=λ n (x:Ad×Lws×Int)=>By n x.1 x.2.1 x.2.2) (λ k x=>x.1=wb s rows/\x.2.2=(k:Int)-1/\k<=s.Felt.length+1/\x.2.1.length=5/\∀ p m,k<=p->p<=s.Felt.length->p<k+5->rows[p]?=some (some (true,m))->∃ mm,x.2.1[p % 5]?=some (some (false,mm))/\I0 t s M m p mm) ?_ (s.Felt.length+1) _ ⟨rfl,by show((s.Felt.length:Nat):Int)=_;omega,JkD _,by simp,λ p m h1 h2=>by omega⟩
  ·rintro k ⟨x,ls,_⟩ ⟨hx,rfl,hk,hl5,hr⟩;simp only at hx hl5 hr;subst hx;cases k with
   | zero=>
    unfold By;obtain⟨m,hm,hrow⟩:=hc.rk.at (p:=0) (by omega) (by omega);obtain⟨mm,h1,h2⟩:=hr 0 m (by omega) (by omega) (by omega) hm;exact Tot.iteF (by simp) (Jkl ⟨hl5,m,mm,hm,h2,h1⟩)
   | succ q=>
    have hq:q<=s.Felt.length:=by omega
    have e1:((q+1:Nat):Int)-1=(q:Int):=by omega
    simp only[e1];have hlv:LV t s M rows q ls:=⟨hl5,λ p m h1 h2 h3 h4=>hr p m h1 h2 (by omega) h4⟩;refine(Jem hs hM hM0 hM1 hc hq hlv).mono λ z hz=>?_;cases z with
    | inr z=>exact hz.elim
    | inl z=>
     obtain⟨m,mm,hm,hmm,rfl⟩:=hz;refine⟨q,by omega,rfl,rfl,by omega,by simpa using hl5,λ p m' h1 h2 h3 h4=>?_⟩;by_cases e:p=q
     ·subst e;rw[hm]at h4;cases h4;exact⟨mm,JkZ (by omega),hmm⟩
     ·obtain⟨mm',h5,h6⟩:=hr p m' (by omega) h2 (by omega) h4;exact⟨mm',by rw[Jk4 (by omega)];exact h5,h6⟩
 ·rintro⟨x,ls⟩ ⟨hl5,m,mm,hm,hmm,h0⟩;simp only at hl5 h0;have hrm:rowM ls 0=some mm:=by
   unfold rowM;rw[show idx ls 0=some (some (false,mm))from CY (i:=0) h0];rfl
  refine Tot.bindC hrm (Tot.bindC rfl (Jkl ?_));obtain⟨m',hm',hrow⟩:=hc.rk.at (p:=0) (by omega) (by omega);rw[hm]at hm';cases hm';obtain⟨w,hw,_⟩:=hrow.has hc.rt.1;have hw0:w=0:=hc.rt.2 w (hrow.lst _ _ hw).1;subst hw0;have hwm:=(hrow.km.mem _ _).2 hw;show Bst _ _ _ (Option.getD (AR 0 mm) []);cases e3:AR (0:Int) mm with
  | none=>
   have:=hmm.non 0 e3 0 0 rfl hwm;rw[List.drop_zero,Int.sub_zero]at this;exact this
  | some l=>
   obtain⟨_,i,σ,hi,hmem,hb⟩:=hmm.som 0 l e3;have:i=0:=by omega
   subst this;have hσ:σ=0:=by
    have:=(hrow.km.mem _ _).1 hmem;rw[hw]at this;exact(Option.some.inj this).symm
   subst hσ;rw[List.drop_zero,Int.sub_zero]at hb;exact hb
end Go.AI
end
section
namespace Go.AI
def gs (r:Ag):An:={ Text:=r.Text,Cells:=A5 r.Cells,Cost:=r.Cost }
theorem XA {t:Ab} (ht:TbK t) {fl:List Ay} (hf:fl.length<=100000) {B:Int} (h0:0<=B) (h1:B<=100000) {M:Nat} (hM0:1<=M) (hM1:M<=1000):Tot (λ n=>JR n t fl B (M:Int)) (λ r=>∃ l,Bst (Rdg t 0 fl) B M l/\r=l.map gs):=by
 have hv:=Y1 ht.small;rw[ht.valid]at hv;unfold JR;refine Jkm hv (Tot.iteF rfl (Tot.bind (Ts ht fl B (M:Int)) λ s hs=>?_));have hS:SmS t s:=⟨ht,by rw[hs.felt,hs.bud,hs.most];exact hs,by rw[hs.felt];exact hf,by rw[hs.bud];exact h0,by rw[hs.bud];exact h1⟩;refine Tot.bind (WH hS) ?_;rintro _ ⟨rows,rfl,hF⟩;refine Tot.bind (Vp hS hs.most hM0 hM1 hF) λ r hb=>?_;rw[hs.felt,hs.bud]at hb;have hl:=hb.len;refine Tot.bind (R:=λ y=>y=r.2.map gs) ?_ λ y hy=>Jkl ⟨r.2,hb,hy⟩;refine Tot.upto (body:=λ n (x:(List An)×Int)=>FP n r x.1 x.2) r.2.length (λ i x=>x.2=(i:Int)/\x.1=(r.2.take i).map gs) ?_ ?_ _ ⟨rfl,rfl⟩
 ·rintro i ⟨x,_⟩ hi ⟨rfl,hx⟩;simp only at hx;subst hx;unfold FP;refine Tot.iteT (GZ hi) (Tot.bindC (Cl hi) (Tot.bindC (GO (by simp;omega)) (Jkl ⟨Ef (by omega),?_⟩)));show _=_;rw[List.take_add_one,JkO hi,List.map_append];rfl
 ·rintro⟨x,_⟩ ⟨rfl,hx⟩;simp only at hx;subst hx;unfold FP;exact Tot.iteF (Ki _) (Jkl (by show _=_;rw[List.take_length]))
theorem LE {t:Ab} (ht:TbK t) {fl:List Ay} (hf:fl.length<=100000) {B:Int} (h0:0<=B) (h1:B<=100000):Tot (λ n=>BD n t fl B) (λ r=>∃ l,Bst (Rdg t 0 fl) B 17 l/\r=if l.length>16 then([],2)else(l.map gs,0)):=by
 unfold BD;refine Tot.iteF (by simp;omega) (Tot.bind (XA ht hf h0 h1 (M:=17) (by omega) (by omega)) ?_);rintro _ ⟨l,hl,rfl⟩;refine Tot.ite (λ h=>Jkl ⟨l,hl,?_⟩) λ h=>Jkl ⟨l,hl,?_⟩
 ·rw[if_pos (by simp at h;omega)]
 ·rw[if_neg (by simp at h;omega)]
theorem QF {t:Ab} (ht:TbK t) {fl:List Ay} (hf:fl.length<=100000) {B:Int} (h0:0<=B) (h1:B<=100000):Tot (λ n=>D6 n t fl B) (λ r=>(r=(⟨[],[],0⟩,false)/\Bst (Rdg t 0 fl) B 1 [])\/∃ x,r=(gs x,true)/\Bst (Rdg t 0 fl) B 1 [x]):=by
 unfold D6;refine Tot.iteF (by simp;omega) (Tot.bind (XA ht hf h0 h1 (M:=1) (by omega) (by omega)) ?_);rintro _ ⟨l,hl,rfl⟩;have:=hl.len
 match l,hl,this with
 | [],hl,_=>exact Tot.iteT rfl (Jkl (.inl ⟨rfl,hl⟩))
 | [x],hl,_=>exact Tot.iteF (by simp) (Tot.bindC rfl (Jkl (.inr ⟨x,rfl,hl⟩)))
 | _::_::_,_,h=>simp at h
theorem Oc (n:Nat) (t:Ab) (fl:List Ay) {B:Int} (h:B<0):BD n t fl B=some ([],1):=by
 unfold BD;rw[if_pos (by simpa using h)]
theorem Za (n:Nat) (t:Ab) (fl:List Ay) {B:Int} (h:B<0):D6 n t fl B=some (⟨[],[],0⟩,false):=by
 unfold D6;rw[if_pos (by simpa using h)]
def ofI (l:List Int):List UInt8:=l.map λ c=>UInt8.ofNat c.toNat
theorem Vq {l:List Int} (h:∀ c∈l,0<=c/\c<256):A5 (ofI l)=l:=by
 unfold ofI A5;rw[List.map_map]
 conv=>rhs;rw[← List.map_id l]
 exact JkM λ c hc=>by
  have:=h c hc;have h2:c.toNat<256:=by omega
  simp only[Function.comp,UInt8.toNat_ofNat',id];omega
theorem Vr (a b:List UInt8):A5 (a++b)=A5 a++A5 b:=by unfold A5;simp
theorem EJ (a:List UInt8):(A5 a).length=a.length:=by unfold A5;simp
theorem WI {t:Ab} (ht:TbK t) {k:Nat} (hk:k<t.Rules.length):A5 (clb t k)=cls t k:=
 Vq λ c hc=>by have:=(E3 ht hk).2.2.2 c hc;omega
end Go.AI
end
section
namespace Go.AI
def GS (x:Int) (k:Nat):Bool:=Cg .u8 (Yl .u8 x (k:Int)) 1==1
def Jt (f:Nat->Bool):Nat->Int
 | 0=>0
 | k+1=>Jt f k+if f k=true then 1 else 0
theorem Vs (f:Nat->Bool):∀ k:Nat,0<=Jt f k/\Jt f k<=(k:Int)
 | 0=>by simp[Jt]
 | k+1=>by
  have:=Vs f k;unfold Jt;split<;>omega
theorem QG {f g:Nat->Bool}:∀ {k:Nat},(∀ i,i<k->f i=g i)->Jt f k=Jt g k
 | 0,_=>rfl
 | k+1,h=>by
  unfold Jt;rw[QG λ i hi=>h i (by omega),h k (by omega)]
def R5 (p:Nat->Bool):Bool:=(List.range 64).all p
theorem Km {p:Nat->Bool} (h:R5 p=true) {x:Int} (h0:0<=x) (h1:x<64):p x.toNat=true:=Jky.1 h _ (List.mem_range.2 (by omega))
theorem XB {p:Nat->Bool} (h:(List.range 6).all p=true) {k:Nat} (hk:k<6):p k=true:=Jky.1 h _ (List.mem_range.2 hk)
def U6 (x:Int):Prop:=0<=x/\x<64
theorem JcK:R5 (λ v=>CQ 0 (v:Int)==some (Jt (GS (v:Int)) 6))=true:=by kernel_rfl
theorem Jen:R5 (λ a=>R5 λ b=>decide (0<=Uo .u8 (a:Int) (b:Int))&&decide (Uo .u8 (a:Int) (b:Int)<64)&&(List.range 6).all λ k=>GS (Uo .u8 (a:Int) (b:Int)) k==(GS a k != GS b k))=true:=by kernel_rfl
theorem Jeo:R5 (λ a=>R5 λ b=>decide (0<=G7 .u8 (a:Int) (b:Int))&&decide (G7 .u8 (a:Int) (b:Int)<64)&&(List.range 6).all λ k=>GS (G7 .u8 (a:Int) (b:Int)) k==(GS a k&&!GS b k))=true:=by kernel_rfl
theorem JhS {a b:Int} (ha:U6 a) (hb:U6 b):U6 (Uo .u8 a b)/\∀ k,k<6->GS (Uo .u8 a b) k=(GS a k != GS b k):=by
 have:=Km (Km Jen ha.1 ha.2) hb.1 hb.2;rw[Int.toNat_of_nonneg ha.1,Int.toNat_of_nonneg hb.1]at this;simp only[JkP,decide_eq_true_eq]at this;exact⟨this.1,λ k hk=>by have:=XB this.2 hk;simpa using this⟩
theorem JhT {a b:Int} (ha:U6 a) (hb:U6 b):U6 (G7 .u8 a b)/\∀ k,k<6->GS (G7 .u8 a b) k=(GS a k&&!GS b k):=by
 have:=Km (Km Jeo ha.1 ha.2) hb.1 hb.2;rw[Int.toNat_of_nonneg ha.1,Int.toNat_of_nonneg hb.1]at this;simp only[JkP,decide_eq_true_eq]at this;exact⟨this.1,λ k hk=>by have:=XB this.2 hk;simpa using this⟩
def Lh (f:Ay):Prop:=U6 f.Up/\U6 f.Maybe
def LF (f:Ay) (c:Int) (k:Nat):Bool:=!GS f.Maybe k&&(GS f.Up k != GS c k)
theorem Zb {f:Ay} (hf:Lh f) {c:Int} (hc:U6 c):Jg f c=Jt (LF f c) 6:=by
 obtain⟨h1,h2⟩:=JhS hf.1 hc;obtain⟨h3,h4⟩:=JhT h1 hf.2;have h5:=Km JcK h3.1 h3.2;rw[Int.toNat_of_nonneg h3.1]at h5;have h5:=eq_of_beq h5;unfold Jg GB;rw[h5];show Jt _ 6=_;refine QG λ i hi=>?_;rw[h4 i hi,h2 i hi];unfold LF;cases GS f.Maybe i<;>simp
theorem Tu (n:Nat) (x:Int) (k:Nat) (hk:k<100):Hg n x ((k+1:Nat):Int)=some (GS x k):=by
 unfold Hg GS;have e:FZ .i64 ((k+1:Nat):Int) 1=(k:Int):=by rw[RU (by omega) (by omega)];omega
 rw[e,CZ (by simp)];rfl
theorem JcL {f:Ay} (hf:Lh f) {c:Int} (hc:U6 c):Ev (λ n=>HX n f c) (Jg f c):=by
 rw[Zb hf hc];refine Tot.ev ?_;unfold HX;refine Tot.bind (R:=λ y=>y=Jt (LF f c) 6) ?_ λ y hy=>Jkl hy;refine Tot.upto (body:=λ n (x:Int×Int)=>DH n f c x.1 x.2) 6 (λ i x=>x.2=((i+1:Nat):Int)/\x.1=Jt (LF f c) i) ?_ ?_ _ ⟨rfl,rfl⟩
 ·rintro i ⟨x,_⟩ hi ⟨rfl,hx⟩;simp only at hx;subst hx;have hr:=Vs (LF f c) i;unfold DH EB;refine Tot.iteT (by simp;omega) (Jkn (λ n=>Tu n _ i (by omega)) ?_);refine Tot.guard (R:=λ r=>r=GS f.Up i) (λ _=>Tot.all (λ n=>Tu n _ i (by omega)) rfl) λ r1 h1=>?_;refine Tot.guard (R:=λ r=>r=GS c i) (λ _=>Tot.all (λ n=>Tu n _ i (by omega)) rfl) λ r2 h2=>?_;have hb:(!GS f.Maybe i&&!(r1==r2))=LF f c i:=by
   unfold LF;cases e:GS f.Maybe i with
   | true=>rfl
   | false=>rw[h1 (by rw[e];rfl),h2 (by rw[e];rfl)];rfl
  rw[hb];refine Tot.ite (λ h=>Jkl ⟨BX (by omega),?_⟩) λ h=>Jkl ⟨BX (by omega),?_⟩
  ·show AZ .i64 _ 1=Jt _ (i+1);rw[Jf (by omega) (by omega),Jt,if_pos h]
  ·show Jt _ i=Jt _ (i+1);rw[Jt,if_neg (by rw[h];simp)];omega
 ·rintro⟨x,_⟩ ⟨rfl,hx⟩;unfold DH;exact Tot.iteF (by simp) (Jkl hx)
theorem Jep {l:List (Da Int)} (hl:∀ x∈l,U8 x.a0/\U8 x.a1):Tot (λ n=>Mo n l) (λ r=>r.length<=5/\∀ f∈r,Lh f):=by
 unfold Mo;refine Tot.bind (R:=λ r=>r.length<=5/\∀ f∈r,Lh f) ?_ λ y hy=>Jkl hy;refine Tot.upto (body:=λ n (x:(List Ay)×Int)=>FR n l x.1 x.2) (min l.length 5) (λ i x=>x.2=(i:Int)/\x.1.length=i/\∀ f∈x.1,Lh f) ?_ ?_ _ ⟨rfl,rfl,by simp⟩
 ·rintro i ⟨x,_⟩ hi ⟨rfl,h1,h2⟩;simp only at h1 h2;unfold FR;have hil:i<l.length:=by omega
  obtain⟨u1,u2⟩:=hl _ (JkA hil);refine Tot.iteT (by simp;omega) (Tot.bindC (Cl hil) (Tot.bindC (Cl hil) (Tot.bindC (GO (by simp;omega)) (Jkl ⟨BX (by omega),by simp[h1],λ f hf=>?_⟩))));rcases List.mem_append.1 hf with hf|hf
  ·exact h2 f hf
  ·simp only[List.mem_singleton]at hf;subst hf;exact⟨De u1.1 (by omega),De u2.1 (by omega)⟩
 ·rintro⟨x,_⟩ ⟨rfl,h1,h2⟩;simp only at h1 h2;unfold FR;exact Tot.iteF (by simp;omega) (Jkl ⟨by show x.length<=5;omega,h2⟩)
end Go.AI
end
section
namespace Go.AI
def rds (t:Ab):Nat->Af->List Ay->Int->List Ag
 | 0,s,fl,_=>if fl.isEmpty&&Bk t s then [⟨0,[],[]⟩]else []
 | n+1,s,fl,B=>(if fl.isEmpty&&Bk t s then [⟨0,[],[]⟩]else [])++(List.range t.Rules.length).flatMap λ (k:Nat)=>
   if(Bv t s (k:Int)).2&&decide ((clb t k).length<=fl.length)&&decide (BJ fl (clb t k)<=B)then
    (rds t n (Bv t s (k:Int)).1 (fl.drop (clb t k).length) (B-BJ fl (clb t k))).map λ r=>⟨BJ fl (clb t k)+r.Cost,prt t k++r.Text,clb t k++r.Cells⟩
   else []
theorem ON {t:Ab} (ht:TbK t):∀ (n:Nat) {i:Nat} {s:Af} {fl:List Ay} {B:Int} {r:Ag},(AH t)[i]?=some s->fl.length<=n->0<=B->(r∈rds t n s fl B↔Rdg t i fl r/\r.Cost<=B)
 | 0,i,s,fl,B,r,hi,hn,hB=>by
  have:fl=[]:=List.eq_nil_of_length_eq_zero (by omega);subst this;unfold rds;constructor
  ·intro h;split at h
   ·rename_i e;simp only[List.mem_singleton]at h;subst h;exact⟨.nil i s hi (by simpa using e),hB⟩
   ·simp at h
  ·rintro⟨h,_⟩;generalize hf:([]:List Ay)=fl at h;cases h with
   | nil _ q h ha=>rw[hi]at h;cases h;rw[if_pos (by simpa using ha)];simp
   | arc _ k j _ r hE hl hr=>
    have:=(E3 ht hE.choose_spec.choose_spec.2.1).1;rw[← D3]at this;subst hf;simp at hl;rw[hl]at this;simp at this
 | n+1,i,s,fl,B,r,hi,hn,hB=>by
  obtain⟨hF,hD⟩:=DQ ht.tab;unfold rds;rw[List.mem_append,List.mem_flatMap];constructor
  ·rintro (h|⟨k,hk,h⟩)
   ·split at h
    ·rename_i e;simp only[List.mem_singleton]at h;subst h;simp only[JkP]at e;have:fl=[]:=by simpa using e.1
     subst this;exact⟨.nil i s hi e.2,hB⟩
    ·simp at h
   ·split at h
    ·rename_i e;simp only[JkP,decide_eq_true_eq]at e;obtain⟨⟨e1,e2⟩,e3⟩:=e;obtain⟨r',hr',rfl⟩:=JkG.1 h;have hk:=List.mem_range.1 hk;have hm:=hD (i+1) i s (by omega) hi k hk e1;obtain⟨j,hj,hje⟩:=List.mem_iff_getElem.1 hm;have hjg:(AH t)[j]?=some (Bv t s (k:Int)).1:=by rw[JkO hj,hje]
     have h1:=(E3 ht hk).1;rw[← D3]at h1;obtain⟨h2,h3⟩:=(ON ht n hjg (by rw[List.length_drop];omega) (by omega)).1 hr';exact⟨.arc i k j fl r' ⟨s,_,hi,hk,hjg,by rw[← e1]⟩ e2 h2,by show _+_<=B;omega⟩
    ·simp at h
  ·rintro⟨h,hb⟩;cases h with
   | nil _ q h ha=>rw[hi]at h;cases h;exact .inl (by rw[if_pos (by simpa using ha)];simp)
   | arc _ k j _ r' hE hl hr=>
    right;obtain⟨s0,s1,e1,hk,e3,e4⟩:=hE;rw[hi]at e1;cases e1;have h1:=(E3 ht hk).1;rw[← D3]at h1;have h0:=(hr.len ht).2.2;simp only at hb;refine⟨k,List.mem_range.2 hk,?_⟩;rw[if_pos (by rw[e4];simp;omega),e4];exact JkG.2 ⟨r',(ON ht n e3 (by rw[List.length_drop];omega) (by omega)).2 ⟨hr,by omega⟩,rfl⟩
def Zc (r s:Ag):Bool:=decide (r.Cost<s.Cost)||(decide (r.Cost=s.Cost)&&Op.bytesLess r.Text s.Text)
def JhU (r s:Ag):Bool:=decide (r.Cost<s.Cost)||(decide (r.Cost=s.Cost)&&!Op.bytesLess s.Cells r.Cells)
theorem MN (r s:Ag):Zc r s=true↔klr r s:=by unfold Zc klr ltB;simp
theorem JcM (r s:Ag):JhU r s=true↔le2 r s:=by unfold JhU le2 ltB;simp
def eqR (r s:Ag):Bool:=decide (r.Cost=s.Cost)&&r.Text==s.Text&&r.Cells==s.Cells
theorem XC (r s:Ag):eqR r s=true↔r=s:=by
 unfold eqR;cases r;cases s;simp[and_assoc]
def Jeq:List Ag->Bool
 | []=>true
 | a::l=>l.all (Zc a)&&Jeq l
theorem XD:∀ {l:List Ag},Jeq l=true->l.Pairwise klr
 | [],_=>.nil
 | a::l,h=>by
  unfold Jeq at h;simp only[JkP,Jky]at h;exact .cons (λ b hb=>(MN a b).1 (h.1 b hb)) (XD h.2)
def QH (E:List Ag) (M:Nat) (l:List Ag):Bool:=
 l.all (λ r=>E.any (eqR r))&&Jeq l&&l.all (λ r=>l.all λ s=>!(r.Text==s.Text)||eqR r s) &&
 E.all (λ r=>l.any (λ s=>s.Text==r.Text&&JhU s r)||(decide (l.length=M)&&l.all λ s=>Zc s r))&&decide (l.length<=M)
theorem Tv {t:Ab} (ht:TbK t) {fl:List Ay} {B:Int} (hB:0<=B) {M:Nat} {l:List Ag} (h:QH (rds t fl.length Cb fl B) M l=true):Bst (Rdg t 0 fl) B M l:=by
 have h0:=(DQ ht.tab).1.first;have hm:∀ r,r∈rds t fl.length Cb fl B↔Rdg t 0 fl r/\r.Cost<=B:=λ r=>ON ht _ h0 (JkD _) hB;unfold QH at h;simp only[JkP,Jky,decide_eq_true_eq]at h;obtain⟨⟨⟨⟨h1,h2⟩,h3⟩,h4⟩,h5⟩:=h;refine⟨λ r hr=>?_,XD h2,λ r hr s hs e=>?_,λ r hr hb=>?_,h5⟩
 ·obtain⟨x,hx,e⟩:=List.any_eq_true.1 (h1 r hr);rw[(XC _ _).1 e];exact(hm x).1 hx
 ·have:=h3 r hr s hs;rw[e]at this;exact(XC _ _).1 (by simpa using this)
 ·have:=h4 r ((hm r).2 ⟨hr,hb⟩);simp only[Jk7,JkP,decide_eq_true_eq,List.any_eq_true,Jky]at this;rcases this with⟨s,hs,e1,e2⟩|⟨e1,e2⟩
  ·exact .inl ⟨s,hs,by simpa using e1,(JcM _ _).1 e2⟩
  ·exact .inr ⟨e1,λ s hs=>(MN _ _).1 (e2 s hs)⟩
end Go.AI
end
section
namespace Go.AI
theorem QI (a b:An) (ha:a.Cells.length<9223372036854775807):Ev (λ n=>HT n a b) (decide (a=b)):=by
 refine Tot.ev ?_;unfold HT;refine Tot.guard (R:=λ r=>r=decide (a.Cells=b.Cells)) (λ _=>(MD a.Cells b.Cells ha).tot rfl) λ r hr=>Jkl ?_;cases a with
 | mk t1 c1 k1=>cases b with
  | mk t2 c2 k2=>
   simp only[An.mk.injEq]at hr⊢;cases h:(t1==t2)&&(k1==k2)with
   | false=>
    simp only[Bool.false_and];symm;rw[decide_eq_false_iff_not];rintro⟨rfl,rfl,rfl⟩;simp at h
   | true=>
    rw[hr h];simp only[JkP,beq_iff_eq]at h;obtain⟨rfl,rfl⟩:=h;simp
theorem Ho (a b:List An) (ha:∀ g∈a,g.Cells.length<9223372036854775807) (hl:a.length<=1000000000):Ev (λ n=>C3 n a b) (decide (a=b)):=by
 refine Tot.ev ?_;unfold C3;refine Tot.ite (λ h=>Jkl ?_) λ h=>?_
 ·symm;rw[decide_eq_false_iff_not];rintro rfl;simp at h
 have hlen:a.length=b.length:=by simp at h;omega
 refine Tot.bind (R:=λ y=>(y=.inl ()/\a=b)\/(y=.inr false/\a≠b)) ?_ ?_
 ·refine Tot.upto (body:=λ n x=>DD n a b x) a.length (λ i x=>x=(i:Int)/\a.take i=b.take i) ?_ ?_ _ ⟨rfl,rfl⟩
  ·rintro i x hi ⟨rfl,hx⟩;unfold DD;have hb:i<b.length:=by omega
   refine Tot.iteT (GZ hi) (Tot.bindC (Cl hi) (Tot.bindC (Cl hb) (Jkm (QI _ _ (ha _ (JkA hi))) (Tot.ite (λ h=>?_) λ h=>?_))))
   ·refine Jkl (.inr ⟨rfl,λ e=>?_⟩);subst e;simp at h
   ·refine Jkl ⟨BX (by omega),?_⟩;have:a[i]=b[i]:=by simpa using h
    rw[List.take_add_one,List.take_add_one,hx,JkO hi,JkO hb,this]
  ·rintro x ⟨rfl,hx⟩;unfold DD;refine Tot.iteF (Ki _) (Jkl (.inl ⟨rfl,?_⟩));rw[List.take_length,hlen,List.take_length]at hx;exact hx
 ·rintro y (⟨rfl,h⟩|⟨rfl,h⟩)
  ·exact Jkl (by simp[h])
  ·exact Jkl (by simp[h])
theorem MO {t:Ab} (ht:TbK t) {fl:List Ay} (hf:fl.length<=100000) {B:Int} (h0:0<=B) (h1:B<=100000) (l:List Ag) (h:QH (rds t fl.length Cb fl B) 17 l=true) (hl:l.length<=16):Ev (λ n=>BD n t fl B) (l.map gs,0):=by
 refine Tot.ev ((LE ht hf h0 h1).mono ?_);rintro _ ⟨l',hb,rfl⟩;rw[hb.uniq (Tv ht h0 h),if_neg (by omega)]
theorem JcN {t:Ab} (ht:TbK t) {fl:List Ay} (hf:fl.length<=100000) {B:Int} (h0:0<=B) (h1:B<=100000) (hn:((rds t fl.length Cb fl B).map (·.Text)).Nodup) (hl:17<=(rds t fl.length Cb fl B).length):Ev (λ n=>BD n t fl B) ([],2):=by
 refine Tot.ev ((LE ht hf h0 h1).mono ?_);rintro _ ⟨l,hb,rfl⟩;rw[if_pos];rcases JkE 16 l.length with h|h
 ·exact h
 ·exfalso;have h00:=(DQ ht.tab).1.first;have:=Gp (m:=l.map (·.Text)) hn λ x hx=>by
   obtain⟨r,hr,rfl⟩:=JkG.1 hx;obtain⟨h2,h3⟩:=(ON ht _ h00 (JkD _) h0).1 hr;obtain⟨s,hs,e,_⟩:=hb.has (by omega) h2 h3;exact JkG.2 ⟨s,hs,e⟩
  simp only[JkJ]at this;omega
theorem JcO {t:Ab} (ht:TbK t) {fl:List Ay} (hf:fl.length<=100000) {B:Int} (h0:0<=B) (h1:B<=100000) (x:Ag) (h:QH (rds t fl.length Cb fl B) 1 [x]=true):Ev (λ n=>D6 n t fl B) (gs x,true):=by
 refine Tot.ev ((QF ht hf h0 h1).mono ?_);have hx:=Tv ht h0 h;rintro _ (⟨rfl,hb⟩|⟨y,rfl,hb⟩)
 ·cases hb.uniq hx
 ·have:=hb.uniq hx;cases this;rfl
theorem Zd {t:Ab} (ht:TbK t) {fl:List Ay} (hf:fl.length<=100000) {B:Int} (h0:0<=B) (h1:B<=100000) (h:QH (rds t fl.length Cb fl B) 1 []=true):Ev (λ n=>D6 n t fl B) (⟨[],[],0⟩,false):=by
 refine Tot.ev ((QF ht hf h0 h1).mono ?_);have hx:=Tv ht h0 h;rintro _ (⟨rfl,hb⟩|⟨y,rfl,hb⟩)
 ·rfl
 ·cases hb.uniq hx
theorem tb0:TbK (Fa 0):=by
 have h:=Xm (r:=0) (by omega) (by omega);unfold OJ at h;simp only[JkP,decide_eq_true_eq,Jky]at h;obtain⟨⟨⟨⟨h1,h2⟩,h3⟩,h4⟩,h5⟩:=h;exact⟨⟨by omega,λ r hr=>Qp (h2 r hr)⟩,h5,Vh (by omega) (by omega)⟩
def ndT:List (List UInt8)->Bool
 | []=>true
 | a::l=>l.all (λ b=>!(a==b))&&ndT l
theorem JcP:∀ {l:List (List UInt8)},ndT l=true->l.Nodup
 | [],_=>List.nodup_nil
 | a::l,h=>by
  unfold ndT at h;simp only[JkP,Jky]at h;exact List.nodup_cons.2 ⟨λ hm=>by have:=h.1 a hm;simp at this,JcP h.2⟩
def fl5:List Ay:=List.replicate 5 ⟨1,2⟩
theorem Jer:ndT ((rds (Fa 0) fl5.length Cb fl5 0).map (·.Text))=true:=by kernel_rfl
def Jjt (l:List Ag):Bool:=Nat.ble 17 l.length
theorem Jes {l:List Ag} (h:Jjt l=true):17<=l.length:=Jk3 h
theorem Jet:Jjt (rds (Fa 0) fl5.length Cb fl5 0)=true:=by kernel_rfl
theorem ex1:QH (rds (Fa 0) 1 Cb [⟨3,0⟩] 0) 17 [⟨0,[98],[3]⟩]=true:=by kernel_rfl
theorem ex2:QH (rds (Fa 0) 1 Cb [⟨3,0⟩] 1) 17 [⟨0,[98],[3]⟩,⟨1,[97],[1]⟩]=true:=by kernel_rfl
theorem ex3:QH (rds (Fa 0) 1 Cb [⟨1,10⟩] 0) 17 [⟨0,[97],[1]⟩,⟨0,[98],[3]⟩,⟨0,[99],[9]⟩]=true:=by kernel_rfl
theorem ex4:QH (rds (Fa 0) fl5.length Cb fl5 0) 1 [⟨0,[97,97,97,97,97],[1,1,1,1,1]⟩]=true:=by kernel_rfl
theorem ex5:QH (rds (Fa 0) 1 Cb [⟨62,0⟩] 0) 1 []=true:=by kernel_rfl
theorem ex6:QH (rds (Fa 0) 0 Cb [] 3) 17 [⟨0,[],[]⟩]=true:=by kernel_rfl
theorem WJ:Ev (λ n=>IG n) true:=by
 refine Tot.ev ?_;have e0:Bo 0 8=0:=by decide
 have hb:∀ n,FN n 0=some (Fa 0):=λ n=>by
  have:=(MF n 0 (by omega)).1;rw[e0]at this;exact this
 unfold IG;refine Jkn hb (Tot.bind (R:=λ y=>y=fl5) ?_ ?_)
 ·refine Tot.upto (body:=λ n (x:(List Ay)×Int)=>D8 n (Fa 0) x.1 x.2) 5 (λ i x=>x.2=(i:Int)/\x.1=List.replicate i ⟨1,2⟩) ?_ ?_ _ ⟨rfl,rfl⟩
  ·rintro i ⟨x,_⟩ hi ⟨rfl,hx⟩;simp only at hx;subst hx;unfold D8;refine Tot.iteT (by simp;omega) (Tot.bindC (GO (by simp;omega)) (Jkl ⟨BX (by omega),?_⟩));show _=_;rw[List.replicate_succ']
  ·rintro⟨x,_⟩ ⟨rfl,hx⟩;unfold D8;exact Tot.iteF (by simp) (Jkl hx)
 ·rintro _ rfl;refine Jkm (MO tb0 (by simp) (by omega) (by omega) _ ex1 (by simp)) ?_;refine Jkm (MO tb0 (by simp) (by omega) (by omega) _ ex2 (by simp)) ?_;refine Jkm (MO tb0 (by simp) (by omega) (by omega) _ ex3 (by simp)) ?_;refine Jkm (JcN tb0 (by simp[fl5]) (by omega) (by omega) (JcP Jer) (Jes Jet)) ?_;refine Jkn (λ n=>Oc n _ _ (by omega)) ?_;refine Jkm (JcO tb0 (by simp[fl5]) (by omega) (by omega) _ ex4) ?_;refine Jkm (Zd tb0 (by simp) (by omega) (by omega) ex5) ?_;refine Jkm (MO tb0 (by simp) (by omega) (by omega) _ ex6 (by simp)) ?_;refine Jko rfl (Ho _ _ (by simp[gs,A5]) (by simp)) ?_;refine Jko (by decide) (Ho _ _ (by simp[gs,A5]) (by simp)) ?_;refine Jko (by decide) (Ho _ _ (by simp[gs,A5]) (by simp)) ?_;exact Jkl (by decide)
end Go.AI
end
section
namespace Go.AI
theorem JeV {l:List Ag} {i:Nat} (h:i<l.length):idx (l.map gs) (i:Int)=some (gs l[i]):=CY (by rw[JkS,JkO h];rfl)
end Go.AI
end
section
namespace Go.AI
theorem I1 {n:Int} (h:okI .u8 n):U8 n:=by
 unfold okI Lit.wf at h;have:IntKind.u8.min=0/\IntKind.u8.max=255:=by decide
 unfold U8;simp only[JkP,decide_eq_true_eq]at h;omega
theorem Re {r:CI} (h:IT r):Xn r:=by
 obtain⟨a,b,c,d,e,f⟩:=h;exact⟨λ y hy=>I1 (a y hy),λ y hy=>I1 (b y hy),I1 c,I1 d,I1 e,I1 f⟩
theorem Ze {x:Ji} (h:Wu x):MG x:=⟨(I1 h.1).1,λ r hr=>Re (h.2.2 r hr)⟩
theorem Jeu {l:List (Da Int)} (h:∀ a∈l,(okI .u8 a.a0/\okI .u8 a.a1)):∀ y∈l,U8 y.a0/\U8 y.a1:=λ y hy=>⟨I1 (h y hy).1,I1 (h y hy).2⟩
end Go.AI
end
section
namespace Go.AI
structure Hld (S:Ag->Prop) (l:List Ag):Prop where
 snd:∀ r∈l,S r
 cov:∀ r,S r->∃ s∈l,s.Text=r.Text/\le2 s r
 dst:(l.map (·.Text)).Nodup
theorem Hld.congr {S S':Ag->Prop} {l:List Ag} (h:Hld S l) (e:∀ r,S r↔S' r):Hld S' l:=
 ⟨λ r hr=>(e r).1 (h.snd r hr),λ r hr=>h.cov r ((e r).2 hr),h.dst⟩
theorem Hld.one {S:Ag->Prop} {l:List Ag} (h:Hld S l) {r s:Ag} (hr:r∈l) (hs:s∈l) (e:r.Text=s.Text):r=s:=by
 have hd:=h.dst;obtain⟨i,hi,rfl⟩:=List.mem_iff_getElem.1 hr;obtain⟨j,hj,rfl⟩:=List.mem_iff_getElem.1 hs;rw[List.Nodup,List.pairwise_map,List.pairwise_iff_getElem]at hd;rcases Nat.lt_trichotomy i j with h|h|h
 ·exact absurd e (hd i j hi hj h)
 ·subst h;rfl
 ·exact absurd e.symm (hd j i hj hi h)
theorem Hld.add {S:Ag->Prop} {l:List Ag} (h:Hld S l) {r:Ag} (hr:∀ s∈l,s.Text≠r.Text):Hld (λ x=>S x\/x=r) (l++[r]):=by
 refine⟨λ s hs=>?_,λ x hx=>?_,?_⟩
 ·rcases List.mem_append.1 hs with hs|hs
  ·exact .inl (h.snd s hs)
  ·exact .inr (List.mem_singleton.1 hs)
 ·rcases hx with hx|rfl
  ·obtain⟨s,hs,h1⟩:=h.cov x hx;exact⟨s,List.mem_append_left _ hs,h1⟩
  ·exact⟨x,by simp,rfl,ML _⟩
 ·rw[List.map_append,List.nodup_append];refine⟨h.dst,by simp,λ a ha b hb=>?_⟩;obtain⟨s,hs,rfl⟩:=JkG.1 ha;simp only[JkK,List.map_nil,List.mem_singleton]at hb;subst hb;exact hr s hs
theorem Hld.keep {S:Ag->Prop} {l:List Ag} (h:Hld S l) {q r:Ag} (hq:q∈l) (ht:q.Text=r.Text) (hle:le2 q r):Hld (λ x=>S x\/x=r) l:=
 ⟨λ s hs=>.inl (h.snd s hs),λ x hx=>by
  rcases hx with hx|rfl
  ·exact h.cov x hx
  ·exact⟨q,hq,ht,hle⟩,h.dst⟩
theorem Hld.set {S:Ag->Prop} {l:List Ag} (h:Hld S l) {r:Ag} {i:Nat} (hi:i<l.length) (ht:l[i].Text=r.Text) (hle:le2 r l[i]):Hld (λ x=>S x\/x=r) (l.set i r):=by
 refine⟨λ s hs=>?_,λ x hx=>?_,?_⟩
 ·rcases List.mem_or_eq_of_mem_set hs with hs|hs
  ·exact .inl (h.snd s hs)
  ·exact .inr hs
 ·have hmem:r∈l.set i r:=List.mem_iff_getElem.2 ⟨i,by simpa using hi,by simp⟩;rcases hx with hx|rfl
  ·obtain⟨s,hs,h1,h2⟩:=h.cov x hx;obtain⟨j,hj,rfl⟩:=List.mem_iff_getElem.1 hs;by_cases e:i=j
   ·subst e;exact⟨r,hmem,ht.symm.trans h1,Ny hle h2⟩
   ·exact⟨l[j],List.mem_iff_getElem.2 ⟨j,by simpa using hj,by rw[List.getElem_set_ne e]⟩,h1,h2⟩
  ·exact⟨x,hmem,rfl,ML _⟩
 ·rw[List.map_set];have:(l.map (·.Text)).set i r.Text=l.map (·.Text):=by
   apply List.ext_getElem?;intro j;by_cases e:i=j
   ·subst e;rw[JkZ (by simpa using hi),JkS,JkO hi];simp[ht]
   ·rw[Jk4 e]
  rw[this];exact h.dst
theorem Jev {a b:List UInt8} {i:Nat} (ha:i<a.length) (hb:i<b.length) (h:a.take i=b.take i) (hne:a[i]≠b[i]):Op.bytesLess a b=decide (a[i]<b[i]):=by
 have e1:a=a.take i++a[i]::a.drop (i+1):=by rw[← List.drop_eq_getElem_cons ha,List.take_append_drop]
 have e2:b=b.take i++b[i]::b.drop (i+1):=by rw[← List.drop_eq_getElem_cons hb,List.take_append_drop]
 have key:ltB (a.take i++a[i]::a.drop (i+1)) (a.take i++b[i]::b.drop (i+1))↔ltB (a[i]::a.drop (i+1)) (b[i]::b.drop (i+1)):=OK _;rw[← e1,h,← e2]at key;unfold ltB at key;have e3:Op.bytesLess (a[i]::a.drop (i+1)) (b[i]::b.drop (i+1))=decide (a[i]<b[i]):=by
  simp[Op.bytesLess,hne]
 rw[e3]at key;exact Bool.eq_iff_iff.2 key
theorem JcQ (a b:List UInt8) (h:a.length=b.length) (hl:a.length<=1000000):Ev (λ n=>HV n (A5 a) (A5 b)) (Op.bytesLess a b):=by
 refine Tot.ev ?_;unfold HV;have ba:=EJ a;have bb:=EJ b;have at':∀ (s:List UInt8) (i:Nat) (hi:i<s.length),idx (A5 s) (i:Int)=some ((s[i].toNat:Nat):Int):=λ s i hi=>CY (by unfold A5;rw[JkS,JkO hi];rfl);refine Tot.bind (R:=λ y=>(y=.inl ()/\a=b)\/y=.inr (Op.bytesLess a b)) ?_ ?_
 ·refine Tot.upto (body:=λ n x=>DG n (A5 a) (A5 b) x) a.length (λ i x=>x=(i:Int)/\a.take i=b.take i) ?_ ?_ _ ⟨rfl,rfl⟩
  ·rintro i x hi ⟨rfl,hx⟩;have hb:i<b.length:=by omega
   unfold DG;refine Tot.iteT (by simp;omega) (Tot.bindC (at' a i hi) (Tot.bindC (at' b i hb) (Tot.ite (λ hne=>?_) λ he=>?_)))
   ·have hne:a[i]≠b[i]:=λ e=>by rw[e]at hne;simp at hne
    refine Tot.bindC (at' a i hi) (Tot.bindC (at' b i hb) (Jkl (.inr ?_)));rw[Jev hi hb hx hne];congr 1;simp[UInt8.lt_iff_toNat_lt]
   ·have he:a[i]=b[i]:=by
     have:a[i].toNat=b[i].toNat:=by simp at he;omega
     exact UInt8.toNat_inj.1 this
    refine Jkl ⟨BX (by omega),?_⟩;rw[List.take_add_one,List.take_add_one,hx,JkO hi,JkO hb,he]
  ·rintro x ⟨rfl,hx⟩;unfold DG;refine Tot.iteF (by simp;omega) (Jkl (.inl ⟨rfl,?_⟩));rw[List.take_length,h,List.take_length]at hx;exact hx
 ·rintro y (⟨rfl,rfl⟩|rfl)
  ·refine Jkl ?_;cases e:Op.bytesLess a a with
   | false=>rfl
   | true=>exact absurd e (CK a)
  ·exact Jkl rfl
def wo (s:Aa) (l:List Ag):Aa:={ T:=s.T,L:=s.L,Budget:=s.Budget,Left:=s.Left,Out:=l.map gs }
theorem Jew {S:Ag->Prop} {l:List Ag} (h:Hld S l) {r:Ag} (hlen:∀ s∈l,s.Cells.length=r.Cells.length) (hrl:r.Cells.length<=1000000) (hl:l.length<=1000000000) {b:Aa} (hb:b.Out=l.map gs) :
  Tot (λ n=>CW n (gs r) b) (λ s=>∃ l',s=wo b l'/\Hld (λ x=>S x\/x=r) l'/\l'.length<=l.length+1):=by
 have hbo:∀ {i:Nat} (hi:i<l.length),idx b.Out (i:Int)=some (gs l[i]):=λ {i} hi=>by rw[hb];exact JeV hi
 unfold CW;refine Tot.bind (R:=λ y=>(y=.inl ()/\∀ s∈l,s.Text≠r.Text)\/∃ l',y=.inr (wo b l')/\Hld (λ x=>S x\/x=r) l'/\l'.length<=l.length+1) ?_ ?_
 ·refine Tot.upto (body:=λ n x=>BW n (gs r) b x) l.length (λ i x=>x=(i:Int)/\∀ s∈l.take i,s.Text≠r.Text) ?_ ?_ _ ⟨rfl,by simp⟩
  ·rintro i x hi ⟨rfl,hx⟩;unfold BW;refine Tot.iteT (by rw[hb];simp;omega) (Tot.bindC (hbo hi) (Tot.ite (λ ht=>?_) λ ht=>?_))
   ·have ht:l[i].Text=r.Text:=by simpa [gs]using ht
    refine Tot.bindC (hbo hi) ?_;have hkeep:le2 l[i] r->∃ l',b=wo b l'/\Hld (λ x=>S x\/x=r) l'/\l'.length<=l.length+1:=λ hle=>⟨l,by unfold wo;rw[← hb],h.keep (JkA hi) ht hle,by omega⟩;have hset:le2 r l[i]->Tot (λ _=>(idx b.Out (i:Int)).bind λ _=>(put b.Out (i:Int) (gs r)).bind λ l44=>some (.inr (.inr ({ T:=b.T,L:=b.L,Budget:=b.Budget,Left:=b.Left,Out:=l44 }:Aa)):Int⊕(Unit⊕Aa))) (Rd2 (λ x=>x=((i+1:Nat):Int)/\∀ s∈l.take (i+1),s.Text≠r.Text) (λ y=>(y=.inl ()/\∀ s∈l,s.Text≠r.Text)\/∃ l',y=.inr (wo b l')/\Hld (λ x=>S x\/x=r) l'/\l'.length<=l.length+1)):=λ hle=>by
     refine Tot.bindC (hbo hi) (Tot.bindC (by rw[hb];exact Qo (by simpa using hi)) (Jkl (.inr ⟨l.set i r,?_,h.set hi ht hle,by simp⟩)));unfold wo;rw[List.map_set]
    cases hc:decide ((gs r).Cost<(gs l[i]).Cost)with
    | true=>
     have hc':r.Cost<l[i].Cost:=of_decide_eq_true hc;exact Jkp rfl (Jkp rfl (Jkp rfl (Tot.iteT rfl (hset (.inl hc')))))
    | false=>
     have hc':¬r.Cost<l[i].Cost:=of_decide_eq_false hc;refine Jko rfl (Ev.all λ _=>hbo hi) ?_;cases he:((gs r).Cost==(gs l[i]).Cost)with
     | false=>
      have he':¬r.Cost=l[i].Cost:=by simpa [gs]using he
      refine Jkp rfl (Jkp rfl (Tot.iteF rfl (Jkl (.inr ?_))));obtain⟨l',e1,e2⟩:=hkeep (.inl (by omega));exact⟨l',by rw[← e1],e2⟩
     | true=>
      have he':r.Cost=l[i].Cost:=by simpa [gs]using he
      refine Jko rfl (Ev.all λ _=>hbo hi) (Jko rfl (JcQ r.Cells l[i].Cells (hlen _ (JkA hi)).symm hrl) ?_);cases hb2:Op.bytesLess r.Cells l[i].Cells with
      | true=>
       refine Tot.iteT rfl (hset (.inr ⟨he',λ hlt=>?_⟩));exact CK _ (Ie (show ltB r.Cells l[i].Cells from hb2) hlt)
      | false=>
       refine Tot.iteF rfl (Jkl (.inr ?_));obtain⟨l',e1,e2⟩:=hkeep (.inr ⟨he'.symm,λ hlt=>by unfold ltB at hlt;rw[hb2]at hlt;cases hlt⟩);exact⟨l',by rw[← e1],e2⟩
   ·refine Jkl ⟨BX (by omega),λ s hs=>?_⟩;rw[List.take_add_one,JkO hi]at hs;rcases List.mem_append.1 hs with hs|hs
    ·exact hx s hs
    ·have e:s=l[i]:=by simpa using hs
     subst e;simpa [gs]using ht
  ·rintro x ⟨rfl,hx⟩;unfold BW;exact Tot.iteF (by rw[hb];simp) (Jkl (.inl ⟨rfl,by simpa using hx⟩))
 ·rintro y (⟨rfl,hn⟩|⟨l',rfl,h1⟩)
  ·refine Tot.bindC (GO (by rw[hb];simp;omega)) (Jkl ⟨l++[r],?_,h.add hn,by simp⟩);unfold wo;rw[List.map_append,hb];rfl
  ·exact Jkl ⟨l',rfl,h1⟩
end Go.AI
end
section
namespace Go.AI
def Tw (a b:Ag):Ag:=⟨a.Cost+b.Cost,a.Text++b.Text,a.Cells++b.Cells⟩
def Kn (t:Ab) (fl:List Ay) (r:Ag) (k:Nat):Ag:=⟨r.Cost+BJ (fl.drop r.Cells.length) (clb t k),r.Text++prt t k,r.Cells++clb t k⟩
def MP (t:Ab) (fl:List Ay) (B:Int) (S:Ag->Prop) (r:Ag) (i:Nat):Ag->Prop:=λ x=>S x\/∃ r',Rdg t i (fl.drop r.Cells.length) r'/\r.Cost+r'.Cost<=B/\x=Tw r r'
def LG (t:Ab) (fl:List Ay) (B:Int) (S:Ag->Prop) (r:Ag) (i k:Nat):Ag->Prop:=λ x=>S x\/∃ k' j r',k'<k/\Edge t (AH t) i k' j/\r.Cells.length+(clb t k').length<=fl.length/\Rdg t j (fl.drop (Kn t fl r k').Cells.length) r'/\(Kn t fl r k').Cost+r'.Cost<=B/\x=Tw (Kn t fl r k') r'
theorem Zf {t:Ab} (ht:TbK t) {i k j j':Nat} (h:Edge t (AH t) i k j) (h':Edge t (AH t) i k j'):j=j':=by
 obtain⟨s,s1,e1,e2,e3,e4⟩:=h;obtain⟨s',s1',f1,f2,f3,f4⟩:=h';rw[e1]at f1;cases f1;rw[e4]at f4;cases f4;have hn:=(DQ ht.tab).1.nodup;have a:=Cq hn e3;rw[Cq hn f3]at a;exact(Option.some.inj a).symm
theorem LG.zero {t:Ab} {fl:List Ay} {B:Int} {S:Ag->Prop} {r:Ag} {i:Nat} (x:Ag):S x↔LG t fl B S r i 0 x:=
 ⟨.inl,λ h=>by
  rcases h with h|⟨k',_,_,h,_⟩
  ·exact h
  ·omega⟩
theorem LG.skip {t:Ab} {fl:List Ay} {B:Int} {S:Ag->Prop} {r:Ag} {i k:Nat} (h:∀ j,Edge t (AH t) i k j->¬r.Cells.length+(clb t k).length<=fl.length) (x:Ag):LG t fl B S r i k x↔LG t fl B S r i (k+1) x:=by
 constructor
 ·rintro (h1|⟨k',j,r',h1,h2⟩)
  ·exact .inl h1
  ·exact .inr ⟨k',j,r',by omega,h2⟩
 ·rintro (h1|⟨k',j,r',h1,h2,h3,h4⟩)
  ·exact .inl h1
  ·by_cases e:k'=k
   ·subst e;exact absurd h3 (h j h2)
   ·exact .inr ⟨k',j,r',by omega,h2,h3,h4⟩
theorem LG.step {t:Ab} (ht:TbK t) {fl:List Ay} {B:Int} {S:Ag->Prop} {r:Ag} {i k j:Nat} (hE:Edge t (AH t) i k j) (hl:r.Cells.length+(clb t k).length<=fl.length) (x:Ag):MP t fl B (LG t fl B S r i k) (Kn t fl r k) j x↔LG t fl B S r i (k+1) x:=by
 constructor
 ·rintro ((h1|⟨k',j,r',h1,h2⟩)|⟨r',h1,h2,h3⟩)
  ·exact .inl h1
  ·exact .inr ⟨k',j,r',by omega,h2⟩
  ·exact .inr ⟨k,j,r',by omega,hE,hl,h1,h2,h3⟩
 ·rintro (h1|⟨k',j',r',h1,h2,h3,h4,h5,h6⟩)
  ·exact .inl (.inl h1)
  ·by_cases e:k'=k
   ·subst e;rw[Zf ht h2 hE]at h4;exact .inr ⟨r',h4,h5,h6⟩
   ·exact .inl (.inr ⟨k',j',r',by omega,h2,h3,h4,h5,h6⟩)
theorem Vt (t:Ab) (fl:List Ay) (r:Ag) (k:Nat):fl.drop (Kn t fl r k).Cells.length=(fl.drop r.Cells.length).drop (clb t k).length:=by
 unfold Kn;rw[List.drop_drop,List.length_append]
theorem LG.all {t:Ab} {fl:List Ay} {B:Int} {S:Ag->Prop} {r:Ag} {i:Nat} (hl:r.Cells.length<fl.length) (x:Ag):LG t fl B S r i t.Rules.length x↔MP t fl B S r i x:=by
 constructor
 ·rintro (h1|⟨k,j,r',h1,h2,h3,h4,h5,rfl⟩)
  ·exact .inl h1
  ·rw[Vt]at h4;refine .inr ⟨_,.arc i k j _ r' h2 (by rw[List.length_drop];omega) h4,?_,?_⟩
   ·unfold Kn at h5;simp only at h5⊢;omega
   ·unfold Tw Kn;simp only[List.append_assoc,Ag.mk.injEq,and_true];omega
 ·rintro (h1|⟨r',h1,h2,rfl⟩)
  ·exact .inl h1
  ·generalize hf:fl.drop r.Cells.length=f at h1;cases h1 with
   | nil=>have:=congrArg List.length hf;simp at this;omega
   | arc _ k j _ r' hE hcl hr=>
    subst hf;rw[← Vt]at hr;rw[List.length_drop]at hcl;have hkl:k<t.Rules.length:=hE.choose_spec.choose_spec.2.1;refine .inr ⟨k,j,r',hkl,hE,by omega,hr,?_,?_⟩
    ·unfold Kn;simp only at h2⊢;omega
    ·unfold Tw Kn;simp only[List.append_assoc,Ag.mk.injEq,and_true];omega
theorem Jkr {t:Ab} (ht:TbK t) {fl:List Ay} {B:Int} {S:Ag->Prop} {r:Ag} {i:Nat} (h:B<r.Cost) (x:Ag):S x↔MP t fl B S r i x:=
 ⟨.inl,λ h'=>by
  rcases h' with h'|⟨r',h1,h2,_⟩
  ·exact h'
  ·have:=(h1.len ht).2.2;omega⟩
theorem Jks {t:Ab} {fl:List Ay} {B:Int} {S:Ag->Prop} {r:Ag} {i:Nat} {q:Af} (hi:(AH t)[i]?=some q) (ht:TbK t) (hl:r.Cells.length=fl.length) (hB:r.Cost<=B) (x:Ag):MP t fl B S r i x↔S x\/(Bk t q=true/\x=r):=by
 have hd:fl.drop r.Cells.length=[]:=by rw[hl,List.drop_length]
 have hc:Tw r ⟨0,[],[]⟩=r:=by unfold Tw;cases r;simp
 unfold MP;rw[hd];constructor
 ·rintro (h|⟨r',h1,h2,rfl⟩)
  ·exact .inl h
  ·generalize hf:([]:List Ay)=f at h1;cases h1 with
   | nil _ q' h ha=>rw[hi]at h;cases h;exact .inr ⟨ha,hc⟩
   | arc _ k j _ r' hE hcl hr=>
    have:=(E3 ht hE.choose_spec.choose_spec.2.1).1;rw[← D3]at this;subst hf;simp at hcl;rw[hcl]at this;simp at this
 ·rintro (h|⟨ha,rfl⟩)
  ·exact .inl h
  ·exact .inr ⟨⟨0,[],[]⟩,.nil i q hi ha,by simpa using hB,hc.symm⟩
structure Jju (t:Ab) (fl:List Ay) (B:Int) (m:Nat) (S:Ag->Prop) (l:List Ag) (s z:Aa) (P:Ag->Prop):Prop where
 hi:z.Left<s.Left
 lo:s.Left<=z.Left+((12 ^ m:Nat):Int)
 out:∃ l' S',z={ T:=t,L:=fl,Budget:=B,Left:=z.Left,Out:=l'.map gs }/\Hld S' l'/\(∀ x,S' x->x.Cells.length=fl.length)/\l'.length<=l.length+12 ^ m/\(0<=z.Left->∀ x,S' x↔P x)
abbrev Lk8:=An->Af->Aa->Option Aa
def XE (t:Ab) (fl:List Ay) (B:Int) (m:Nat) (f:Nat->Lk8):Prop:=∀ (r:Ag) (i:Nat) (q:Af) (L:Int) (l:List Ag) (S:Ag->Prop),(AH t)[i]?=some q->r.Cells.length+m=fl.length->r.Text.length<=4*r.Cells.length->0<=r.Cost->r.Cost<=8*(r.Cells.length:Int)->-1000000000+((12 ^ m:Nat):Int)<=L->L<=1000000000->l.length+12 ^ m<=1000000000->Hld S l->(∀ x,S x->x.Cells.length=fl.length) ->
 Tot (λ n=>f n (gs r) q { T:=t,L:=fl,Budget:=B,Left:=L,Out:=l.map gs }) λ z=>Jju t fl B m S l { T:=t,L:=fl,Budget:=B,Left:=L,Out:=l.map gs } z (MP t fl B S r i)
theorem JcR {m:Nat} (hm:m<=5):1<=12 ^ m/\12 ^ m<=248832:=⟨Nat.pow_pos (by omega),by have:12 ^ m<=12 ^ 5:=Nat.pow_le_pow_right (by omega) hm;simpa using this⟩
theorem JcS {t:Ab} (ht:TbK t) {k:Nat} (hk:k<t.Rules.length) {a:Nat} (ha:a<(clb t k).length):(cls t k)[a]?=some (((clb t k)[a].toNat:Nat):Int):=by
 rw[← WI ht hk];unfold A5;rw[JkS,JkO ha];rfl
theorem JcT {t:Ab} (ht:TbK t) {fl:List Ay} (hfl:fl.length<=5) (hfk:∀ f∈fl,Lh f) {r:Ag} {k:Nat} (hk:k<t.Rules.length) (hc0:0<=r.Cost) (hc1:r.Cost<=8*(r.Cells.length:Int)) (hfit:r.Cells.length+(clb t k).length<=fl.length) (q:Af) (y:Af×Bool) (B L:Int) (o:List An) :
  Tot (λ n=>whl (λ (x:An×Int)=>Bs n (gs r) q { T:=t,L:=fl,Budget:=B,Left:=L,Out:=o } (k:Int) (Er t (k:Int)) y x.1 x.2) n ({ Text:=r.Text++prt t k,Cells:=A5 r.Cells,Cost:=r.Cost },0)) (λ z=>z=gs (Kn t fl r k)):=by
 have hcl:=D3 t k;have hbr:=EJ r.Cells;refine Tot.upto (body:=λ n (x:An×Int)=>Bs n (gs r) q { T:=t,L:=fl,Budget:=B,Left:=L,Out:=o } (k:Int) (Er t (k:Int)) y x.1 x.2) (clb t k).length (λ a x=>x.2=(a:Int)/\x.1={ Text:=r.Text++prt t k,Cells:=A5 (r.Cells++(clb t k).take a),Cost:=r.Cost+BJ (fl.drop r.Cells.length) ((clb t k).take a) }) ?_ ?_ _ ⟨rfl,?_⟩
 ·rintro a ⟨x,_⟩ ha ⟨rfl,hx⟩;simp only at hx;subst hx;unfold Bs;have hat:idx (Er t (k:Int)).Cells (a:Int)=some (((clb t k)[a].toNat:Nat):Int):=CY (JcS ht hk ha);have hlt:r.Cells.length+a<fl.length:=by omega
  have e1:AZ .i64 ((List.length (gs r).Cells:Nat):Int) (a:Int)=((r.Cells.length+a:Nat):Int):=by
   show AZ .i64 ((List.length (A5 r.Cells):Nat):Int) (a:Int)=_;rw[hbr,Jf (by omega) (by omega)];simp
  have hU:U6 (((clb t k)[a].toNat:Nat):Int):=by
   have:=(E3 ht hk).2.2.2 _ (JkQ (JcS ht hk ha));exact⟨this.1,by omega⟩
  have h2:=EI (fl.drop r.Cells.length) ((clb t k).take a);have h3:=(QB fl[r.Cells.length+a] (((clb t k)[a].toNat:Nat):Int)).2;rw[List.length_take]at h2;refine Tot.iteT (by show decide ((a:Int)<(((cls t k).length:Nat):Int))=true;simp;omega) (Tot.bindC hat (Tot.bindC (GO (by simp[EJ];omega)) (Tot.bindC (by rw[e1];exact Cl hlt) (Tot.bindC hat (Jkm (JcL (hfk _ (JkA hlt)) hU) (Jkl ⟨BX (by omega),?_⟩))))));show _=_;have hx:AZ .i64 (r.Cost+BJ (fl.drop r.Cells.length) ((clb t k).take a)) (Jg fl[r.Cells.length+a] (((clb t k)[a].toNat:Nat):Int))=r.Cost+BJ (fl.drop r.Cells.length) ((clb t k).take a)+Jg fl[r.Cells.length+a] (((clb t k)[a].toNat:Nat):Int):=Jf (by omega) (by omega);rw[hx,List.take_add_one,JkO ha,Option.toList_some,QC _ _ _ fl[r.Cells.length+a] (by rw[List.length_take,Nat.min_eq_left (by omega),JkH];exact JkO hlt),← List.append_assoc,Vr (r.Cells++_)];simp only[An.mk.injEq,true_and];exact⟨rfl,by omega⟩
 ·rintro⟨x,_⟩ ⟨rfl,hx⟩;simp only at hx;subst hx;unfold Bs;refine Tot.iteF (by show decide ((((clb t k).length:Nat):Int)<(((cls t k).length:Nat):Int))=false;rw[hcl];simp) (Jkl ?_);show _=_;rw[List.take_length];rfl
 ·show _=_;have:BJ (fl.drop r.Cells.length) []=0:=by cases fl.drop r.Cells.length<;>rfl
  rw[List.take_zero,List.append_nil,this];simp
theorem WK {t:Ab} (ht:TbK t) {fl:List Ay} (hfl:fl.length<=5) (hfk:∀ f∈fl,Lh f) {B:Int} {m:Nat} (rec:Nat->Lk8) (hrec:∀ m',m'<m->XE t fl B m' rec):XE t fl B m (λ n=>Bb n (rec n)):=by
 intro r i q L l S hi hrm htx hc0 hc1 hL0 hL1 hll hS hSl;obtain⟨p1,p2⟩:=JcR (m:=m) (by omega);have hbr:=EJ r.Cells;have hsub:FZ .i64 L 1=L-1:=RU (by omega) (by omega);have hsh:=ht.tab.short;have hr11:=ht.tab.1;unfold Bb;simp only[hsub];refine Tot.ite (λ h=>?_) λ h=>?_
 ·refine Jkl ⟨by simp only;omega,by simp only;omega,l,S,rfl,hS,hSl,by omega,λ h0=>?_⟩;simp only at h0;have:B<r.Cost:=by
   simp only[Jk7,decide_eq_true_eq]at h;rcases h with h|h
   ·omega
   ·exact h
  exact Jkr ht this
 ·simp only[JkN,decide_eq_false_iff_not]at h;obtain⟨h1,h2⟩:=h;have h2:r.Cost<=B:=by have h2:¬r.Cost>B:=h2;omega
  refine Tot.ite (λ he=>?_) λ he=>?_
  ·have he:r.Cells.length=fl.length:=by
    have:(List.length (A5 r.Cells):Int)=(fl.length:Int):=by simpa [gs]using he
    omega
   have hend:=Jks (B:=B) (S:=S) hi ht he h2;refine Jkn (λ n=>U0 n t q) (Tot.ite (λ ha=>?_) λ ha=>?_)
   ·refine Tot.bind (Jew (r:=r) hS (λ s hs=>by rw[hSl s (hS.snd s hs),he]) (by omega) (by omega) rfl) ?_;rintro _ ⟨l',rfl,h3,h4⟩;refine Jkl ⟨by show L-1<L;omega,by show L<=L-1+_;omega,l',_,rfl,h3,?_,by omega,λ h0 x=>?_⟩
    ·rintro x (hx|rfl)
     ·exact hSl x hx
     ·exact he
    ·rw[hend];simp[ha]
   ·refine Jkl ⟨by show L-1<L;omega,by show L<=L-1+_;omega,l,S,rfl,hS,hSl,by omega,λ h0 x=>?_⟩;rw[hend];simp[ha]
  ·have hlt:r.Cells.length<fl.length:=by
    have:¬(List.length (A5 r.Cells):Int)=(fl.length:Int):=by simpa [gs]using he
    omega
   obtain⟨m1,rfl⟩:∃ m1,m=m1+1:=⟨m-1,by omega⟩;obtain⟨q1,q2⟩:=JcR (m:=m1) (by omega);have hpw:12 ^ (m1+1)=12*12 ^ m1:=Nat.pow_succ';generalize hP:12 ^ m1=P at *;have hRP:t.Rules.length*P<=11*P:=Jkx _ hr11;refine Tot.bind (R:=λ z=>Jju t fl B (m1+1) S l { T:=t,L:=fl,Budget:=B,Left:=L,Out:=l.map gs } z (MP t fl B S r i)) ?_ λ z hz=>Jkl hz;refine Tot.upto (body:=λ n (x:Aa×Int)=>BO n (rec n) (gs r) q x.1 x.2) t.Rules.length (λ k x=>x.2=(k:Int)/\∃ L' l' S',x.1={ T:=t,L:=fl,Budget:=B,Left:=L',Out:=l'.map gs }/\L'<=L-1/\L-1<=L'+((k*P:Nat):Int)/\Hld S' l'/\(∀ x,S' x->x.Cells.length=fl.length)/\l'.length<=l.length+k*P/\(0<=L'->∀ x,S' x↔LG t fl B S r i k x)) ?_ ?_ _ ⟨rfl,L-1,l,S,rfl,by omega,by omega,hS,hSl,by omega,λ _ x=>LG.zero x⟩
   ·rintro k ⟨x,_⟩ hk ⟨rfl,L',l',S',hx,g1,g2,g3,g4,g5,g6⟩;simp only at hx;subst hx;have hkP:(k+1)*P=k*P+P:=Nat.succ_mul _ _;have hkP2:(k+1)*P<=11*P:=Jkx _ (by omega);unfold BO Ca;have hrl:((List.length (Er t (k:Int)).Cells:Nat):Int)=(((clb t k).length:Nat):Int):=by rw[D3];rfl
    obtain⟨c1,c4,c3,_⟩:=E3 ht hk;rw[← D3]at c1 c4;have hadd:AZ .i64 ((List.length (gs r).Cells:Nat):Int) ((List.length (Er t (k:Int)).Cells:Nat):Int)=((r.Cells.length+(clb t k).length:Nat):Int):=by
     show AZ .i64 ((List.length (A5 r.Cells):Nat):Int) _=_;rw[hbr,hrl,Jf (by omega) (by omega)];simp
    refine Tot.iteT (by show decide ((k:Int)<((t.Rules.length:Nat):Int))=true;simp;omega) (Tot.bindC (Ve (t:=t) (k:=(k:Int)) (by omega) (by omega)) (Jkn (λ n=>Jb6 hsh n q (k:Int)) ?_));rw[hadd];refine Tot.ite (λ hn=>?_) λ hn=>?_
    ·refine Jkl ⟨BX (by omega),L',l',S',rfl,g1,by omega,g3,g4,by omega,λ h0 x=>(g6 h0 x).trans (LG.skip (λ j hE hf=>?_) x)⟩;obtain⟨s0,s1,e1,_,_,e4⟩:=hE;rw[hi]at e1;cases e1;rw[e4]at hn;simp at hn;omega
    ·simp only[JkN,decide_eq_false_iff_not]at hn;have hst:(Bv t q (k:Int)).2=true:=by simpa using hn.1
     have hfit:r.Cells.length+(clb t k).length<=fl.length:=by omega
     have hm:=(DQ ht.tab).2 (i+1) i q (by omega) hi k hk hst;obtain⟨j,hj,hje⟩:=List.mem_iff_getElem.1 hm;have hjg:(AH t)[j]?=some (Bv t q (k:Int)).1:=by rw[JkO hj,hje]
     have hE:Edge t (AH t) i k j:=⟨q,_,hi,hk,hjg,by rw[← hst]⟩;refine Tot.bindC (Tm (by show r.Text.length+(prt t k).length<=_;omega)) (Tot.bindC (GO (by show(([]:List Int).length+(A5 r.Cells).length)*1<=_;rw[hbr];simp;omega)) (Tot.bind (JcT ht hfl hfk hk hc0 hc1 hfit q (Bv t q (k:Int)) B L' (l'.map gs)) ?_));rintro _ rfl;have hel:(Kn t fl r k).Cells.length=r.Cells.length+(clb t k).length:=by unfold Kn;simp
     have hetl:(Kn t fl r k).Text.length=r.Text.length+(prt t k).length:=by unfold Kn;simp
     have hec:(Kn t fl r k).Cost=r.Cost+BJ (fl.drop r.Cells.length) (clb t k):=rfl;have hcr:=EI (fl.drop r.Cells.length) (clb t k);have hm1:m1+1-(clb t k).length<=m1:=by omega
     have hpp:12 ^ (m1+1-(clb t k).length)<=P:=by rw[← hP];exact Nat.pow_le_pow_right (by omega) hm1
     refine Tot.bind (hrec (m1+1-(clb t k).length) (by omega) (Kn t fl r k) j (Bv t q (k:Int)).1 L' l' S' hjg (by omega) (by omega) (by omega) (by omega) (by omega) (by omega) (by omega) g3 g4) ?_;rintro z ⟨z1,z2,l2,S2,z3,z4,z5,z6,z7⟩;simp only at z1 z2;generalize z.Left=Lz at z1 z2 z3 z7;subst z3;refine Jkl ⟨BX (by omega),Lz,l2,S2,rfl,by omega,by omega,z4,z5,by omega,λ h0 x=>?_⟩;rw[z7 h0 x,← LG.step ht hE hfit];unfold MP;rw[g6 (by omega) x]
   ·rintro⟨x,_⟩ ⟨rfl,L',l',S',hx,g1,g2,g3,g4,g5,g6⟩;simp only at hx;subst hx;unfold BO;refine Tot.iteF (by simp) (Jkl ⟨by show L'<L;omega,by show L<=L'+_;omega,l',S',rfl,g3,g4,by omega,λ h0 x=>?_⟩);rw[g6 h0 x,LG.all hlt]
theorem Zg {t:Ab} (ht:TbK t) {fl:List Ay} (hfl:fl.length<=5) (hfk:∀ f∈fl,Lh f) {B:Int}:∀ (d m:Nat),m<d->XE t fl B m (λ n=>V4 (λ _ _ _=>none) (Bb n) d):=by
 intro d;induction d with
 | zero=>intro m h;omega
 | succ d ih=>intro m h;exact WK ht hfl hfk (λ n=>V4 (λ _ _ _=>none) (Bb n) d) (λ m' h'=>ih m' (by omega))
theorem JcU (n:Nat):∀ (x y:Nat),x<=y->∀ a b c,Le (V4 (λ _ _ _=>none) (Bb n) x a b c) (V4 (λ _ _ _=>none) (Bb n) y a b c):=by
 intro x;induction x with
 | zero=>intro y _ _ _ _ z hz;cases hz
 | succ x ih=>
  intro y hy _ _ _;cases y with
  | zero=>omega
  | succ y=>exact Kg (JkD n) (ih y (by omega)) _ _ _
theorem JcV {t:Ab} (ht:TbK t) {fl:List Ay} (hfl:fl.length<=5) (hfk:∀ f∈fl,Lh f) {B:Int} (m:Nat):XE t fl B m (λ n=>F5 n):=by
 intro r i q L l S h1 h2 h3 h4 h5 h6 h7 h8 h9 h10;obtain⟨z,hz,N,hN⟩:=Zg ht hfl hfk (m+1) m (by omega) r i q L l S h1 h2 h3 h4 h5 h6 h7 h8 h9 h10;exact⟨z,hz,max N (m+1),λ k hk=>JcU k (m+1) k (by omega) _ _ _ _ (hN k (by omega))⟩
end Go.AI
end
section
namespace Go.AI
theorem WL (n:Nat) (a b:Ag):II n (gs a) (gs b)=some (Zc a b):=by
 unfold II Zc gs;congr 2
theorem JhV {a b:Ag} (h:¬klr b a) (ht:b.Text≠a.Text):klr a b:=by
 rcases Fr a b with h1|h1|⟨_,h1⟩
 ·exact h1
 ·exact absurd h1 h
 ·exact absurd h1.symm ht
theorem Jex {rem acc:List Ag} (hrl:rem.length+acc.length<=100000000) (hne:rem≠[]) (hd:(rem.map (·.Text)).Nodup) (s:Aa) (hs:s.Out=rem.map gs) :
  Tot (λ n=>Fl n s (acc.map gs)) (Rd2 (λ x=>∃ k rem',∃ h:k<rem.length,x.1.Out=rem'.map gs/\x.2=(acc++[rem[k]]).map gs/\rem'=rem.take k++rem.drop (k+1)/\∀ b∈rem',klr rem[k] b) (λ _=>False)):=by
 have hpos:0<rem.length:=List.length_pos_iff.2 hne;have hat:∀ {i:Nat} (hi:i<rem.length),idx s.Out (i:Int)=some (gs rem[i]):=λ {i} hi=>by rw[hs];exact JeV hi
 have hsl:s.Out.length=rem.length:=by rw[hs];simp
 unfold Fl;refine Tot.iteT (by rw[hs];simp;omega) (Tot.bind (R:=λ y=>∃ k:Nat,∃ h:k<rem.length,y=(k:Int)/\∀ b∈rem,¬klr b rem[k]) ?_ ?_)
 ·refine Tot.whl (body:=λ n (x:Int×Int)=>IK n s (acc.map gs) x.1 x.2) (λ m x=>∃ k i:Nat,∃ h:k<rem.length,x.1=(k:Int)/\x.2=(i:Int)/\m=rem.length-i/\i<=rem.length/\∀ b∈rem.take i,¬klr b rem[k]) ?_ (rem.length-1) _ ⟨0,1,hpos,rfl,rfl,rfl,by omega,λ b hb=>?_⟩
  ·rintro m ⟨_,_⟩ ⟨k,i,hk,rfl,rfl,rfl,hi,hx⟩;simp only at *;unfold IK IJ;rcases JkE i rem.length with hlt|hge
   ·have tk:∀ b,b∈rem.take (i+1)↔b∈rem.take i\/b=rem[i]:=λ b=>by rw[List.take_add_one,JkO hlt,Option.toList_some,List.mem_append,List.mem_singleton]
    refine Tot.iteT (by rw[hsl];exact GZ hlt) (Tot.bindC (hat hlt) (Tot.bindC (hat hk) (Jkn (λ n=>WL n _ _) (Tot.ite (λ h=>?_) λ h=>?_))))
    ·have h:klr rem[i] rem[k]:=(MN _ _).1 h;refine Jkl ⟨rem.length-(i+1),by omega,i,i+1,hlt,rfl,BX (by omega),rfl,by omega,λ b hb=>?_⟩;rcases (tk b).1 hb with hb|rfl
     ·exact λ hk'=>hx b hb (Fq hk' h)
     ·exact Cm _
    ·have h:¬klr rem[i] rem[k]:=λ hk'=>by rw[(MN _ _).2 hk']at h;cases h
     refine Jkl ⟨rem.length-(i+1),by omega,k,i+1,hk,rfl,BX (by omega),rfl,by omega,λ b hb=>?_⟩;rcases (tk b).1 hb with hb|rfl
     ·exact hx b hb
     ·exact h
   ·have:i=rem.length:=by omega
    subst this;exact Tot.iteF (by rw[hsl];exact Ki _) (Jkl ⟨k,hk,rfl,by simpa using hx⟩)
  ·rw[List.take_one]at hb;cases rem with
   | nil=>exact absurd rfl hne
   | cons a r=>simp at hb;subst hb;exact Cm _
 ·rintro _ ⟨k,hk,rfl,hx⟩;have e1:AZ .i64 (k:Int) 1=((k+1:Nat):Int):=BX (by omega);rw[e1];refine Tot.bindC (hat hk) (Tot.bindC (GO (by simp;omega)) (Tot.bindC (Tn (by omega)) (Tot.bindC (U4 (by omega) (by omega) (by omega)) (Tot.bindC (GO (by simp;omega)) (Jkl ⟨k,_,hk,?_,?_,rfl,λ b hb=>?_⟩)))))
  ·show s.Out.take k++_=_;rw[hs,JkX,JkX,List.take_length,List.map_append,List.map_take,List.map_drop]
  ·simp
  ·have hnd:=hd;rw[List.Nodup,List.pairwise_map,List.pairwise_iff_getElem]at hnd;have:∃ j,∃ hj:j<rem.length,j≠k/\b=rem[j]:=by
    rcases List.mem_append.1 hb with hb|hb
    ·obtain⟨j,hj,rfl⟩:=List.mem_iff_getElem.1 hb;rw[List.length_take]at hj;exact⟨j,by omega,by omega,by simp⟩
    ·obtain⟨j,hj,rfl⟩:=List.mem_iff_getElem.1 hb;rw[List.length_drop]at hj;exact⟨k+1+j,by omega,by omega,by simp⟩
   obtain⟨j,hj,hjk,rfl⟩:=this;refine JhV (hx _ (JkA hj)) ?_;rcases JkE j k with h|h
   ·exact hnd j k hj hk h
   ·exact λ e=>hnd k j hk hj (by omega) e.symm
theorem Jey {t:Ab} (ht:TbK t) {fl:List Ay} (hfl:fl.length<=5) (hfk:∀ f∈fl,Lh f) {B:Int}:Tot (λ n=>OF n t fl B) (λ r=>r=([],false)\/∃ l M,17<=M/\l.length<M/\Bst (Rdg t 0 fl) B M l/\r=(l.map gs,true)):=by
 have h0:=(DQ ht.tab).1.first;obtain⟨p1,p2⟩:=JcR hfl;unfold OF;refine Jkn (y:=Cb) (λ n=>rfl) (Tot.bind (JcV ht hfl hfk (B:=B) fl.length ⟨0,[],[]⟩ 0 Cb 20000 [] (λ _=>False) h0 (by simp) (by simp) (by simp) (by simp) (by omega) (by omega) (by simp;omega) ⟨λ r hr=>by simp at hr,λ r hr=>hr.elim,by simp⟩ (λ x hx=>hx.elim)) ?_);rintro z ⟨z1,z2,l,S,z3,z4,z5,z6,z7⟩;simp only at z1 z2;generalize z.Left=Lz at z1 z2 z3 z7;subst z3;refine Tot.ite (λ _=>Jkl (.inl rfl)) λ hL=>?_;have hL:0<=Lz:=by have hL:¬Lz<0:=of_decide_eq_false hL;omega
 have hS:=z4.congr (z7 hL);have hset:∀ x,MP t fl B (λ _=>False) ⟨0,[],[]⟩ 0 x↔Rdg t 0 fl x/\x.Cost<=B:=λ x=>by
  unfold MP;constructor
  ·rintro (h|⟨r',h1,h2,rfl⟩)
   ·exact h.elim
   ·have e:Tw ⟨0,[],[]⟩ r'=r':=by unfold Tw;cases r';simp
    rw[e];exact⟨h1,by simp only at h2;omega⟩
  ·rintro⟨h1,h2⟩;exact .inr ⟨x,h1,by simp only;omega,by unfold Tw;cases x;simp⟩
 have hS:=hS.congr hset;simp only[List.length_nil]at z6;refine Tot.bind (R:=λ y=>∃ acc:List Ag,y=acc.map gs/\acc.Pairwise klr/\∀ r,r∈acc↔r∈l) ?_ ?_
 ·refine Tot.whl (body:=λ n (x:Aa×(List An))=>Fl n x.1 x.2) (λ m x=>∃ rem acc:List Ag,x.1.Out=rem.map gs/\x.2=acc.map gs/\rem.length=m/\rem.length+acc.length=l.length/\acc.Pairwise klr/\(∀ a∈acc,∀ b∈rem,klr a b)/\(rem.map (·.Text)).Nodup/\∀ r,(r∈acc\/r∈rem)↔r∈l) ?_ l.length _ ⟨l,[],rfl,rfl,rfl,by simp,List.Pairwise.nil,λ a ha=>by simp at ha,hS.dst,λ r=>by simp⟩;rintro m ⟨s,_⟩ ⟨rem,acc,hs,rfl,rfl,hla,ha,hab,hd,hm⟩;simp only at hs;by_cases hne:rem=[]
  ·subst hne;unfold Fl;exact Tot.iteF (by rw[hs];rfl) (Jkl ⟨acc,rfl,ha,λ r=>by rw[← hm];simp⟩)
  ·refine(Jex (by omega) hne hd s hs).mono λ w hw=>?_;cases w with
   | inr w=>exact hw.elim
   | inl w=>
    obtain⟨k,rem',hk,w1,w2,w3,w4⟩:=hw;have hsub:rem'.Sublist rem:=by
     rw[w3];have:(rem.take k++rem.drop (k+1)).Sublist (rem.take k++rem.drop k):=List.Sublist.append (List.Sublist.refl _) (by rw[← List.drop_drop];exact List.drop_sublist _ _);rwa[List.take_append_drop]at this
    have hlen:rem'.length+1=rem.length:=by rw[w3];simp;omega
    have hmem:∀ r,r∈rem↔r=rem[k]\/r∈rem':=λ r=>by
     have e:rem=rem.take k++rem[k]::rem.drop (k+1):=by rw[← List.drop_eq_getElem_cons hk,List.take_append_drop]
     rw[w3]
     conv=>lhs;rw[e]
     simp only[List.mem_append,List.mem_cons];constructor
     ·rintro (h|h|h)<;>simp[h]
     ·rintro (h|h|h)<;>simp[h]
    refine⟨rem'.length,by omega,rem',acc++[rem[k]],w1,w2,rfl,by simp;omega,?_,λ a h b hb=>?_,(hsub.map (·.Text)).nodup hd,λ r=>?_⟩
    ·rw[List.pairwise_append];refine⟨ha,List.pairwise_singleton _ _,λ a h b hb=>?_⟩;rw[List.mem_singleton.1 hb];exact hab a h _ (JkA hk)
    ·rcases List.mem_append.1 h with h|h
     ·exact hab a h b (hsub.subset hb)
     ·rw[List.mem_singleton.1 h];exact w4 b hb
    ·rw[← hm,hmem,List.mem_append,List.mem_singleton,or_assoc]
 ·rintro _ ⟨acc,rfl,ha,hm⟩;refine Jkl (.inr ⟨acc,acc.length+17,by omega,by omega,⟨λ r hr=>hS.snd r ((hm r).1 hr),ha,λ r hr s hs e=>hS.one ((hm r).1 hr) ((hm s).1 hs) e,λ r hr hb=>?_,by omega⟩,rfl⟩);obtain⟨s,hs,h1⟩:=hS.cov r ⟨hr,hb⟩;exact .inl ⟨s,(hm s).2 hs,h1⟩
theorem JhW (b:Int):IntKind.i64.wrap (Bo b 7)=Bo b 7/\Bo b 7<7:=by
 have h1:b.tmod 7<7:=Int.tmod_lt_of_pos b (by omega);have h2:-7<b.tmod 7:=by
  have:=Int.tmod_lt_of_pos (-b) (by omega:(0:Int)<7);rw[Int.neg_tmod]at this;omega
 have e:Bo b 7=b.tmod 7:=rfl;rw[e];exact⟨w64 (by omega) (by omega),h1⟩
theorem JcW {x:Ji} (hx:MG x) {p:List (Da Int)} (hp:∀ y∈p,U8 y.a0/\U8 y.a1) (b:Int):Ev (λ n=>B6 n x p b) true:=by
 refine Tot.ev ?_;obtain⟨t,ht,he⟩:=Jcx hx;obtain⟨b1,b3⟩:=JhW b;unfold B6;rw[b1];generalize Bo b 7=B at b3;refine Jkm WJ (Jkm he (Tot.bind (Jep hp) ?_));rintro fl ⟨hf5,hfk⟩;by_cases hneg:B<0
 ·refine Jkn (λ n=>Oc n t fl hneg) (Jkn (λ n=>Za n t fl hneg) (Tot.iteT (by simpa using hneg) (Jko rfl (QI _ _ (by simp)) (Jkl ?_))));simp
 refine Tot.bind (LE ht.tk (by omega) (by omega) (by omega)) ?_;rintro _ ⟨l17,h17,rfl⟩;refine Tot.bind (QF ht.tk (by omega) (by omega) (by omega)) ?_;rintro bst hbst;refine Tot.iteF (by simpa using hneg) (Tot.bind (Jey ht.tk hf5 hfk) ?_);rintro _ (rfl|⟨l,M,hM,hlM,hl,rfl⟩)
 ·exact Tot.iteT rfl (Jkl rfl)
 refine Tot.iteF rfl ?_;have e17:=h17.take hl hM;have hlen8:∀ g∈l.map gs,g.Cells.length<9223372036854775807:=λ g hg=>by
  obtain⟨s,hs,rfl⟩:=JkG.1 hg;have:=((hl.snd s hs).1.len ht.tk).1;show(A5 s.Cells).length<_;rw[EJ];omega
 have rest:Tot (λ n=>if decide (((List.length (l.map gs):Nat):Int)>16)=true then
     some ((((if l17.length>16 then(([]:List An),(2:Int))else(l17.map gs,0)).2==2)&&(((List.length (if l17.length>16 then(([]:List An),(2:Int))else(l17.map gs,0)).1:Nat):Int)==0))&&true)
    else
     (if((if l17.length>16 then(([]:List An),(2:Int))else(l17.map gs,0)).2==0)=true then C3 n (if l17.length>16 then(([]:List An),(2:Int))else(l17.map gs,0)).1 (l.map gs)else some default).bind λ r130=>
     some ((((if l17.length>16 then(([]:List An),(2:Int))else(l17.map gs,0)).2==0)&&r130)&&true)) (λ r=>r=true):=by
  by_cases hbig:l.length>16
  ·have h2:l17.length>16:=by rw[e17,List.length_take];omega
   rw[if_pos h2];exact Tot.iteT (by simp;omega) (Jkl rfl)
  ·have e:l17=l:=by rw[e17];exact List.take_of_length_le (by omega)
   subst e;rw[if_neg hbig];refine Tot.iteF (by simp;omega) (Jko rfl (Ho _ _ hlen8 (by simp;omega)) (Jkl (by simp)))
 rcases hbst with⟨rfl,h1⟩|⟨y,rfl,h1⟩
 ·have e:=h1.take hl (by omega);have:l=[]:=by
   cases l with
   | nil=>rfl
   | cons a r=>simp at e
  subst this;exact Jkp rfl (Jkp rfl (Tot.iteF rfl rest))
 ·have e:=h1.take hl (by omega);obtain⟨r,rfl⟩:∃ r,l=y::r:=by
   cases l with
   | nil=>simp at e
   | cons a r=>simp at e;exact⟨r,by rw[e]⟩
  have hf:(true==decide (((List.length ((y::r).map gs):Nat):Int)>0))=true:=by first|(simp;done)|(simp;omega)
  show Tot _ _;simp only[hf];refine Jko rfl (Ev.all λ _=>rfl) (Jko rfl (QI _ _ (hlen8 _ (by simp))) (Tot.iteF (by simp) rest))
end Go.AI
end
section
namespace Go.AI
theorem Zh:∀ (x:Ji) (p:List (Da Int)) (b:Int),Wu x->(∀ a∈p,(okI .u8 a.a0/\okI .u8 a.a1))->okI .i8 b->∃ n,B6 n x p b=some true:=λ _ _ b h hp _=>(JcW (Ze h) (Jeu hp) b).out
end Go.AI
end
section
namespace Go.Proofs.Ytlhfdeoeeenapaa
open Go.AI Go.ChangeShapes Go.WideShapes Go.ChangeAt Go.RowKit
theorem own:ownKnob Try.prog.godebug=none:=by kernel_rfl
set_option maxRecDepth 100000 in
theorem JhX (os:Os) (started:os.Started) (H:Type) (enc:TypeId×Value->H) :
  ReturnsInHanded {} Try.checked os 3 .any (Rows.doubtMatchesReferenceSpec.pre6 enc Try.prog Try.f3 Rows.doubtMatchesReferenceRow.domain false) (Rows.doubtMatchesReferenceSpec.post enc Try.prog Try.f3 false true false false):=by
 refine returnsInHanded_of_change (C:=Try.checked) own started (by kernel_rfl) Try.func3
  (ChangeSpec.witness6 (enc:=enc) (C:=Try.checked) false ⟨#[],#[.agg #[.int .u8 0,.int .u8 0,.slice none 0 0],.slice none 0 0,.int .i8 0],[]⟩ 8 (by kernel_rfl) (by kernel_rfl) (by kernel_rfl) (by kernel_rfl)) ?_
 intro W base args ds gs before hval0 hW hcnd _;have hval:∀ (j:Nat) t v,Try.f3.params[j]?=some t->args[j]?=some v->Value.okWide Try.prog W .any base t v:=hval0;have hW':=hW;obtain⟨p,q,hA0,hV,rfl,hfz,hnd⟩:=hW;have hA:DataW.TrodAll enc Try.prog W 0 (λ _=>true) true Try.f3.params.toList args.toList ds p:=hA0;have hlt:=hA.lt;rw[Try.params3]at hA hval;obtain⟨v0,vs0,d0,ds0,p0,q0,hargs,rfl,rfl,h0,r0⟩:=trodAll_cons hA;obtain⟨v1,vs1,d1,ds1,p1,q1,rfl,rfl,rfl,h1,r1⟩:=trodAll_cons r0;obtain⟨v2,vs2,d2,ds2,p2,q2,rfl,rfl,rfl,h2,r2⟩:=trodAll_cons r1;obtain⟨rfl,rfl,rfl⟩:=trodAll_nil r2;obtain rfl:args=#[v0,v1,v2]:=by cases args;simp_all
 obtain⟨rfl,rfl⟩:=trodVars_none hV;obtain⟨cs0,hc0,_⟩:=okWide_struct Try.underlying24 (hval 0 24 v0 rfl rfl);obtain⟨a0,k0,rep0⟩:=Jd5 hc0 h0 Jj7;obtain⟨x1,y1,z1,hc1⟩:=okWide_slice Try.underlying25 (hval 1 25 v1 rfl rfl);obtain⟨a1,k1,rep1⟩:=Xi (y:=λ a=>.sl (a.map (JS eU8))) (by rw[hc1];rfl) h1 Jj8 (λ _=>rfl);obtain⟨x2,hc2⟩:=okWide_int Try.underlying26 (hval 2 26 v2 rfl rfl);obtain⟨a2,k2,rep2⟩:=Xi (y:=λ a=>.int .i8 a) (by rw[hc2];rfl) h2 Jj9 (λ _=>rfl);clear hA0 hval0;simp only[List.append_nil]at hW' hlt;obtain⟨n,hn⟩:=Zh a0 a1 a2 k0 k1 k2;refine(Jb0 (F6 hn) (Tl rep0 (Tl rep1 (Tl rep2 JhE)))).mono λ e W' ⟨he,hg,hold⟩=>?_;subst he;exact⟨_,rfl,YO (pv:=[]) hW' (λ _ _ _=>(trodAll_cons_mk (shut_bool Try.underlying4 _) trodAll_mk0)) (λ sp hsp=>trodAll_cons_mk (Jb1 (by kernel_rfl) (by kernel_rfl) (of_decide_eq_true (by kernel_rfl)) h0 (λ p hp=>hlt p (by simp[hp])) (λ p hp=>hsp p (by simp[hp])) hold) (trodAll_cons_mk (Jb1 (by kernel_rfl) (by kernel_rfl) (of_decide_eq_true (by kernel_rfl)) h1 (λ p hp=>hlt p (by simp[hp])) (λ p hp=>hsp p (by simp[hp])) hold) (trodAll_cons_mk (Jb1 (by kernel_rfl) (by kernel_rfl) (of_decide_eq_true (by kernel_rfl)) h2 (λ p hp=>hlt p (by simp[hp])) (λ p hp=>hsp p (by simp[hp])) hold) trodAll_mk0))) (λ _ _=>rfl) (by simp) (hg _) hold (ok_one (by kernel_rfl) rfl (okWide_bool_mk Try.underlying4 _))⟩
theorem Jka:Rows.doubtMatchesReferenceRow.holds Try.pinned (OpenSpec.ofChange Rows.doubtMatchesReferenceSpec):=
 OpenClaim.holds_of_wide 3 Try.f3 rfl rfl rfl rfl rfl rfl rfl ⟨rfl,rfl,rfl,rfl,rfl⟩ rfl rfl rfl rfl rfl (by kernel_rfl) Try.func3 (by kernel_rfl)
  (of_decide_eq_true (by kernel_rfl)) (by unfold Func.isWrapper;first|(rw[if_pos (by decide +kernel)];kernel_rfl)|(rw[if_neg (by decide +kernel)];exact⟨rfl,rfl⟩))
  (λ os started H enc _=>JhX os started H enc)
theorem doubtMatchesReference_holds:Rows.DoubtMatchesReferenceSaid:=Jka
end Go.Proofs.Ytlhfdeoeeenapaa
end
