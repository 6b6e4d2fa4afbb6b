/- Part 5 of 6 of the proof: lemmas about the model and the program's functions, with no condition beyond those that each states. -/
import Derived.Test.YtbegmnhifelfoaaGreatLD
import Derived.ChangeArms
import Derived.WalkKit
import Derived.ProofKit
import Derived.OpenShut
import Derived.Carry
import Derived.WideKeyArgs
import Derived.ChangeSame
import Derived.KernelRfl
section
namespace Go.AI
open Go.Proofs
set_option maxRecDepth 10000
variable {n:Nat}
section
variable (p0_:(List Al)) (p1_:Int) (i_9:Int) (open_1:Int) (i_10:Int)
def JgR:St:=⟨(0,.d (.sl (p0_.map AC)))::(1,.d (.int .i64 p1_))::[],[]⟩
def JgS:St:=⟨(0,.d (.sl (p0_.map AC)))::(1,.d (.int .i64 i_9))::(5,.d (.int .i64 open_1))::[],[]⟩
def JgT:St:=⟨(1,.d (.int .i64 i_10))::[],[]⟩
def Tx:(Int⊕Int)->Ex->St->Prop:=xS (xX 0 0 (λ (y:Int)=>JgT y)) (xR ty Tryz.f99 (λ (y:Int)=>.d (.int .i64 y)))
def MX:(Int×Int)->St:=(λ (x:(Int×Int))=>JgS p0_ x.1 x.2)
variable {p0_ p1_ i_9 open_1 i_10}
theorem Lz (x:(Int×Int)) (z:((Int×Int)⊕(Int⊕Int))) (H:GD n p0_ x.1 x.2=some z):WP (cxk 35 0) (Ay Tryz.f99) [1,1,0,0,0] (Ax 0 (MX p0_) (Tx) z) (MX p0_ x):=by
 obtain ⟨i_9,open_1⟩:=x
 refine sq (sr (ck 2 (en (cn H (λ H=>?_) (λ H=>?_)))))
 ·refine sk (qz (bk 1 (sq (sr (ck 5 (sE (g:=(!(decide (i_9<0)))) (λ hg=>Av AC p0_) (gc 1 (!(decide (i_9<0))) (pO (ck 3 (bx H λ x41 h156 H=>sE (λ hg=>Am AC (Bc h156 hg)) (gc 1 (!((decide (i_9<0))||(decide (i_9>=((p0_.length:Nat):Int))))) (bx H λ r67 h157 H=>cG false (leZ) rfl (λ hg=>I5 (Bc h157 hg)) (Or.inl rfl) (Ca (λ hh=>hh) (Dd)) rfl (gc 1 (!((decide (i_9<0))||(decide (i_9>=((p0_.length:Nat):Int))))) (pO (en (cn H (λ H=>?_) (λ H=>?_)))))))))))))))))
  ·exact sr (ck 1 (en (re (qr (qR (by cases H;exact ro rfl rd))))))
  ·exact sk (qz (sr (ck 3 (bx H λ x42 h158 H=>sp (Am AC h158) (ck 1 (bx H λ r68 h159 H=>ca false (I5 h159) (ck 3 (en (rz (ck 3 (ae (qN (by cases H;exact og (sg [0,1,5]))))))))))))))
 ·exact ex 0 (qx (by cases H;exact xo rfl (sg [1])))
theorem Q3 {z} (H:KM n p0_ p1_=some z):Ap Tryz.prog 99 [.d (.sl (p0_.map AC)),.d (.int .i64 p1_)] (.d (.int .i64 z)):=by
 refine fO 35 (JgR p0_ p1_) Tryz.func99 (sr (ck 1 (en (sr (ck 1 (en (sq (bk 0 (bx H λ y49 h160 H=>?_)))))))))
 rcases y49 with y50|y51
 ·exact lX Lz h160 (sg [0,1,5]) rfl λ s hE35=>qH (qs (hE35) (sr (ck 2 (en (re (by cases H;exact pr rd))))))
 ·exact lR Lz h160 (sg [0,1,5]) rfl λ s hE36=>qR (qr (by cases H;exact pr hE36))
end
section
variable (p0_:(List Al)) (p1_:Int) (out_5:(List Int)) (at_1:Int) (k_7:Int) (out_6:(List Int))
def JcP:St:=⟨(0,.d (.sl (p0_.map AC)))::(1,.d (.int .i64 p1_))::[],[]⟩
def JcQ:St:=⟨(0,.d (.sl (p0_.map AC)))::(1,.d (.int .i64 p1_))::(5,.osl 0 1 0 (out_5.length))::(6,.d (.int .i64 at_1))::(7,.d (.int .i64 k_7))::[],[some (.arr 1 (out_5.map A9))]⟩
def JcR:St:=⟨(5,.osl 0 1 0 (out_6.length))::[],[some (.arr 1 (out_6.map A9))]⟩
def MY:(List Int)->Ex->St->Prop:=xX 0 0 (λ (y:(List Int))=>JcR y)
def Hq:((List Int)×Int×Int)->St:=(λ (x:((List Int)×Int×Int))=>JcQ p0_ p1_ x.1 x.2.1 x.2.2)
variable {p0_ p1_ out_5 at_1 k_7 out_6}
theorem L9 (x:((List Int)×Int×Int)) (z:(((List Int)×Int×Int)⊕(List Int))) (H:Ce n p0_ p1_ x.1 x.2.1 x.2.2=some z):WP (cxk 28 0) (Ay Tryz.f112) [1,1,0,1,0,0] (Ax 0 (Hq p0_ p1_) (MY) z) (Hq p0_ p1_ x):=by
 obtain ⟨out_5,at_1,k_7⟩:=x
 refine sq (sr (ck 3 (bx H λ x43 h161 H=>sp (Am AC h161) (ck 1 (bx H λ r69 h162 H=>ca false (I5 h162) (ck 1 (en (cn H (λ H=>?_) (λ H=>?_)))))))))
 ·exact sk (qz (sq (bk 1 (sr (ck 3 (bx H λ l14 h163 H=>sp (Bd A9 0 1 h163) (ck 1 (en (rz (ck 2 (bx H λ r70 h164 H=>ca false (Q3 h164) (ck 1 (ae (qN (qz (rz (ck 3 (ae (by cases H;exact og (sg [0,1,5,6,7]))))))))))))))))))))
 ·exact ex 0 (qx (by cases H;exact xo rfl (sg [5])))
theorem Jl {z} (H:Di n p0_ p1_=some z):Ap Tryz.prog 112 [.d (.sl (p0_.map AC)),.d (.int .i64 p1_)] (.own 1 (z.map A9)):=by
 exact fO 28 (JcP p0_ p1_) Tryz.func112 (sr (ck 1 (en (sr (ck 5 (en (sq (sr (ck 1 (en (bk 0 (bx H λ y52 h165 H=>lX L9 h165 (sg [0,1,5,6,7]) rfl λ s hE37=>qH (qs (hE37) (sr (ck 2 (en (re (by cases H;exact pr (rO (v:=.osl 0 1 0 (z.length)) [0] (ao vo))))))))))))))))))))
end
section
variable (p0_:Int) (x_13:Bool)
def JcS:St:=⟨(0,.d (.int .i64 p0_))::[],[]⟩
def JcT:St:=⟨(3,.d (.int .i64 p0_))::(6,.d (.bool x_13))::[],[]⟩
variable {p0_ x_13}
theorem EA {z} (H:Cv n p0_=some z):Ap Tryz.prog 113 [.d (.int .i64 p0_)] (.d (.int .i64 z)):=by
 refine fO 11 (JcS p0_) Tryz.func113 (sr (ck 1 (en (sq (sr (ck 1 (en (bk 0 (sr (ck 2 (en (cn H (λ H=>?_) (λ H=>?_)))))))))))))
 ·exact sr (ck 1 (en (re (qR (qr (by cases H;exact pr rd))))))
 ·refine sj (λ (x:Bool)=>JcT p0_ x) (λ (x:Bool)=>CZ n p0_ x) z ?_ (λ hFR9_Precedence_J1=>?_)
  ·intro x_13 H
   refine cn H (λ H=>?_) (λ H=>?_)
   ·exact sr (ck 1 (en (re (qR (qr (by cases H;exact pr rd))))))
   ·refine sr (ck 2 (en (cn H (λ H=>?_) (λ H=>?_))))
    ·exact sr (ck 1 (en (re (qR (qr (by cases H;exact pr rd))))))
    ·exact sk (qN (qz (sr (ck 1 (en (re (by cases H;exact pr rd)))))))
  refine sr (ck 2 (en (cn H (λ H=>?_) (λ H=>?_))))
  ·exact sk (qs (sg [3,6]) (hFR9_Precedence_J1 (p0_==2) H))
  ·exact rz (ck 2 (ae (qs (sg [3,6]) (hFR9_Precedence_J1 (p0_==3) H))))
end
section
variable (p0_:(List Al)) (p1_:Int) (r71:(List Int)) (x44:Al) (x_14:Bool) (k_8:Int)
def JcU:St:=⟨(0,.d (.sl (p0_.map AC)))::(1,.d (.int .i64 p1_))::[],[]⟩
def JcV:St:=⟨[],[]⟩
def JcW:St:=⟨(0,.d (.sl (p0_.map AC)))::(1,.d (.int .i64 p1_))::(5,.d (.sl (r71.map A9)))::(15,.d (.int .i64 x44.Op))::(16,.d (.bool x_14))::[],[]⟩
def JcX:St:=⟨(0,.d (.sl (p0_.map AC)))::(5,.d (.sl (r71.map A9)))::(7,.d (.int .i64 k_8))::[],[]⟩
def JcY:St:=⟨[],[]⟩
def Q4:(Unit⊕Bool)->Ex->St->Prop:=xS (xX 0 1 (λ (y:Unit)=>JcY)) (xR ty Tryz.f100 (λ (y:Bool)=>.d (.bool y)))
def Kc:Int->St:=(λ (x:Int)=>JcX p0_ r71 x)
variable {p0_ p1_ r71 x44 x_14 k_8}
theorem Jm (x:Int) (z:(Int⊕(Unit⊕Bool))) (H:Ga n p0_ r71 x=some z):WP (cxk 66 0) (Ay Tryz.f100) [1,1,0,1,0,1,1,1,0,1,0,0] (Ax 0 (Kc p0_ r71) (Q4) z) (Kc p0_ r71 x):=by
 revert H
 generalize x=k_8
 intro H
 refine sq (sr (ck 2 (sp (Av A9 r71) (ck 1 (en (cn H (λ H=>?_) (λ H=>?_)))))))
 ·refine sk (qz (sq (bk 2 (sr (ck 3 (bx H λ x50 h176 H=>sp (Am A9 h176) (ck 1 (bx H λ x51 h177 H=>sp (Am AC h177) (ck 3 (en (cn H (λ H=>?_) (λ H=>?_))))))))))))
  ·exact sr (ck 1 (en (re (qR (qr (by cases H;exact ro rfl rd))))))
  ·exact sk (qN (qz (rz (ck 3 (ae (by cases H;exact og (sg [0,5,7])))))))
 ·exact ex 1 (qx (by cases H;exact xo rfl (sg [])))
theorem Tz {z} (H:NL n p0_ p1_=some z):Ap Tryz.prog 100 [.d (.sl (p0_.map AC)),.d (.int .i64 p1_)] (.d (.bool z)):=by
 refine fO 66 (JcU p0_ p1_) Tryz.func100 (sr (ck 1 (en (sr (ck 2 (bx H λ r71 h166 H=>ca false (Jl h166) (ck 1 (en (sj (λ (x:Unit)=>JcV) (λ (x:Unit)=>F9 n) z ?_ (λ hFR9_sound_J1=>?_))))))))))
 ·intro _ H
  exact sr (ck 1 (en (re (by cases H;exact pr rd))))
 refine sr (ck 2 (bx H λ x44 h167 H=>sp (Am AC h167) (ck 2 (en (bk 0 (sj (λ (x:Bool)=>JcW p0_ p1_ r71 x44 x) (λ (x:Bool)=>CH n p0_ p1_ r71 x44 x) z ?_ (λ hFR9_sound_J2=>?_)))))))
 ·intro x_14 H
  refine cn H (λ H=>?_) (λ H=>?_)
  ·exact sr (ck 2 (bx H λ x45 h168 H=>sp (Am AC h168) (ck 2 (bx H λ r72 h169 H=>ca false (EA h169) (ck 1 (en (sr (ck 2 (bx H λ x46 h170 H=>sp (Am A9 h170) (ck 1 (bx H λ x47 h171 H=>sp (Am AC h171) (ck 2 (bx H λ r73 h172 H=>ca false (EA h172) (ck 5 (bx H λ x48 h173 H=>sE (λ hg=>Am A9 (Bc h173 hg)) (gc 1 (decide (r73>=r72)) (bx H λ x49 h174 H=>sE (λ hg=>Am AC (Bc h174 hg)) (gc 2 (decide (r73>=r72)) (bx H λ r74 h175 H=>cG false (leZ) rfl (λ hg=>EA (Bc h175 hg)) (Or.inl rfl) (Ca (λ hh=>hh) (Dd)) rfl (ck 1 (gc 1 (decide (r73>=r72)) (pA (ck 1 (en (re (qR (qr (by cases H;exact pr rd))))))))))))))))))))))))))))
  ·refine sr (ck 2 (en (cn H (λ H=>?_) (λ H=>?_))))
   ·refine sr (ck 1 (en (bk 1 (bx H λ y53 h178 H=>?_))))
    rcases y53 with y54|y55
    ·exact lX Jm h178 (sg [0,5,7]) rfl λ s hE38=>qH (qN (qs (tr (hE38) (sg [])) (hFR9_sound_J1 () H)))
    ·exact lR Jm h178 (sg [0,5,7]) rfl λ s hE39=>qR (qR (qr (by cases H;exact pr hE39)))
   ·exact sk (qN (qs (sg []) (hFR9_sound_J1 () H)))
 refine sr (ck 2 (en (cn H (λ H=>?_) (λ H=>?_))))
 ·exact sk (qs (sg [0,1,5,15,16]) (hFR9_sound_J2 (x44.Op==2) H))
 ·refine sr (ck 2 (en (cn H (λ H=>?_) (λ H=>?_))))
  ·exact sk (qs (sg [0,1,5,15,16]) (hFR9_sound_J2 (x44.Op==3) H))
  ·refine sr (ck 2 (en (cn H (λ H=>?_) (λ H=>?_))))
   ·exact sk (qs (sg [0,1,5,15,16]) (hFR9_sound_J2 (x44.Op==4) H))
   ·exact rz (ck 2 (ae (qs (sg [0,1,5,15,16]) (hFR9_sound_J2 (x44.Op==5) H))))
end
section
variable (p0_:(List Al)) (i_11:Int)
def JgU:St:=⟨(0,.d (.sl (p0_.map AC)))::[],[]⟩
def JgV:St:=⟨(0,.d (.sl (p0_.map AC)))::(3,.d (.int .i64 i_11))::[],[]⟩
def JgW:St:=⟨[],[]⟩
def RX:(Unit⊕Bool)->Ex->St->Prop:=xS (xX 0 0 (λ (y:Unit)=>JgW)) (xR ty Tryz.f85 (λ (y:Bool)=>.d (.bool y)))
def LA:Int->St:=(λ (x:Int)=>JgV p0_ x)
variable {p0_ i_11}
theorem Kd (x:Int) (z:(Int⊕(Unit⊕Bool))) (H:Hg n p0_ x=some z):WP (cxk 29 0) (Ay Tryz.f85) [1,1,0,1,0,0] (Ax 0 (LA p0_) (RX) z) (LA p0_ x):=by
 revert H
 generalize x=i_11
 intro H
 refine sq (sr (ck 2 (sp (Av AC p0_) (ck 1 (en (cn H (λ H=>?_) (λ H=>?_)))))))
 ·refine sk (qz (sq (bk 1 (sr (ck 2 (bx H λ r76 h180 H=>ca false (Tz h180) (ck 1 (en (cn H (λ H=>?_) (λ H=>?_))))))))))
  ·exact sr (ck 1 (en (re (qR (qr (by cases H;exact ro rfl rd))))))
  ·exact sk (qN (qz (rz (ck 3 (ae (by cases H;exact og (sg [0,3])))))))
 ·exact ex 0 (qx (by cases H;exact xo rfl (sg [])))
theorem Vh {z} (H:MR n p0_=some z):Ap Tryz.prog 85 [.d (.sl (p0_.map AC))] (.d (.bool z)):=by
 refine fO 29 (JgU p0_) Tryz.func85 (sr (ck 1 (en (sq (sr (ck 1 (sp (Av AC p0_) (ck 3 (sE (g:=(!(((p0_.length:Nat):Int)==0))) (λ hg=>Av AC p0_) (gc 1 (!(((p0_.length:Nat):Int)==0)) (pO (ck 2 (bx H λ r75 h179 H=>cG false (leZ) rfl (λ hg=>Q3 (Bc h179 hg)) (Or.inl rfl) (Ca (λ hh=>hh) (Dd)) rfl (ck 1 (sE (g:=(!((((p0_.length:Nat):Int)==0)||(decide (((p0_.length:Nat):Int)>200))))) (λ hg=>Av AC p0_) (gc 1 (!((((p0_.length:Nat):Int)==0)||(decide (((p0_.length:Nat):Int)>200)))) (pO (en (cn H (λ H=>?_) (λ H=>?_))))))))))))))))))))
 ·exact sr (ck 1 (en (re (qr (by cases H;exact pr rd)))))
 ·refine sk (qz (sq (sr (ck 1 (en (bk 0 (bx H λ y56 h181 H=>?_)))))))
  rcases y56 with y57|y58
  ·exact lX Kd h181 (sg [0,3]) rfl λ s hE40=>qH (qs (hE40) (sr (ck 1 (en (re (by cases H;exact pr rd))))))
  ·exact lR Kd h181 (sg [0,3]) rfl λ s hE41=>qR (qr (by cases H;exact pr hE41))
end
section
variable (p0_:(List Al)) (p1_:Int) (r78:(List Int)) (out_7:Int) (k_9:Int) (out_8:Int) (rec101_:((List Al)->Int->Option Int))
def JcZ:St:=⟨(0,.d (.sl (p0_.map AC)))::(1,.d (.int .i64 p1_))::[],[]⟩
def Jc0:St:=⟨(0,.d (.sl (p0_.map AC)))::(5,.d (.int .i64 out_7))::(6,.d (.sl (r78.map A9)))::(7,.d (.int .i64 k_9))::[],[]⟩
def Jc1:St:=⟨(5,.d (.int .i64 out_8))::[],[]⟩
def Q5:Int->Ex->St->Prop:=xX 0 0 (λ (y:Int)=>Jc1 y)
def Ke:(Int×Int)->St:=(λ (x:(Int×Int))=>Jc0 p0_ r78 x.1 x.2)
variable {p0_ p1_ r78 out_7 k_9 out_8 rec101_}
theorem Pf (hrec101_:∀ {p0_:(List Al)} {p1_:Int} {z:Int},rec101_ p0_ p1_=some z->Ap Tryz.prog 101 [.d (.sl (p0_.map AC)),.d (.int .i64 p1_)] (.d (.int .i64 z))) (x:(Int×Int)) (z:((Int×Int)⊕Int)) (H:CI n rec101_ p0_ r78 x.1 x.2=some z):WP (cxk 27 0) (Ay Tryz.f101) [1,1,0,1,0,0] (Ax 0 (Ke p0_ r78) (Q5) z) (Ke p0_ r78 x):=by
 obtain ⟨out_7,k_9⟩:=x
 refine sq (sr (ck 2 (sp (Av A9 r78) (ck 1 (en (cn H (λ H=>?_) (λ H=>?_)))))))
 ·exact sk (qz (sq (bk 1 (rz (ck 4 (bx H λ x52 h184 H=>sp (Am A9 h184) (ck 1 (bx H λ r79 h185 H=>ca false (hrec101_ h185) (ck 2 (ae (qN (qz (rz (ck 3 (ae (by cases H;exact og (sg [0,5,6,7])))))))))))))))))
 ·exact ex 0 (qx (by cases H;exact xo rfl (sg [5])))
theorem Q6 {z} (hrec101_:∀ {p0_:(List Al)} {p1_:Int} {z:Int},rec101_ p0_ p1_=some z->Ap Tryz.prog 101 [.d (.sl (p0_.map AC)),.d (.int .i64 p1_)] (.d (.int .i64 z))) (H:BC n rec101_ p0_ p1_=some z):Ap Tryz.prog 101 [.d (.sl (p0_.map AC)),.d (.int .i64 p1_)] (.d (.int .i64 z)):=by
 exact fO 27 (JcZ p0_ p1_) Tryz.func101 (sr (ck 1 (en (sr (ck 2 (bx H λ r78 h183 H=>ca false (Jl h183) (ck 2 (en (sq (sr (ck 1 (en (bk 0 (bx H λ y59 h186 H=>lX (Pf hrec101_) h186 (sg [0,5,6,7]) rfl λ s hE42=>qH (qs (hE42) (sr (ck 3 (en (re (by cases H;exact pr rd))))))))))))))))))))
end
section
variable (p0_:(List Al)) (p1_:Int)
variable {p0_ p1_}
theorem TA {z} (H:NM n p0_ p1_=some z):Ap Tryz.prog 101 [.d (.sl (p0_.map AC)),.d (.int .i64 p1_)] (.d (.int .i64 z)):=by
  have key:∀ (d:Nat) {p0_:(List Al)} {p1_:Int} {z:Int},JB (λ _ _=>none) (BC n) d p0_ p1_=some z->Ap Tryz.prog 101 [.d (.sl (p0_.map AC)),.d (.int .i64 p1_)] (.d (.int .i64 z)):=by
    intro d
    induction d with
    | zero=>intro _ _ _ H;cases H
    | succ d ih=>intro _ _ _ H;exact Q6 (λ h=>ih h) H
  exact key n H
end
section
variable (p0_:(List Al))
def JgX:St:=⟨(0,.d (.sl (p0_.map AC)))::[],[]⟩
variable {p0_}
theorem TB {z} (H:SF n p0_=some z):Ap Tryz.prog 86 [.d (.sl (p0_.map AC))] (.d (.int .i64 z)):=by
 exact fO 5 (JgX p0_) Tryz.func86 (sr (ck 1 (en (sr (ck 1 (bx H λ r80 h187 H=>ca true (TA h187) (ck 1 (en (re (by cases H;exact pr rd))))))))))
end
section
variable (p0_:(List Al))
def JgY:St:=⟨(0,.d (.sl (p0_.map AC)))::[],[]⟩
variable {p0_}
theorem MZ {z} (H:EZ n p0_=some z):Ap Tryz.prog 66 [.d (.sl (p0_.map AC))] (.d (.bool z)):=by
 exact fO 15 (JgY p0_) Tryz.func66 (sr (ck 1 (en (sr (ck 1 (sp (Av AC p0_) (ck 3 (bx H λ r81 h188 H=>cG false (leZ) rfl (λ hg=>Vh (Bc h188 hg)) (Or.inl rfl) (Ca (λ hh=>hh) (Dd)) rfl (pA (ck 2 (bx H λ r82 h189 H=>cG false (leZ) rfl (λ hg=>TB (Bc h189 hg)) (Or.inl rfl) (Ca (λ hh=>hh) (Dd)) rfl (gc 1 ((decide (((p0_.length:Nat):Int)<=60))&&r81) (pA (ck 1 (en (re (by cases H;exact pr rd)))))))))))))))))
end
section
variable (p0_:QL) (out_9:(List Al)) (n_1:Int) (out_10:(List Al)) (i_12:Int) (out_11:(List Al)) (out_12:(List Al)) (k_10:(Cu Int))
def JgZ:St:=⟨(0,.agg [.d (.int .u8 p0_.Kind),.d (.int .u8 p0_.N),.d (.sl (p0_.L.map (Bg eU8)))])::[],[]⟩
def Jg0:St:=⟨(1,.ptr 0 0)::(3,.osl 1 2 0 (out_9.length))::(4,.d (.int .i64 n_1))::[],[some (.box (YQ p0_)),some (.arr 2 (out_9.map AC))]⟩
def Jg1:St:=⟨(1,.ptr 0 0)::(3,.osl 1 2 0 (out_10.length))::(4,.d (.int .i64 n_1))::(7,.d (.int .i64 i_12))::[],[some (.box (YQ p0_)),some (.arr 2 (out_10.map AC))]⟩
def Jg2:St:=⟨(1,.ptr 0 0)::(3,.osl 1 2 0 (out_11.length))::[],[some (.box (YQ p0_)),some (.arr 2 (out_11.map AC))]⟩
def Jg3:St:=⟨(1,.ptr 0 0)::(3,.osl 1 2 0 (out_12.length))::(4,.d (.int .i64 n_1))::(7,.d (.int .i64 i_12))::[],[some (.box (YQ p0_)),some (.arr 2 (out_12.map AC))]⟩
def Jg4:St:=⟨(1,.ptr 0 0)::(3,.osl 1 2 0 (out_10.length))::(4,.d (.int .i64 n_1))::(7,.d (.int .i64 i_12))::(8,.ptr 2 0)::[],[some (.box (YQ p0_)),some (.arr 2 (out_10.map AC)),some (.box [.d (.int .u8 k_10.a0),.d (.int .u8 k_10.a1)])]⟩
def Q7:(List Al)->Ex->St->Prop:=xX 0 1 (λ (y:(List Al))=>Jg2 p0_ y)
def Kf:((List Al)×Int)->St:=(λ (x:((List Al)×Int))=>Jg1 p0_ n_1 x.1 x.2)
variable {p0_ out_9 n_1 out_10 i_12 out_11 out_12 k_10}
theorem Pg (x:((List Al)×Int)) (z:(((List Al)×Int)⊕(List Al))) (H:Gb n p0_ n_1 x.1 x.2=some z):WP (cxk 102 0) (Ay Tryz.f61) [1,1,1,0,1,0,0] (Ax 0 (Kf p0_ n_1) (Q7 p0_) z) (Kf p0_ n_1 x):=by
 obtain ⟨out_10,i_12⟩:=x
 refine sq (sr (ck 3 (en (cn H (λ H=>?_) (λ H=>?_)))))
 ·refine sk (qz (sj (λ (x:(List Al))=>Jg3 p0_ n_1 i_12 x) (λ (x:(List Al))=>IR n i_12 x) z ?_ (λ hFR11_Made_J2=>?_)))
  ·intro out_12 H
   exact rz (ck 3 (ae (by cases H;exact og (sg [1,3,4,7]))))
  refine bk 2 (sr (ck 3 (en (sj (λ (x:(Cu Int))=>Jg4 p0_ n_1 out_10 i_12 x) (λ (x:(Cu Int))=>Ec n p0_ out_10 i_12 x) z ?_ (λ hFR11_Made_J3=>?_)))))
  ·intro k_10 H
   refine sr (ck 4 (en (cn H (λ H=>?_) (λ H=>?_))))
   ·exact rz (ck 10 (bx H λ l15 h190 H=>sp (Bd AC 1 2 h190) (ck 1 (ae (qN (qs (sg [1,3,4,7]) (hFR11_Made_J2 l15 H)))))))
   ·exact rz (ck 5 (bx H λ r83 h191 H=>ca false (HL h191) (bx H λ l16 h192 H=>sp (Tl AC 1 2 h192) (ck 1 (ae (qN (qs (sg [1,3,4,7]) (hFR11_Made_J2 l16 H))))))))
  refine sr (ck 3 (sp (Av (Bg eU8) p0_.L) (ck 1 (en (cn H (λ H=>?_) (λ H=>?_))))))
  ·exact rz (ck 3 (bx H λ x53 h193 H=>sp (Am (Bg eU8) h193) (ck 2 (ae (qs (sg [1,3,4,7,8]) (hFR11_Made_J3 x53 H))))))
  ·exact sk (qs (sg [1,3,4,7,8]) (hFR11_Made_J3 ({ a0:=0,a1:=0 }:(Cu Int)) H))
 ·exact ex 1 (qx (by cases H;exact xo rfl (sg [1,3])))
theorem TC {z} (H:KN n p0_=some z):Ap Tryz.prog 61 [.agg (YQ p0_)] (.own 2 (z.map AC)):=by
 refine fO 102 (JgZ p0_) Tryz.func61 (sr (ck 2 (en (sr (ck 4 (en (sj (λ (x:((List Al)×Int))=>Jg0 p0_ x.1 x.2) (λ (x:((List Al)×Int))=>Dj n p0_ x.1 x.2) z ?_ (λ hFR11_Made_J1=>?_))))))))
 ·rintro ⟨out_9,n_1⟩ H
  refine sq (sr (ck 1 (en (bk 1 (bx H λ y60 h194 H=>lX Pg h194 (sg [1,3,4,7]) rfl λ s hE43=>qH (qs (hE43) (sr (ck 1 (bx H λ r84 h195 H=>cb (ks:=[1]) (obl:=[(0+List.length y60,List.length (y60.map AC))]) false (leK leM (leZ)) (CN Gv rfl) (MZ h195) (Or.inr trivial) rfl (ck 1 (en (sq (sr (ck 2 (en (cn H (λ H=>?_) (λ H=>?_)))))))))))))))))
  ·exact sr (ck 2 (bx H λ r85 h196 H=>cl [List.length r85] (HL h196) (ck 1 (en (re (qr (by cases H;exact pr (rO (v:=.osl 2 2 0 (z.length)) [2] (ao vo)))))))))
  ·exact sk (qz (sr (ck 2 (en (re (by cases H;exact pr (rO (v:=.osl 1 2 0 (z.length)) [1] (ao vo))))))))
 refine sr (ck 3 (en (bk 0 (sr (ck 2 (en (cn H (λ H=>?_) (λ H=>?_))))))))
 ·exact sr (ck 6 (en (rz (ck 5 (ae (qN (qs (sg [1,3,4]) (hFR11_Made_J1 ([({ Op:=12,N:=AT .i64 (Ai .i64 3 (IntKind.i64.wrap (Ah p0_.N 4))) 1 }:Al)],(Ai .i64 3 (IntKind.i64.wrap (Ah p0_.N 4)))) H))))))))
 ·refine sr (ck 2 (en (cn H (λ H=>?_) (λ H=>?_))))
  ·exact sr (ck 13 (en (sr (ck 4 (en (rz (ck 7 (ae (qN (qs (sg [1,3,4]) (hFR11_Made_J1 ([({ Op:=13,N:=Ai .i64 (BS .i64 8 (Ai .i64 1 (IntKind.i64.wrap (Ah p0_.N 4)))) (Ai .i64 1 (IntKind.i64.wrap (Ah (Dt .u8 p0_.N 4) 4))) }:Al)],(BS .i64 (Ai .i64 1 (IntKind.i64.wrap (Ah p0_.N 4))) (Ai .i64 1 (IntKind.i64.wrap (Ah (Dt .u8 p0_.N 4) 4))))) H)))))))))))
  ·refine sr (ck 2 (en (cn H (λ H=>?_) (λ H=>?_))))
   ·exact sr (ck 5 (bx H λ r86 h197 H=>cl [List.length r86] (HL h197) (ck 1 (en (re (qR (qr (by cases H;exact pr (rO (v:=.osl 2 2 0 (z.length)) [2] (ao vo))))))))))
   ·exact sk (qN (qs (sg [1,3,4]) (hFR11_Made_J1 ([({ Op:=6,N:=0 }:Al)],2) H)))
end
section
variable (p0_:(Vd Int)) (p1_:Int) (p2_:Int) (out_13:(List Aa)) (out_14:(List Aa))
def Jg5:St:=⟨(0,.agg [.d (.int .u8 p0_.a0),.d (.int .u8 p0_.a1),.d (.int .u8 p0_.a2),.d (.int .u8 p0_.a3),.d (.int .u8 p0_.a4),.d (.int .u8 p0_.a5)])::(1,.d (.int .i64 p1_))::(2,.d (.int .i64 p2_))::[],[]⟩
def Jg6:St:=⟨(6,.ptr 0 0)::(15,.d (.int .i64 (Ai .i64 1 (IntKind.i64.wrap (Ah p0_.a0 3)))))::(17,.osl 1 2 0 (out_13.length))::[],[some (.box [.d (.int .i64 0),.d (.int .i64 0),.osl 2 2 0 (List.length ([]:List Aa))]),some (.arr 2 (out_13.map Ab)),some (.arr 2 (List.map Ab ([]:List Aa)))]⟩
def Jg7:St:=⟨(6,.ptr 0 0)::(15,.d (.int .i64 (Ai .i64 1 (IntKind.i64.wrap (Ah p0_.a0 3)))))::(16,.d (.int .i64 (IntKind.i64.wrap (Ah (Dt .u8 p0_.a0 3) 4))))::(18,.osl 1 2 0 (out_14.length))::[],[some (.box [.d (.int .i64 0),.d (.int .i64 0),.osl 2 2 0 (List.length ([]:List Aa))]),some (.arr 2 (out_14.map Ab)),some (.arr 2 (List.map Ab ([]:List Aa)))]⟩
variable {p0_ p1_ p2_ out_13 out_14}
theorem Ph {z} (H:Gc n p0_ p1_ p2_=some z):Ap Tryz.prog 82 [.agg [.d (.int .u8 p0_.a0),.d (.int .u8 p0_.a1),.d (.int .u8 p0_.a2),.d (.int .u8 p0_.a3),.d (.int .u8 p0_.a4),.d (.int .u8 p0_.a5)],.d (.int .i64 p1_),.d (.int .i64 p2_)] (.agg [.d (.int .i64 z.Kind),.d (.int .i64 z.Texture),.own 2 (z.P.map Ab)]):=by
 refine fO 111 (Jg5 p0_ p1_ p2_) Tryz.func82 (sr (ck 2 (en (sr (ck 4 (bx H λ gd2 h198 H=>so (D8 h198) (ck 4 (bx H λ gd3 h199 H=>so (D8 h199) (ck 14 (en (sr (ck 14 (en (sr (ck 10 (en (sr (ck 12 (en (sq (sr (ck 2 (en (cn H (λ H=>?_) (λ H=>?_)))))))))))))))))))))))))
 ·exact sr (ck 5 (en (re (qr (by cases H;exact pr (rO (v:=.agg [.d (.int .i64 (Ai .i64 1 (IntKind.i64.wrap (Ah p0_.a0 3)))),.d (.int .i64 0),.osl 4 2 0 (List.length [({ X:=Ah (IntKind.i64.wrap p0_.a1) p1_,Y:=Ah (IntKind.i64.wrap p0_.a2) p2_ }:Aa)])]) [4] (a1 (c1 vd (c1 vd (c1 vo (c0)))))))))))
 ·refine sk (qz (sq (sr (ck 2 (en (cn H (λ H=>?_) (λ H=>?_)))))))
  ·refine sr (ck 4 (en (sj (λ (x:(List Aa))=>Jg6 p0_ x) (λ (x:(List Aa))=>DA n p0_ x) z ?_ (λ hFR14_feature_J1=>?_))))
   ·intro out_13 H
    exact sr (ck 4 (en (re (qr (by cases H;exact pr (rO (v:=.agg [.d (.int .i64 (Ai .i64 1 (IntKind.i64.wrap (Ah p0_.a0 3)))),.d (.int .i64 0),.osl 1 2 0 (out_13.length)]) [1] (a1 (c1 vd (c1 vd (c1 vo (c0)))))))))))
   refine sr (ck 4 (en (cn H (λ H=>?_) (λ H=>?_))))
   ·exact rz (ck 5 (bx H λ l17 h200 H=>sp (Bd Ab 4 2 h200) (ck 1 (ae (qs (tr (Bv 1 2 2 (by kernel_rfl)) (sg [6,15,17])) (hFR14_feature_J1 l17 H))))))
   ·exact sk (qs (tr (Bv 1 2 2 (by kernel_rfl)) (sg [6,15,17])) (hFR14_feature_J1 [({ X:=Ah (IntKind.i64.wrap p0_.a1) p1_,Y:=Ah (IntKind.i64.wrap p0_.a2) p2_ }:Aa),({ X:=(if AT .i64 p1_ 1<Ai .i64 (Ah (IntKind.i64.wrap p0_.a1) p1_) (Ai .i64 1 (Ah (IntKind.i64.wrap p0_.a3) 8)) then AT .i64 p1_ 1 else Ai .i64 (Ah (IntKind.i64.wrap p0_.a1) p1_) (Ai .i64 1 (Ah (IntKind.i64.wrap p0_.a3) 8))),Y:=(if AT .i64 p2_ 1<Ai .i64 (Ah (IntKind.i64.wrap p0_.a2) p2_) (Ai .i64 1 (Ah (IntKind.i64.wrap p0_.a4) 8)) then AT .i64 p2_ 1 else Ai .i64 (Ah (IntKind.i64.wrap p0_.a2) p2_) (Ai .i64 1 (Ah (IntKind.i64.wrap p0_.a4) 8))) }:Aa)] H))
  ·refine sk (qz (sr (ck 7 (en (sj (λ (x:(List Aa))=>Jg7 p0_ x) (λ (x:(List Aa))=>DB n p0_ x) z ?_ (λ hFR14_feature_J2=>?_))))))
   ·intro out_14 H
    exact sr (ck 5 (en (re (by cases H;exact pr (rO (v:=.agg [.d (.int .i64 (Ai .i64 1 (IntKind.i64.wrap (Ah p0_.a0 3)))),.d (.int .i64 (IntKind.i64.wrap (Ah (Dt .u8 p0_.a0 3) 4))),.osl 1 2 0 (out_14.length)]) [1] (a1 (c1 vd (c1 vd (c1 vo (c0))))))))))
   refine sr (ck 4 (en (cn H (λ H=>?_) (λ H=>?_))))
   ·exact rz (ck 5 (bx H λ l18 h201 H=>sp (Bd Ab 4 2 h201) (ck 1 (ae (qs (tr (Bv 1 2 2 (by kernel_rfl)) (sg [6,15,16,18])) (hFR14_feature_J2 l18 H))))))
   ·exact sk (qs (tr (Bv 1 2 2 (by kernel_rfl)) (sg [6,15,16,18])) (hFR14_feature_J2 [({ X:=Ah (IntKind.i64.wrap p0_.a1) p1_,Y:=Ah (IntKind.i64.wrap p0_.a2) p2_ }:Aa),({ X:=(if AT .i64 p1_ 1<Ai .i64 (Ah (IntKind.i64.wrap p0_.a1) p1_) (Ai .i64 1 (Ah (IntKind.i64.wrap p0_.a3) 8)) then AT .i64 p1_ 1 else Ai .i64 (Ah (IntKind.i64.wrap p0_.a1) p1_) (Ai .i64 1 (Ah (IntKind.i64.wrap p0_.a3) 8))),Y:=Ah (IntKind.i64.wrap p0_.a2) p2_ }:Aa),({ X:=(if AT .i64 p1_ 1<Ai .i64 (Ah (IntKind.i64.wrap p0_.a1) p1_) (Ai .i64 1 (Ah (IntKind.i64.wrap p0_.a3) 8)) then AT .i64 p1_ 1 else Ai .i64 (Ah (IntKind.i64.wrap p0_.a1) p1_) (Ai .i64 1 (Ah (IntKind.i64.wrap p0_.a3) 8))),Y:=(if AT .i64 p2_ 1<Ai .i64 (Ah (IntKind.i64.wrap p0_.a2) p2_) (Ai .i64 1 (Ah (IntKind.i64.wrap p0_.a4) 8)) then AT .i64 p2_ 1 else Ai .i64 (Ah (IntKind.i64.wrap p0_.a2) p2_) (Ai .i64 1 (Ah (IntKind.i64.wrap p0_.a4) 8))) }:Aa)] H))
end
section
variable (p0_:Bo) (p_1:Ae) (i_13:Int) (p_2:Ae) (p_3:Ae)
def Jg8:St:=⟨(0,.agg [.d (.int .u8 p0_.W),.d (.int .u8 p0_.H),.d (.int .u8 p0_.Gap),.d (.sl (p0_.F.map (Je eU8)))])::[],[]⟩
def Jg9:St:=⟨(1,.ptr 0 0)::(2,.ptr 1 0)::(3,.ptr 2 0)::(4,.d (.int .i64 i_13))::[],[some (.box (Jf p0_)),some (.box [.d (.int .i64 0),.d (.int .i64 0),.d (.int .i64 0),.osl 3 3 0 (List.length ([]:List Aw))]),some (.box (L5 p_1 (.osl 4 3 0 (p_1.F.length)))),some (.arr 3 (List.map As ([]:List Aw))),some (.arr 3 (p_1.F.map As))]⟩
def Jha:St:=⟨(2,.ptr 0 0)::(3,.ptr 1 0)::[],[some (.box [.d (.int .i64 0),.d (.int .i64 0),.d (.int .i64 0),.osl 2 3 0 (List.length ([]:List Aw))]),some (.box (L5 p_2 (.osl 3 3 0 (p_2.F.length)))),some (.arr 3 (List.map As ([]:List Aw))),some (.arr 3 (p_2.F.map As))]⟩
def Q8:Ae->Ex->St->Prop:=xX 0 0 (λ (y:Ae)=>Jha y)
def Kg:(Ae×Int)->St:=(λ (x:(Ae×Int))=>Jg9 p0_ x.1 x.2)
def Jhb:St:=⟨(2,.ptr 0 0)::(3,.ptr 1 0)::[],[some (.box [.d (.int .i64 0),.d (.int .i64 0),.d (.int .i64 0),.osl 2 3 0 (List.length ([]:List Aw))]),some (.box (L5 p_3 (.osl 3 3 0 (p_3.F.length)))),some (.arr 3 (List.map As ([]:List Aw))),some (.arr 3 (p_3.F.map As))]⟩
variable {p0_ p_1 i_13 p_2 p_3}
theorem Pi (x:(Ae×Int)) (z:((Ae×Int)⊕Ae)) (H:Gd n p0_ x.1 x.2=some z):WP (cxk 59 0) (Ay Tryz.f62) [1,1,0,1,0,0] (Ax 0 (Kg p0_) (Q8) z) (Kg p0_ x):=by
 obtain ⟨p_1,i_13⟩:=x
 refine sq (sr (ck 3 (sp (Av (Je eU8) p0_.F) (ck 3 (gc 1 (decide (i_13<((p0_.F.length:Nat):Int))) (pA (en (cn H (λ H=>?_) (λ H=>?_)))))))))
 ·exact sk (qz (sq (bk 1 (rz (ck 5 (bx H λ x54 h202 H=>sp (Am (Je eU8) h202) (ck 5 (bx H λ r87 h203 H=>ca false (Ph h203) (ck 1 (bx H λ l19 h204 H=>sp (Bd As 4 3 h204) (ck 2 (ae (qN (qz (rz (ck 3 (ae (by cases H;exact og (sg [1,2,3,4])))))))))))))))))))
 ·exact ex 0 (qx (by cases H;exact xo rfl (sg [2,3])))
theorem TD {z} (H:KO n p0_=some z):Ap Tryz.prog 62 [.agg (Jf p0_)] (.agg [.d (.int .i64 z.W),.d (.int .i64 z.H),.d (.int .i64 z.Gap),.own 3 (z.F.map As)]):=by
 refine fO 59 (Jg8 p0_) Tryz.func62 (sr (ck 2 (en (sr (ck 20 (en (sq (sr (ck 1 (en (bk 0 (bx H λ y61 h205 H=>lX Pi h205 (tr (tr (Bv 1 3 3 (by kernel_rfl)) (Bv 2 3 3 (by kernel_rfl))) (sg [1,2,3,4])) rfl λ s hE44=>qH (qs (hE44) (sj (λ (x:Ae)=>Jhb x) (λ (x:Ae)=>IS n x) z ?_ (λ hFR14_Made_J1=>?_)))))))))))))))
 ·intro p_3 H
  exact sr (ck 2 (en (re (by cases H;exact pr (rO (v:=.agg [.d (.int .i64 z.W),.d (.int .i64 z.H),.d (.int .i64 z.Gap),.osl 3 3 0 (z.F.length)]) [3] (a1 (c1 vd (c1 vd (c1 vd (c1 vo (c0)))))))))))
 refine sr (ck 4 (en (cn H (λ H=>?_) (λ H=>?_))))
 ·exact rz (ck 1 (sF (ck 4 (ae (qs (sg [2,3]) (hFR14_Made_J1 ({ W:=y61.W,H:=y61.H,Gap:=y61.Gap,F:=[({ Kind:=1,Texture:=0,P:=[({ X:=1,Y:=1 }:Aa)] }:Aw)] }:Ae) H))))))
 ·exact sk (qs (sg [2,3]) (hFR14_Made_J1 y61 H))
end
section
variable (p0_:Aw) (i_14:Int)
def Jc2:St:=⟨(0,.agg [.d (.int .i64 p0_.Kind),.d (.int .i64 p0_.Texture),.d (.sl (p0_.P.map Ab))])::[],[]⟩
def Jc3:St:=⟨(1,.ptr 0 0)::(3,.d (.int .i64 ((p0_.P.length:Nat):Int)))::(4,.d (.int .i64 i_14))::[],[some (.box (Dx p0_))]⟩
def Jc4:St:=⟨(1,.ptr 0 0)::(3,.d (.int .i64 ((p0_.P.length:Nat):Int)))::[],[some (.box (Dx p0_))]⟩
def Pj:(Unit⊕Bool)->Ex->St->Prop:=xS (xX 0 0 (λ (y:Unit)=>Jc4 p0_)) (xR ty Tryz.f103 (λ (y:Bool)=>.d (.bool y)))
def Jn:Int->St:=(λ (x:Int)=>Jc3 p0_ x)
variable {p0_ i_14}
theorem H9 (x:Int) (z:(Int⊕(Unit⊕Bool))) (H:Fb n p0_ x=some z):WP (cxk 73 0) (Ay Tryz.f103) [1,1,0,1,0,0] (Ax 0 (Jn p0_) (Pj p0_) z) (Jn p0_ x):=by
 revert H
 generalize x=i_14
 intro H
 refine sq (sr (ck 3 (en (cn H (λ H=>?_) (λ H=>?_)))))
 ·refine sk (qz (sq (bk 1 (sr (ck 3 (bx H λ x55 h206 H=>sp (Am Ab h206) (ck 3 (en (sr (ck 5 (gc 2 (!(decide (x55.X<0))) (pO (ck 2 (gc 2 (!((decide (x55.X<0))||(decide (x55.Y<0)))) (pO (ck 2 (gc 2 (!(((decide (x55.X<0))||(decide (x55.Y<0)))||(decide (x55.X>=60)))) (pO (en (cn H (λ H=>?_) (λ H=>?_)))))))))))))))))))))
  ·exact sr (ck 1 (en (re (qR (qr (by cases H;exact ro rfl rd))))))
  ·exact sk (qN (qz (rz (ck 3 (ae (by cases H;exact og (sg [1,3,4])))))))
 ·exact ex 0 (qx (by cases H;exact xo rfl (sg [1,3])))
theorem RY {z} (H:LX n p0_=some z):Ap Tryz.prog 103 [.agg (Dx p0_)] (.d (.bool z)):=by
 refine fO 73 (Jc2 p0_) Tryz.func103 (sr (ck 2 (en (sr (ck 2 (sp (Av Ab p0_.P) (ck 1 (en (sq (sr (ck 1 (en (bk 0 (bx H λ y62 h207 H=>?_))))))))))))))
 rcases y62 with y63|y64
 ·refine lX H9 h207 (sg [1,3,4]) rfl λ s hE45=>qH (qs (hE45) (sq (sr (ck 2 (en (cn H (λ H=>?_) (λ H=>?_)))))))
  ·exact sr (ck 1 (en (re (qr (by cases H;exact pr rd)))))
  ·refine sk (qz (sq (sr (ck 2 (en (bk 2 (sr (ck 2 (en (cn H (λ H=>?_) (λ H=>?_)))))))))))
   ·exact sr (ck 4 (gc 2 (((p0_.P.length:Nat):Int)==1) (pA (ck 1 (en (re (qR (qr (by cases H;exact pr rd)))))))))
   ·refine sr (ck 2 (en (cn H (λ H=>?_) (λ H=>?_))))
    ·exact sr (ck 4 (gc 2 (decide (((p0_.P.length:Nat):Int)>=2)) (pA (ck 1 (en (re (qR (qr (by cases H;exact pr rd)))))))))
    ·refine sr (ck 2 (en (cn H (λ H=>?_) (λ H=>?_))))
     ·exact sr (ck 4 (gc 2 (decide (((p0_.P.length:Nat):Int)>=3)) (pA (ck 2 (gc 2 ((decide (((p0_.P.length:Nat):Int)>=3))&&(decide (p0_.Texture>=0))) (pA (ck 1 (en (re (qR (qr (by cases H;exact pr rd))))))))))))
     ·exact sk (qN (qz (sr (ck 1 (en (re (by cases H;exact pr rd)))))))
 ·exact lR H9 h207 (sg [1,3,4]) rfl λ s hE46=>qR (qr (by cases H;exact pr hE46))
end
section
variable (p0_:(List Aa)) (p1_:Int)
def Jc5:St:=⟨(0,.d (.sl (p0_.map Ab)))::(1,.d (.int .i64 p1_))::[],[]⟩
variable {p0_ p1_}
theorem M0 {z} (H:H2 n p0_ p1_=some z):Ap Tryz.prog 121 [.d (.sl (p0_.map Ab)),.d (.int .i64 p1_)] (.tup [.agg [.d (.int .i64 z.1.X),.d (.int .i64 z.1.Y)],.agg [.d (.int .i64 z.2.X),.d (.int .i64 z.2.Y)]]):=by
 exact fO 18 (Jc5 p0_ p1_) Tryz.func121 (sr (ck 2 (en (sr (ck 2 (bx H λ x56 h208 H=>sp (Am Ab h208) (ck 5 (sp (Av Ab p0_) (bx H λ gd4 h209 H=>so (D8 h209) (bx H λ x57 h210 H=>sp (Am Ab h210) (ck 3 (en (re (by cases H;exact pr rdT))))))))))))))
end
section
variable (p0_:Int)
def Jc6:St:=⟨(0,.d (.int .i64 p0_))::[],[]⟩
variable {p0_}
theorem O5 {z} (H:H3 n p0_=some z):Ap Tryz.prog 125 [.d (.int .i64 p0_)] (.d (.int .i64 z)):=by
 exact fO 7 (Jc6 p0_) Tryz.func125 (sr (ck 1 (en (sr (ck 5 (en (re (by cases H;exact pr rd))))))))
end
section
variable (p0_:Aa) (p1_:Aa)
def Jc7:St:=⟨(0,.agg [.d (.int .i64 p0_.X),.d (.int .i64 p0_.Y)])::(1,.agg [.d (.int .i64 p1_.X),.d (.int .i64 p1_.Y)])::[],[]⟩
variable {p0_ p1_}
theorem O6 {z} (H:GE n p0_ p1_=some z):Ap Tryz.prog 118 [.agg [.d (.int .i64 p0_.X),.d (.int .i64 p0_.Y)],.agg [.d (.int .i64 p1_.X),.d (.int .i64 p1_.Y)]] (.d (.int .i64 z)):=by
 exact fO 18 (Jc7 p0_ p1_) Tryz.func118 (sr (ck 3 (en (sr (ck 5 (bx H λ r88 h211 H=>ca false (O5 h211) (ck 5 (bx H λ r89 h212 H=>ca false (O5 h212) (ck 2 (en (re (by cases H;exact pr rd))))))))))))
end
section
variable (p0_:Int) (p1_:Int) (q_1:Int)
def Jc8:St:=⟨(0,.d (.int .i64 p0_))::(1,.d (.int .i64 p1_))::[],[]⟩
def Jc9:St:=⟨(5,.d (.int .i64 q_1))::[],[]⟩
variable {p0_ p1_ q_1}
theorem LB {z} (H:GG n p0_ p1_=some z):Ap Tryz.prog 126 [.d (.int .i64 p0_),.d (.int .i64 p1_)] (.d (.int .i64 z)):=by
 refine fO 16 (Jc8 p0_ p1_) Tryz.func126 (sr (ck 1 (en (sr (ck 2 (bx H λ gd5 h213 H=>so (D8 h213) (ck 1 (en (sj (λ (x:Int)=>Jc9 x) (λ (x:Int)=>Fd n x) z ?_ (λ hFR12_floor_J1=>?_))))))))))
 ·intro q_1 H
  exact sr (ck 2 (en (re (by cases H;exact pr rd))))
 refine sr (ck 2 (bx H λ gd6 h214 H=>so (D8 h214) (ck 1 (en (cn H (λ H=>?_) (λ H=>?_))))))
 ·exact rz (ck 3 (ae (qs (sg [5]) (hFR12_floor_J1 (AT .i64 (Dt .i64 p0_ p1_) 1) H))))
 ·exact sk (qs (sg [5]) (hFR12_floor_J1 (Dt .i64 p0_ p1_) H))
end
section
variable (p0_:Aa) (p1_:Aa) (r90:Int) (out_15:(List Aa)) (k_11:Int) (out_16:(List Aa))
def Jda:St:=⟨(0,.agg [.d (.int .i64 p0_.X),.d (.int .i64 p0_.Y)])::(1,.agg [.d (.int .i64 p1_.X),.d (.int .i64 p1_.Y)])::[],[]⟩
def Jdb:St:=⟨(2,.ptr 0 0)::(3,.ptr 1 0)::(5,.d (.int .i64 r90))::(6,.osl 2 2 0 (out_15.length))::(7,.d (.int .i64 k_11))::[],[some (.box [.d (.int .i64 p0_.X),.d (.int .i64 p0_.Y)]),some (.box [.d (.int .i64 p1_.X),.d (.int .i64 p1_.Y)]),some (.arr 2 (out_15.map Ab))]⟩
def Jdc:St:=⟨(6,.osl 0 2 0 (out_16.length))::[],[some (.arr 2 (out_16.map Ab))]⟩
def Q9:(List Aa)->Ex->St->Prop:=xX 0 0 (λ (y:(List Aa))=>Jdc y)
def Kh:((List Aa)×Int)->St:=(λ (x:((List Aa)×Int))=>Jdb p0_ p1_ r90 x.1 x.2)
variable {p0_ p1_ r90 out_15 k_11 out_16}
theorem Pk (x:((List Aa)×Int)) (z:(((List Aa)×Int)⊕(List Aa))) (H:Ge n p0_ p1_ r90 x.1 x.2=some z):WP (cxk 66 0) (Ay Tryz.f122) [1,1,1,0,1,0,0] (Ax 0 (Kh p0_ p1_ r90) (Q9) z) (Kh p0_ p1_ r90 x):=by
 obtain ⟨out_15,k_11⟩:=x
 refine sq (sr (ck 3 (en (cn H (λ H=>?_) (λ H=>?_)))))
 ·exact sk (qz (sq (bk 1 (sr (ck 17 (bx H λ r91 h216 H=>ca false (LB h216) (ck 1 (en (sr (ck 17 (bx H λ r92 h217 H=>ca false (LB h217) (ck 1 (en (rz (ck 5 (bx H λ l20 h218 H=>sp (Bd Ab 2 2 h218) (ck 1 (ae (qN (qz (rz (ck 3 (ae (by cases H;exact og (sg [2,3,5,6,7])))))))))))))))))))))))))
 ·exact ex 0 (qx (by cases H;exact xo rfl (sg [6])))
theorem TE {z} (H:NN n p0_ p1_=some z):Ap Tryz.prog 122 [.agg [.d (.int .i64 p0_.X),.d (.int .i64 p0_.Y)],.agg [.d (.int .i64 p1_.X),.d (.int .i64 p1_.Y)]] (.own 2 (z.map Ab)):=by
 refine fO 66 (Jda p0_ p1_) Tryz.func122 (sr (ck 3 (en (sr (ck 2 (bx H λ r90 h215 H=>ca false (O6 h215) (ck 3 (en (sq (sr (ck 2 (en (cn H (λ H=>?_) (λ H=>?_))))))))))))))
 ·exact sr (ck 3 (en (re (qr (by cases H;exact pr (rO (v:=.osl 3 2 0 (List.length [p0_])) [3] (ao vo)))))))
 ·exact sk (qz (sq (sr (ck 1 (en (bk 0 (bx H λ y65 h219 H=>lX Pk h219 (sg [2,3,5,6,7]) rfl λ s hE47=>qH (qs (hE47) (sr (ck 2 (en (re (by cases H;exact pr (rO (v:=.osl 0 2 0 (z.length)) [0] (ao vo)))))))))))))))
end
section
variable (p0_:(List Aa)) (p1_:Int) (out_17:(List Aa)) (i_15:Int) (out_18:(List Aa))
def Jdd:St:=⟨(0,.d (.sl (p0_.map Ab)))::(1,.d (.int .i64 p1_))::[],[]⟩
def Jde:St:=⟨(0,.d (.sl (p0_.map Ab)))::(1,.d (.int .i64 p1_))::(5,.osl 0 2 0 (out_17.length))::(6,.d (.int .i64 i_15))::[],[some (.arr 2 (out_17.map Ab))]⟩
def Jdf:St:=⟨(5,.osl 0 2 0 (out_18.length))::[],[some (.arr 2 (out_18.map Ab))]⟩
def Pm:(List Aa)->Ex->St->Prop:=xX 0 0 (λ (y:(List Aa))=>Jdf y)
def Jo:((List Aa)×Int)->St:=(λ (x:((List Aa)×Int))=>Jde p0_ p1_ x.1 x.2)
variable {p0_ p1_ out_17 i_15 out_18}
theorem N0 (x:((List Aa)×Int)) (z:(((List Aa)×Int)⊕(List Aa))) (H:Fe n p0_ p1_ x.1 x.2=some z):WP (cxk 27 0) (Ay Tryz.f115) [1,1,0,1,0,0] (Ax 0 (Jo p0_ p1_) (Pm) z) (Jo p0_ p1_ x):=by
 obtain ⟨out_17,i_15⟩:=x
 refine sq (sr (ck 3 (en (cn H (λ H=>?_) (λ H=>?_)))))
 ·exact sk (qz (sq (bk 1 (sr (ck 2 (bx H λ r93 h220 H=>ca false (M0 h220) (ck 7 (en (rz (ck 3 (bx H λ r94 h221 H=>ca false (TE h221) (bx H λ l21 h222 H=>sp (Tl Ab 0 2 h222) (ck 1 (ae (qN (qz (rz (ck 3 (ae (by cases H;exact og (sg [0,1,5,6])))))))))))))))))))))
 ·exact ex 0 (qx (by cases H;exact xo rfl (sg [5])))
theorem LC {z} (H:IT n p0_ p1_=some z):Ap Tryz.prog 115 [.d (.sl (p0_.map Ab)),.d (.int .i64 p1_)] (.own 2 (z.map Ab)):=by
 exact fO 27 (Jdd p0_ p1_) Tryz.func115 (sr (ck 1 (en (sr (ck 2 (en (sq (sr (ck 1 (en (bk 0 (bx H λ y66 h223 H=>lX N0 h223 (sg [0,1,5,6]) rfl λ s hE48=>qH (qs (hE48) (sr (ck 2 (en (re (by cases H;exact pr (rO (v:=.osl 0 2 0 (z.length)) [0] (ao vo))))))))))))))))))))
end
section
variable (p0_:(List Aa)) (there_1:(List (List Bool))) (i_16:Int) (there_2:(List (List Bool))) (there_3:(List (List Bool))) (y67:(List (List Bool))) (out_19:(List Aa)) (y_1:Int) (out_20:(List Aa)) (out_21:(List Aa)) (x_15:Int) (out_22:(List Aa)) (out_23:(List Aa))
def Jdg:St:=⟨(0,.d (.sl (p0_.map Ab)))::[],[]⟩
def Jdh:St:=⟨(0,.d (.sl (p0_.map Ab)))::(3,.eptr 0 60 0 0)::(4,.d (.int .i64 i_16))::[],[some (.arr 60 (List.map (List.map D.bool) there_1))]⟩
def Jdi:St:=⟨(3,.eptr 0 60 0 0)::[],[some (.arr 60 (List.map (List.map D.bool) there_2))]⟩
def Jdj:St:=⟨(0,.d (.sl (p0_.map Ab)))::(3,.eptr 0 60 0 0)::(4,.d (.int .i64 i_16))::[],[some (.arr 60 (List.map (List.map D.bool) there_3))]⟩
def N3:(List (List Bool))->Ex->St->Prop:=xX 0 0 (λ (y:(List (List Bool)))=>Jdi y)
def Ia:((List (List Bool))×Int)->St:=(λ (x:((List (List Bool))×Int))=>Jdh p0_ x.1 x.2)
def Jdk:St:=⟨(3,.eptr 0 60 0 0)::(6,.osl 1 2 0 (out_19.length))::(7,.d (.int .i64 y_1))::[],[some (.arr 60 (List.map (List.map D.bool) y67)),some (.arr 2 (out_19.map Ab))]⟩
def Jdl:St:=⟨(6,.osl 0 2 0 (out_20.length))::[],[some (.arr 2 (out_20.map Ab))]⟩
def Jdm:St:=⟨(3,.eptr 0 60 0 0)::(6,.osl 1 2 0 (out_21.length))::(7,.d (.int .i64 y_1))::(8,.d (.int .i64 x_15))::[],[some (.arr 60 (List.map (List.map D.bool) y67)),some (.arr 2 (out_21.map Ab))]⟩
def Jdn:St:=⟨(3,.eptr 0 60 0 0)::(6,.osl 1 2 0 (out_22.length))::(7,.d (.int .i64 y_1))::[],[some (.arr 60 (List.map (List.map D.bool) y67)),some (.arr 2 (out_22.map Ab))]⟩
def Jdo:St:=⟨(3,.eptr 0 60 0 0)::(6,.osl 1 2 0 (out_23.length))::(7,.d (.int .i64 y_1))::(8,.d (.int .i64 x_15))::[],[some (.arr 60 (List.map (List.map D.bool) y67)),some (.arr 2 (out_23.map Ab))]⟩
def N4:(List Aa)->Ex->St->Prop:=xX 0 4 (λ (y:(List Aa))=>Jdn y67 y_1 y)
def Ib:((List Aa)×Int)->St:=(λ (x:((List Aa)×Int))=>Jdm y67 y_1 x.1 x.2)
def N5:(List Aa)->Ex->St->Prop:=xX 0 2 (λ (y:(List Aa))=>Jdl y)
def Ic:((List Aa)×Int)->St:=(λ (x:((List Aa)×Int))=>Jdk y67 x.1 x.2)
variable {p0_ there_1 i_16 there_2 there_3 y67 out_19 y_1 out_20 out_21 x_15 out_22 out_23}
theorem M3 (x:((List (List Bool))×Int)) (z:(((List (List Bool))×Int)⊕(List (List Bool)))) (H:Ee n p0_ x.1 x.2=some z):WP (cxk 65 0) (Ay Tryz.f114) [1,1,0,1,0,0] (Ax 0 (Ia p0_) (N3) z) (Ia p0_ x):=by
 obtain ⟨there_1,i_16⟩:=x
 refine sq (sr (ck 2 (sp (Av Ab p0_) (ck 1 (en (cn H (λ H=>?_) (λ H=>?_)))))))
 ·refine sk (qz (sj (λ (x:(List (List Bool)))=>Jdj p0_ i_16 x) (λ (x:(List (List Bool)))=>Ed n i_16 x) z ?_ (λ hFR13_sorted_J1=>?_)))
  ·intro there_3 H
   exact rz (ck 3 (ae (by cases H;exact og (sg [0,3,4]))))
  refine bk 1 (sr (ck 2 (bx H λ x58 h224 H=>sp (Am Ab h224) (ck 3 (en (sr (ck 5 (gc 2 (decide (x58.X>=0)) (pA (ck 2 (gc 2 ((decide (x58.X>=0))&&(decide (x58.Y>=0))) (pA (ck 2 (gc 2 (((decide (x58.X>=0))&&(decide (x58.Y>=0)))&&(decide (x58.X<60))) (pA (en (cn H (λ H=>?_) (λ H=>?_))))))))))))))))))
  ·exact rz (ck 4 (bx H λ gd7 h225 H=>sp (Xr 0 60 0 60 (j:=0) h225) (bx H λ gd8 h226 H=>sp (Xu 0 60 60 1 (0+Int.toNat x58.Y) 0 h226) (bx H λ l22 h227 H=>Jkn D.bool 0 60 (ty 4) h227 (of_decide_eq_true (KK h226)).2 (ae (qN (qs (sg [0,3,4]) (hFR13_sorted_J1 l22 H))))))))
  ·exact sk (qN (qs (sg [0,3,4]) (hFR13_sorted_J1 there_1 H)))
 ·exact ex 0 (qx (by cases H;exact xo rfl (sg [3])))
theorem M4 (x:((List Aa)×Int)) (z:(((List Aa)×Int)⊕(List Aa))) (H:Eg n y67 y_1 x.1 x.2=some z):WP (cxk 65 0) (Ay Tryz.f114) [1,1,1,1,0,1,0,0,1,0,0,1,0,0] (Ax 0 (Ib y67 y_1) (N4 y67 y_1) z) (Ib y67 y_1 x):=by
 obtain ⟨out_21,x_15⟩:=x
 refine sq (sr (ck 2 (en (cn H (λ H=>?_) (λ H=>?_)))))
 ·refine sk (qz (sj (λ (x:(List Aa))=>Jdo y67 y_1 x_15 x) (λ (x:(List Aa))=>Ef n x_15 x) z ?_ (λ hFR13_sorted_J2=>?_)))
  ·intro out_23 H
   exact rz (ck 3 (ae (by cases H;exact og (sg [3,6,7,8]))))
  refine bk 5 (sr (ck 2 (bx H λ gd9 h229 H=>sp (Xr 0 60 0 60 (j:=0) h229) (bx H λ gd10 h230 H=>sp (Xu 0 60 60 1 (0+Int.toNat y_1) 0 h230) (bx H λ x59 h231 H=>sp (JfA D.bool 0 60 (ty 4) h231) (en (cn H (λ H=>?_) (λ H=>?_))))))))
  ·exact rz (ck 5 (bx H λ l23 h232 H=>sp (Bd Ab 1 2 h232) (ck 1 (ae (qN (qs (sg [3,6,7,8]) (hFR13_sorted_J2 l23 H)))))))
  ·exact sk (qN (qs (sg [3,6,7,8]) (hFR13_sorted_J2 out_21 H)))
 ·exact ex 4 (qx (by cases H;exact xo rfl (sg [3,6,7])))
theorem M5 (x:((List Aa)×Int)) (z:(((List Aa)×Int)⊕(List Aa))) (H:Eh n y67 x.1 x.2=some z):WP (cxk 65 0) (Ay Tryz.f114) [1,1,1,1,0,1,0,0] (Ax 0 (Ic y67) (N5) z) (Ic y67 x):=by
 obtain ⟨out_19,y_1⟩:=x
 refine sq (sr (ck 2 (en (cn H (λ H=>?_) (λ H=>?_)))))
 ·exact sk (qz (sq (bk 3 (sr (ck 1 (en (bk 4 (bx H λ y68 h233 H=>lX M4 h233 (sg [3,6,7,8]) rfl λ s hE50=>qH (qN (qs (hE50) (rz (ck 3 (ae (by cases H;exact og (sg [3,6,7])))))))))))))))
 ·exact ex 2 (qx (by cases H;exact xo rfl (sg [6])))
theorem Ki {z} (H:Hh n p0_=some z):Ap Tryz.prog 114 [.d (.sl (p0_.map Ab))] (.own 2 (z.map Ab)):=by
 exact fO 65 (Jdg p0_) Tryz.func114 (sr (ck 1 (en (sr (ck 2 (sp (Jay (D.bool false) 3600 0 (ty 186)) (en (sq (sq (rg (tr (JcE D.bool false 3600 60 60 0 (by kernel_rfl) (by kernel_rfl)) (Jjc 3 0 60 (by kernel_rfl))) (ck 1 (en (bk 0 (bx H λ y67 h228 H=>lX M3 h228 (sg [0,3,4]) rfl λ s hE49=>qH (qs (hE49) (sr (ck 2 (en (sq (sr (ck 1 (en (bk 2 (bx H λ y69 h234 H=>lX M5 h234 (sg [3,6,7]) rfl λ s hE51=>qH (qs (hE51) (sr (ck 2 (en (re (by cases H;exact pr (rO (v:=.osl 0 2 0 (z.length)) [0] (ao vo))))))))))))))))))))))))))))))))
end
section
variable (p0_:Int) (p1_:Aa)
def Jdp:St:=⟨(0,.d (.int .i64 p0_))::(1,.agg [.d (.int .i64 p1_.X),.d (.int .i64 p1_.Y)])::[],[]⟩
variable {p0_ p1_}
theorem Pn {z} (H:Gf n p0_ p1_=some z):Ap Tryz.prog 116 [.d (.int .i64 p0_),.agg [.d (.int .i64 p1_.X),.d (.int .i64 p1_.Y)]] (.d (.bool z)):=by
 exact fO 30 (Jdp p0_ p1_) Tryz.func116 (sr (ck 2 (en (sr (ck 4 (gc 2 (!(p0_==3)) (ck 1 (gc 3 ((!(p0_==3))&&(p0_==2)) (pG (g:=(!(p0_==3))) (v:=.d (.bool ((p0_==2)&&((Ah p1_.Y 2)==0)))) (λ hg=>De (c:=.gv (!(p0_==3)) (.d (.bool (p0_==2)))) (a:=.gv ((!(p0_==3))&&(p0_==2)) (.d (.bool ((Ah p1_.Y 2)==0)))) (b:=.d (.bool false)) rfl rfl rfl ((λ hh=>hh) hg) (λ ht=>by rw [(λ hh=>hh) hg,ht];rfl) trivial) (pO (ck 2 (gc 2 (!((p0_==3)||((p0_==2)&&((Ah p1_.Y 2)==0)))) (ck 1 (gc 1 ((!((p0_==3)||((p0_==2)&&((Ah p1_.Y 2)==0))))&&(p0_==1)) (ck 1 (gc 4 ((!((p0_==3)||((p0_==2)&&((Ah p1_.Y 2)==0))))&&(p0_==1)) (pG (g:=(!((p0_==3)||((p0_==2)&&((Ah p1_.Y 2)==0))))) (v:=.d (.bool ((p0_==1)&&((Ah (Ai .i64 p1_.X p1_.Y) 2)==0)))) (λ hg=>De (c:=.gv (!((p0_==3)||((p0_==2)&&((Ah p1_.Y 2)==0)))) (.d (.bool (p0_==1)))) (a:=.gv ((!((p0_==3)||((p0_==2)&&((Ah p1_.Y 2)==0))))&&(p0_==1)) (.d (.bool ((Ah (Ai .i64 p1_.X p1_.Y) 2)==0)))) (b:=.d (.bool false)) rfl rfl rfl ((λ hh=>hh) hg) (λ ht=>by rw [(λ hh=>hh) hg,ht];rfl) trivial) (pO (ck 1 (en (re (by cases H;exact pr rd))))))))))))))))))))))
end
section
variable (p0_:Aa) (p1_:Aa) (p2_:Aa)
def Jdq:St:=⟨(0,.agg [.d (.int .i64 p0_.X),.d (.int .i64 p0_.Y)])::(1,.agg [.d (.int .i64 p1_.X),.d (.int .i64 p1_.Y)])::(2,.agg [.d (.int .i64 p2_.X),.d (.int .i64 p2_.Y)])::[],[]⟩
variable {p0_ p1_ p2_}
theorem TF {z} (H:NO n p0_ p1_ p2_=some z):Ap Tryz.prog 127 [.agg [.d (.int .i64 p0_.X),.d (.int .i64 p0_.Y)],.agg [.d (.int .i64 p1_.X),.d (.int .i64 p1_.Y)],.agg [.d (.int .i64 p2_.X),.d (.int .i64 p2_.Y)]] (.d (.int .i64 z)):=by
 exact fO 30 (Jdq p0_ p1_ p2_) Tryz.func127 (sr (ck 4 (en (sr (ck 24 (en (re (by cases H;exact pr rd))))))))
end
section
variable (p0_:Aa) (p1_:Aa) (p2_:Aa)
def Jdr:St:=⟨(0,.agg [.d (.int .i64 p0_.X),.d (.int .i64 p0_.Y)])::(1,.agg [.d (.int .i64 p1_.X),.d (.int .i64 p1_.Y)])::(2,.agg [.d (.int .i64 p2_.X),.d (.int .i64 p2_.Y)])::[],[]⟩
variable {p0_ p1_ p2_}
theorem WG {z} (H:PM n p0_ p1_ p2_=some z):Ap Tryz.prog 123 [.agg [.d (.int .i64 p0_.X),.d (.int .i64 p0_.Y)],.agg [.d (.int .i64 p1_.X),.d (.int .i64 p1_.Y)],.agg [.d (.int .i64 p2_.X),.d (.int .i64 p2_.Y)]] (.d (.bool z)):=by
 exact fO 52 (Jdr p0_ p1_ p2_) Tryz.func123 (sr (ck 4 (en (sr (ck 3 (bx H λ r95 h235 H=>ca false (TF h235) (ck 3 (gc 1 (r95==0) (ck 1 (gc 1 (r95==0) (ck 1 (gc 3 (r95==0) (pA (ck 2 (gc 1 ((r95==0)&&(decide (p2_.X>=(if p1_.X<p0_.X then p1_.X else p0_.X)))) (ck 1 (gc 1 ((r95==0)&&(decide (p2_.X>=(if p1_.X<p0_.X then p1_.X else p0_.X)))) (ck 1 (gc 3 ((r95==0)&&(decide (p2_.X>=(if p1_.X<p0_.X then p1_.X else p0_.X)))) (pA (ck 2 (gc 1 (((r95==0)&&(decide (p2_.X>=(if p1_.X<p0_.X then p1_.X else p0_.X))))&&(decide (p2_.X<=(if p1_.X>p0_.X then p1_.X else p0_.X)))) (ck 1 (gc 1 (((r95==0)&&(decide (p2_.X>=(if p1_.X<p0_.X then p1_.X else p0_.X))))&&(decide (p2_.X<=(if p1_.X>p0_.X then p1_.X else p0_.X)))) (ck 1 (gc 3 (((r95==0)&&(decide (p2_.X>=(if p1_.X<p0_.X then p1_.X else p0_.X))))&&(decide (p2_.X<=(if p1_.X>p0_.X then p1_.X else p0_.X)))) (pA (ck 2 (gc 1 ((((r95==0)&&(decide (p2_.X>=(if p1_.X<p0_.X then p1_.X else p0_.X))))&&(decide (p2_.X<=(if p1_.X>p0_.X then p1_.X else p0_.X))))&&(decide (p2_.Y>=(if p1_.Y<p0_.Y then p1_.Y else p0_.Y)))) (ck 1 (gc 1 ((((r95==0)&&(decide (p2_.X>=(if p1_.X<p0_.X then p1_.X else p0_.X))))&&(decide (p2_.X<=(if p1_.X>p0_.X then p1_.X else p0_.X))))&&(decide (p2_.Y>=(if p1_.Y<p0_.Y then p1_.Y else p0_.Y)))) (ck 1 (gc 3 ((((r95==0)&&(decide (p2_.X>=(if p1_.X<p0_.X then p1_.X else p0_.X))))&&(decide (p2_.X<=(if p1_.X>p0_.X then p1_.X else p0_.X))))&&(decide (p2_.Y>=(if p1_.Y<p0_.Y then p1_.Y else p0_.Y)))) (pA (ck 1 (en (re (by cases H;exact pr rd))))))))))))))))))))))))))))))))))))))
end
section
variable (p0_:Aa) (p1_:Aa) (p2_:Aa)
def Jds:St:=⟨(0,.agg [.d (.int .i64 p0_.X),.d (.int .i64 p0_.Y)])::(1,.agg [.d (.int .i64 p1_.X),.d (.int .i64 p1_.Y)])::(2,.agg [.d (.int .i64 p2_.X),.d (.int .i64 p2_.Y)])::[],[]⟩
variable {p0_ p1_ p2_}
theorem Ra {z} (H:Hi n p0_ p1_ p2_=some z):Ap Tryz.prog 124 [.agg [.d (.int .i64 p0_.X),.d (.int .i64 p0_.Y)],.agg [.d (.int .i64 p1_.X),.d (.int .i64 p1_.Y)],.agg [.d (.int .i64 p2_.X),.d (.int .i64 p2_.Y)]] (.d (.bool z)):=by
 refine fO 53 (Jds p0_ p1_ p2_) Tryz.func124 (sr (ck 4 (en (sq (sr (ck 11 (en (cn H (λ H=>?_) (λ H=>?_)))))))))
 ·exact sr (ck 1 (en (re (qr (by cases H;exact pr rd)))))
 ·refine sk (qz (sr (ck 12 (en (sr (ck 12 (en (sq (sr (ck 5 (en (cn H (λ H=>?_) (λ H=>?_)))))))))))))
  ·exact sr (ck 4 (en (re (qr (by cases H;exact pr rd)))))
  ·exact sk (qz (sr (ck 4 (en (re (by cases H;exact pr rd))))))
end
section
variable (p0_:(List Aa)) (p1_:Aa) (odd_1:Bool) (i_17:Int) (odd_2:Bool) (odd_3:Bool)
def Jdt:St:=⟨(0,.d (.sl (p0_.map Ab)))::(1,.agg [.d (.int .i64 p1_.X),.d (.int .i64 p1_.Y)])::[],[]⟩
def Jdu:St:=⟨(0,.d (.sl (p0_.map Ab)))::(3,.ptr 0 0)::(5,.d (.bool odd_1))::(6,.d (.int .i64 i_17))::[],[some (.box [.d (.int .i64 p1_.X),.d (.int .i64 p1_.Y)])]⟩
def Jdv:St:=⟨(5,.d (.bool odd_2))::[],[]⟩
def Jdw:St:=⟨(0,.d (.sl (p0_.map Ab)))::(3,.ptr 0 0)::(5,.d (.bool odd_3))::(6,.d (.int .i64 i_17))::[],[some (.box [.d (.int .i64 p1_.X),.d (.int .i64 p1_.Y)])]⟩
def N6:(Bool⊕Bool)->Ex->St->Prop:=xS (xX 0 0 (λ (y:Bool)=>Jdv y)) (xR ty Tryz.f117 (λ (y:Bool)=>.d (.bool y)))
def Id:(Bool×Int)->St:=(λ (x:(Bool×Int))=>Jdu p0_ p1_ x.1 x.2)
variable {p0_ p1_ odd_1 i_17 odd_2 odd_3}
theorem Hr (x:(Bool×Int)) (z:((Bool×Int)⊕(Bool⊕Bool))) (H:Ej n p0_ p1_ x.1 x.2=some z):WP (cxk 32 0) (Ay Tryz.f117) [1,1,0,1,0,0] (Ax 0 (Id p0_ p1_) (N6) z) (Id p0_ p1_ x):=by
 obtain ⟨odd_1,i_17⟩:=x
 refine sq (sr (ck 2 (sp (Av Ab p0_) (ck 1 (en (cn H (λ H=>?_) (λ H=>?_)))))))
 ·refine sk (qz (sj (λ (x:Bool)=>Jdw p0_ p1_ i_17 x) (λ (x:Bool)=>Ei n i_17 x) z ?_ (λ hFR13_Inside_J1=>?_)))
  ·intro odd_3 H
   exact rz (ck 3 (ae (by cases H;exact og (sg [0,3,5,6]))))
  refine bk 1 (sr (ck 2 (bx H λ r96 h236 H=>ca false (M0 h236) (ck 7 (en (sq (sr (ck 3 (bx H λ r97 h237 H=>ca false (WG h237) (en (cn H (λ H=>?_) (λ H=>?_))))))))))))
  ·exact sr (ck 1 (en (re (qr (qR (qr (by cases H;exact ro rfl rd)))))))
  ·refine sk (qz (sr (ck 3 (bx H λ r98 h238 H=>ca false (Ra h238) (en (cn H (λ H=>?_) (λ H=>?_)))))))
   ·exact rz (ck 3 (ae (qN (qs (sg [0,3,5,6]) (hFR13_Inside_J1 (!odd_1) H)))))
   ·exact sk (qN (qs (sg [0,3,5,6]) (hFR13_Inside_J1 odd_1 H)))
 ·exact ex 0 (qx (by cases H;exact xo rfl (sg [5])))
theorem Rb {z} (H:J1 n p0_ p1_=some z):Ap Tryz.prog 117 [.d (.sl (p0_.map Ab)),.agg [.d (.int .i64 p1_.X),.d (.int .i64 p1_.Y)]] (.d (.bool z)):=by
 refine fO 32 (Jdt p0_ p1_) Tryz.func117 (sr (ck 2 (en (sr (ck 1 (en (sq (sr (ck 1 (en (bk 0 (bx H λ y70 h239 H=>?_))))))))))))
 rcases y70 with y71|y72
 ·exact lX Hr h239 (sg [0,3,5,6]) rfl λ s hE52=>qH (qs (hE52) (sr (ck 2 (en (re (by cases H;exact pr rd))))))
 ·exact lR Hr h239 (sg [0,3,5,6]) rfl λ s hE53=>qR (qr (by cases H;exact pr hE53))
end
section
variable (p0_:Aw) (out_24:(List Aa)) (y_2:Int) (out_25:(List Aa)) (out_26:(List Aa)) (x_16:Int) (out_27:(List Aa)) (out_28:(List Aa))
def Jdx:St:=⟨(0,.agg [.d (.int .i64 p0_.Kind),.d (.int .i64 p0_.Texture),.d (.sl (p0_.P.map Ab))])::[],[]⟩
def Jdy:St:=⟨(1,.ptr 0 0)::(3,.osl 1 2 0 (out_24.length))::(4,.d (.int .i64 y_2))::[],[some (.box (Dx p0_)),some (.arr 2 (out_24.map Ab))]⟩
def Jdz:St:=⟨(3,.osl 0 2 0 (out_25.length))::[],[some (.arr 2 (out_25.map Ab))]⟩
def JdA:St:=⟨(1,.ptr 0 0)::(3,.osl 1 2 0 (out_26.length))::(4,.d (.int .i64 y_2))::(5,.d (.int .i64 x_16))::[],[some (.box (Dx p0_)),some (.arr 2 (out_26.map Ab))]⟩
def JdB:St:=⟨(1,.ptr 0 0)::(3,.osl 1 2 0 (out_27.length))::(4,.d (.int .i64 y_2))::[],[some (.box (Dx p0_)),some (.arr 2 (out_27.map Ab))]⟩
def JdC:St:=⟨(1,.ptr 0 0)::(3,.osl 1 2 0 (out_28.length))::(4,.d (.int .i64 y_2))::(5,.d (.int .i64 x_16))::[],[some (.box (Dx p0_)),some (.arr 2 (out_28.map Ab))]⟩
def N7:(List Aa)->Ex->St->Prop:=xX 0 3 (λ (y:(List Aa))=>JdB p0_ y_2 y)
def Ie:((List Aa)×Int)->St:=(λ (x:((List Aa)×Int))=>JdA p0_ y_2 x.1 x.2)
def N8:(List Aa)->Ex->St->Prop:=xX 0 1 (λ (y:(List Aa))=>Jdz y)
def If:((List Aa)×Int)->St:=(λ (x:((List Aa)×Int))=>Jdy p0_ x.1 x.2)
variable {p0_ out_24 y_2 out_25 out_26 x_16 out_27 out_28}
theorem M6 (x:((List Aa)×Int)) (z:(((List Aa)×Int)⊕(List Aa))) (H:El n p0_ y_2 x.1 x.2=some z):WP (cxk 56 0) (Ay Tryz.f105) [1,1,1,0,1,0,0,1,0,0,1,0,0] (Ax 0 (Ie p0_ y_2) (N7 p0_ y_2) z) (Ie p0_ y_2 x):=by
 obtain ⟨out_26,x_16⟩:=x
 refine sq (sr (ck 2 (en (cn H (λ H=>?_) (λ H=>?_)))))
 ·refine sk (qz (sj (λ (x:(List Aa))=>JdC p0_ y_2 x_16 x) (λ (x:(List Aa))=>Ek n x_16 x) z ?_ (λ hFR13_Points_J1=>?_)))
  ·intro out_28 H
   exact rz (ck 3 (ae (by cases H;exact og (sg [1,3,4,5]))))
  refine bk 4 (sr (ck 5 (en (sr (ck 3 (bx H λ r102 h243 H=>ca false (Pn h243) (ck 2 (gc 1 r102 (ck 1 (bx H λ r103 h244 H=>cG false (leZ) rfl (λ hg=>Rb (Bc h244 hg)) (Or.inl rfl) (Ca (λ hh=>hh) (Ca (λ hh=>hh) (Dd))) rfl (pA (en (cn H (λ H=>?_) (λ H=>?_))))))))))))))
  ·exact rz (ck 3 (bx H λ l24 h245 H=>sp (Bd Ab 1 2 h245) (ck 1 (ae (qN (qs (sg [1,3,4,5]) (hFR13_Points_J1 l24 H)))))))
  ·exact sk (qN (qs (sg [1,3,4,5]) (hFR13_Points_J1 out_26 H)))
 ·exact ex 3 (qx (by cases H;exact xo rfl (sg [1,3,4])))
theorem M7 (x:((List Aa)×Int)) (z:(((List Aa)×Int)⊕(List Aa))) (H:Em n p0_ x.1 x.2=some z):WP (cxk 56 0) (Ay Tryz.f105) [1,1,1,0,1,0,0] (Ax 0 (If p0_) (N8) z) (If p0_ x):=by
 obtain ⟨out_24,y_2⟩:=x
 refine sq (sr (ck 2 (en (cn H (λ H=>?_) (λ H=>?_)))))
 ·exact sk (qz (sq (bk 2 (sr (ck 1 (en (bk 3 (bx H λ y73 h246 H=>lX M6 h246 (sg [1,3,4,5]) rfl λ s hE54=>qH (qN (qs (hE54) (rz (ck 3 (ae (by cases H;exact og (sg [1,3,4])))))))))))))))
 ·exact ex 1 (qx (by cases H;exact xo rfl (sg [3])))
theorem Kj {z} (H:C6 n p0_=some z):Ap Tryz.prog 105 [.agg (Dx p0_)] (.d (.sl (z.map Ab))):=by
 refine fO 56 (Jdx p0_) Tryz.func105 (sr (ck 2 (en (sq (sr (ck 2 (en (bk 0 (sr (ck 2 (en (cn H (λ H=>?_) (λ H=>?_)))))))))))))
 ·exact sr (ck 3 (en (re (qR (qr (by cases H;exact pr rd))))))
 ·refine sr (ck 2 (en (cn H (λ H=>?_) (λ H=>?_))))
  ·exact sr (ck 4 (sp (Av Ab p0_.P) (ck 1 (bx H λ r99 h240 H=>ca false (LC h240) (bx H λ r100 h241 H=>cl [List.length r100] (Ki h241) (ck 1 (ae (qs (fz (enc:=Ab) (xs:=r100) 2 1 2) (re (qR (qr (by cases H;exact pr rd))))))))))))
  ·exact sk (qN (qz (sr (ck 4 (sp (Av Ab p0_.P) (bx H λ r101 h242 H=>cl [List.length r101] (LC h242) (ck 1 (en (sq (sr (ck 1 (en (bk 1 (bx H λ y74 h247 H=>lX M7 h247 (sg [1,3,4]) rfl λ s hE55=>qH (qs (hE55) (sr (ck 1 (bx H λ r104 h248 H=>cb (ks:=[0]) (obl:=[(0+List.length y74,List.length (y74.map Ab))]) (ls:=[List.length r104]) true (leK leM (leZ)) (CN Gv rfl) (Ki h248) (Or.inr (Jcw λ _=>rfl)) (Jki rfl) (ck 1 (ae (qs (fz (enc:=Ab) (xs:=r104) 2 1 2) (re (by cases H;exact pr rd)))))))))))))))))))))))
end
section
variable (p0_:(List Aa)) (p1_:Int) (p2_:Int) (i_18:Int)
def JdD:St:=⟨(0,.d (.sl (p0_.map Ab)))::(1,.d (.int .i64 p1_))::(2,.d (.int .i64 p2_))::[],[]⟩
def JdE:St:=⟨(0,.d (.sl (p0_.map Ab)))::(1,.d (.int .i64 p1_))::(2,.d (.int .i64 p2_))::(7,.d (.int .i64 i_18))::[],[]⟩
def JdF:St:=⟨[],[]⟩
def N9:(Unit⊕Bool)->Ex->St->Prop:=xS (xX 0 0 (λ (y:Unit)=>JdF)) (xR ty Tryz.f104 (λ (y:Bool)=>.d (.bool y)))
def Ig:Int->St:=(λ (x:Int)=>JdE p0_ p1_ p2_ x)
variable {p0_ p1_ p2_ i_18}
theorem Hs (x:Int) (z:(Int⊕(Unit⊕Bool))) (H:En n p0_ p1_ p2_ x=some z):WP (cxk 46 0) (Ay Tryz.f104) [1,0,1,0,0] (Ax 0 (Ig p0_ p1_ p2_) (N9) z) (Ig p0_ p1_ p2_ x):=by
 revert H
 generalize x=i_18
 intro H
 refine sq (sr (ck 2 (sp (Av Ab p0_) (ck 1 (en (cn H (λ H=>?_) (λ H=>?_)))))))
 ·refine sk (qz (sq (bk 1 (sr (ck 2 (bx H λ x60 h249 H=>sp (Am Ab h249) (ck 6 (bx H λ x61 h250 H=>sE (λ hg=>Am Ab (Bc h250 hg)) (gc 2 (!(decide (x60.X<0))) (ck 1 (gc 1 (!(decide (x60.X<0))) (pO (ck 3 (bx H λ x62 h251 H=>sE (λ hg=>Am Ab (Bc h251 hg)) (gc 3 (!((decide (x60.X<0))||(decide (x61.X>=p1_)))) (pO (ck 3 (bx H λ x63 h252 H=>sE (λ hg=>Am Ab (Bc h252 hg)) (gc 2 (!(((decide (x60.X<0))||(decide (x61.X>=p1_)))||(decide (x62.Y<0)))) (ck 1 (gc 1 (!(((decide (x60.X<0))||(decide (x61.X>=p1_)))||(decide (x62.Y<0)))) (pO (en (cn H (λ H=>?_) (λ H=>?_)))))))))))))))))))))))))
  ·exact sr (ck 1 (en (re (qR (qr (by cases H;exact ro rfl rd))))))
  ·exact sk (qN (qz (rz (ck 3 (ae (by cases H;exact og (sg [0,1,2,7])))))))
 ·exact ex 0 (qx (by cases H;exact xo rfl (sg [])))
theorem Rc {z} (H:J2 n p0_ p1_ p2_=some z):Ap Tryz.prog 104 [.d (.sl (p0_.map Ab)),.d (.int .i64 p1_),.d (.int .i64 p2_)] (.d (.bool z)):=by
 refine fO 46 (JdD p0_ p1_ p2_) Tryz.func104 (sr (ck 1 (en (sq (sr (ck 1 (en (bk 0 (bx H λ y75 h253 H=>?_)))))))))
 rcases y75 with y76|y77
 ·exact lX Hs h253 (sg [0,1,2,7]) rfl λ s hE56=>qH (qs (hE56) (sr (ck 1 (en (re (by cases H;exact pr rd))))))
 ·exact lR Hs h253 (sg [0,1,2,7]) rfl λ s hE57=>qR (qr (by cases H;exact pr hE57))
end
section
variable (p0_:Ae) (i_19:Int)
def Jhc:St:=⟨(0,.agg [.d (.int .i64 p0_.W),.d (.int .i64 p0_.H),.d (.int .i64 p0_.Gap),.d (.sl (p0_.F.map As))])::[],[]⟩
def Jhd:St:=⟨(1,.ptr 0 0)::(3,.d (.int .i64 i_19))::[],[some (.box (AF p0_))]⟩
def Jhe:St:=⟨[],[]⟩
def Po:(Unit⊕Bool)->Ex->St->Prop:=xS (xX 0 0 (λ (y:Unit)=>Jhe)) (xR ty Tryz.f93 (λ (y:Bool)=>.d (.bool y)))
def Jp:Int->St:=(λ (x:Int)=>Jhd p0_ x)
variable {p0_ i_19}
theorem Ih (x:Int) (z:(Int⊕(Unit⊕Bool))) (H:Ff n p0_ x=some z):WP (cxk 86 0) (Ay Tryz.f93) [1,1,0,1,0,0] (Ax 0 (Jp p0_) (Po) z) (Jp p0_ x):=by
 revert H
 generalize x=i_19
 intro H
 refine sq (sr (ck 3 (sp (Av As p0_.F) (ck 1 (en (cn H (λ H=>?_) (λ H=>?_)))))))
 ·refine sk (qz (sq (bk 1 (sr (ck 3 (bx H λ x64 h254 H=>sp (Am As h254) (ck 1 (bx H λ r105 h255 H=>ca false (RY h255) (ck 1 (en (sr (ck 4 (gc 1 (!(!r105)) (ck 1 (bx H λ x65 h256 H=>sE (λ hg=>Am As (Bc h256 hg)) (gc 1 (!(!r105)) (bx H λ r106 h257 H=>cG false (leZ) rfl (λ hg=>Kj (Bc h257 hg)) (Or.inl rfl) (Ca (λ hh=>hh) (Dd)) rfl (ck 1 (gc 1 (!(!r105)) (ck 1 (gc 1 (!(!r105)) (bx H λ r107 h258 H=>cG false (leZ) rfl (λ hg=>Rc (Bc h258 hg)) (Or.inl rfl) (Ca (λ hh=>hh) (Ca (λ hh=>hh) (Ca (λ hh=>hh) (Dd)))) rfl (gc 1 (!(!r105)) (pO (en (cn H (λ H=>?_) (λ H=>?_)))))))))))))))))))))))))))
  ·exact sr (ck 1 (en (re (qR (qr (by cases H;exact ro rfl rd))))))
  ·exact sk (qN (qz (rz (ck 3 (ae (by cases H;exact og (sg [1,3])))))))
 ·exact ex 0 (qx (by cases H;exact xo rfl (sg [])))
theorem LD {z} (H:E0 n p0_=some z):Ap Tryz.prog 93 [.agg (AF p0_)] (.d (.bool z)):=by
 refine fO 86 (Jhc p0_) Tryz.func93 (sr (ck 2 (en (sq (sr (ck 5 (gc 2 (!(decide (p0_.W<4))) (pO (ck 2 (gc 3 (!((decide (p0_.W<4))||(decide (p0_.W>60)))) (pO (ck 2 (gc 2 (!(((decide (p0_.W<4))||(decide (p0_.W>60)))||((Ah p0_.W 2) != 0))) (pO (ck 2 (gc 2 (!((((decide (p0_.W<4))||(decide (p0_.W>60)))||((Ah p0_.W 2) != 0))||(decide (p0_.H<3)))) (pO (ck 2 (gc 3 (!(((((decide (p0_.W<4))||(decide (p0_.W>60)))||((Ah p0_.W 2) != 0))||(decide (p0_.H<3)))||(decide (p0_.H>60)))) (pO (ck 2 (gc 2 (!((((((decide (p0_.W<4))||(decide (p0_.W>60)))||((Ah p0_.W 2) != 0))||(decide (p0_.H<3)))||(decide (p0_.H>60)))||((Ah p0_.H 3) != 0))) (pO (ck 2 (gc 2 (!(((((((decide (p0_.W<4))||(decide (p0_.W>60)))||((Ah p0_.W 2) != 0))||(decide (p0_.H<3)))||(decide (p0_.H>60)))||((Ah p0_.H 3) != 0))||(decide (p0_.Gap<2)))) (pO (ck 2 (gc 1 (!((((((((decide (p0_.W<4))||(decide (p0_.W>60)))||((Ah p0_.W 2) != 0))||(decide (p0_.H<3)))||(decide (p0_.H>60)))||((Ah p0_.H 3) != 0))||(decide (p0_.Gap<2)))||(decide (p0_.Gap>6)))) (sE (g:=(!((((((((decide (p0_.W<4))||(decide (p0_.W>60)))||((Ah p0_.W 2) != 0))||(decide (p0_.H<3)))||(decide (p0_.H>60)))||((Ah p0_.H 3) != 0))||(decide (p0_.Gap<2)))||(decide (p0_.Gap>6))))) (λ hg=>Av As p0_.F) (gc 1 (!((((((((decide (p0_.W<4))||(decide (p0_.W>60)))||((Ah p0_.W 2) != 0))||(decide (p0_.H<3)))||(decide (p0_.H>60)))||((Ah p0_.H 3) != 0))||(decide (p0_.Gap<2)))||(decide (p0_.Gap>6)))) (pO (ck 2 (gc 1 (!(((((((((decide (p0_.W<4))||(decide (p0_.W>60)))||((Ah p0_.W 2) != 0))||(decide (p0_.H<3)))||(decide (p0_.H>60)))||((Ah p0_.H 3) != 0))||(decide (p0_.Gap<2)))||(decide (p0_.Gap>6)))||(decide (((p0_.F.length:Nat):Int)<1)))) (sE (g:=(!(((((((((decide (p0_.W<4))||(decide (p0_.W>60)))||((Ah p0_.W 2) != 0))||(decide (p0_.H<3)))||(decide (p0_.H>60)))||((Ah p0_.H 3) != 0))||(decide (p0_.Gap<2)))||(decide (p0_.Gap>6)))||(decide (((p0_.F.length:Nat):Int)<1))))) (λ hg=>Av As p0_.F) (gc 1 (!(((((((((decide (p0_.W<4))||(decide (p0_.W>60)))||((Ah p0_.W 2) != 0))||(decide (p0_.H<3)))||(decide (p0_.H>60)))||((Ah p0_.H 3) != 0))||(decide (p0_.Gap<2)))||(decide (p0_.Gap>6)))||(decide (((p0_.F.length:Nat):Int)<1)))) (pO (en (cn H (λ H=>?_) (λ H=>?_)))))))))))))))))))))))))))))))))))))))
 ·exact sr (ck 1 (en (re (qr (by cases H;exact pr rd)))))
 ·refine sk (qz (sq (sr (ck 1 (en (bk 0 (bx H λ y78 h259 H=>?_)))))))
  rcases y78 with y79|y80
  ·exact lX Ih h259 (sg [1,3]) rfl λ s hE58=>qH (qs (hE58) (sr (ck 1 (en (re (by cases H;exact pr rd))))))
  ·exact lR Ih h259 (sg [1,3]) rfl λ s hE59=>qR (qr (by cases H;exact pr hE59))
end
section
variable (p0_:Ae) (out_29:(List (List Aa))) (i_20:Int) (out_30:(List (List Aa)))
def Jhf:St:=⟨(0,.agg [.d (.int .i64 p0_.W),.d (.int .i64 p0_.H),.d (.int .i64 p0_.Gap),.d (.sl (p0_.F.map As))])::[],[]⟩
def Jhg:St:=⟨(1,.ptr 0 0)::(3,.osl 1 1 0 (out_29.length))::(4,.d (.int .i64 i_20))::[],[some (.box (AF p0_)),some (.arr 1 (out_29.map (eL Ab)))]⟩
def Jhh:St:=⟨(3,.osl 0 1 0 (out_30.length))::[],[some (.arr 1 (out_30.map (eL Ab)))]⟩
def Oa:(List (List Aa))->Ex->St->Prop:=xX 0 0 (λ (y:(List (List Aa)))=>Jhh y)
def Ii:((List (List Aa))×Int)->St:=(λ (x:((List (List Aa))×Int))=>Jhg p0_ x.1 x.2)
variable {p0_ out_29 i_20 out_30}
theorem M8 (x:((List (List Aa))×Int)) (z:(((List (List Aa))×Int)⊕(List (List Aa)))) (H:Eo n p0_ x.1 x.2=some z):WP (cxk 23 0) (Ay Tryz.f94) [1,1,0,1,0,0] (Ax 0 (Ii p0_) (Oa) z) (Ii p0_ x):=by
 obtain ⟨out_29,i_20⟩:=x
 refine sq (sr (ck 3 (sp (Av As p0_.F) (ck 1 (en (cn H (λ H=>?_) (λ H=>?_)))))))
 ·exact sk (qz (sq (bk 1 (rz (ck 4 (bx H λ x66 h260 H=>sp (Am As h260) (ck 1 (bx H λ r108 h261 H=>ca false (Kj h261) (ck 1 (bx H λ l25 h262 H=>sp (Bd (eL Ab) 1 1 h262) (ck 1 (ae (qN (qz (rz (ck 3 (ae (by cases H;exact og (sg [1,3,4])))))))))))))))))))
 ·exact ex 0 (qx (by cases H;exact xo rfl (sg [3])))
theorem GN {z} (H:Fx n p0_=some z):Ap Tryz.prog 94 [.agg (AF p0_)] (.own 1 (z.map (eL Ab))):=by
 exact fO 23 (Jhf p0_) Tryz.func94 (sr (ck 2 (en (sr (ck 2 (en (sq (sr (ck 1 (en (bk 0 (bx H λ y81 h263 H=>lX M8 h263 (sg [1,3,4]) rfl λ s hE60=>qH (qs (hE60) (sr (ck 2 (en (re (by cases H;exact pr (rO (v:=.osl 0 1 0 (z.length)) [0] (ao vo))))))))))))))))))))
end
section
variable (p0_:(List Aa)) (p1_:(List Aa)) (out_31:Int) (i_21:Int) (out_32:Int) (out_33:Int) (k_12:Int) (out_34:Int) (out_35:Int)
def JdG:St:=⟨(0,.d (.sl (p0_.map Ab)))::(1,.d (.sl (p1_.map Ab)))::[],[]⟩
def JdH:St:=⟨(0,.d (.sl (p0_.map Ab)))::(1,.d (.sl (p1_.map Ab)))::(5,.d (.int .i64 out_31))::(6,.d (.int .i64 i_21))::[],[]⟩
def JdI:St:=⟨(5,.d (.int .i64 out_32))::[],[]⟩
def JdJ:St:=⟨(0,.d (.sl (p0_.map Ab)))::(1,.d (.sl (p1_.map Ab)))::(5,.d (.int .i64 out_33))::(6,.d (.int .i64 i_21))::(7,.d (.int .i64 k_12))::[],[]⟩
def JdK:St:=⟨(0,.d (.sl (p0_.map Ab)))::(1,.d (.sl (p1_.map Ab)))::(5,.d (.int .i64 out_34))::(6,.d (.int .i64 i_21))::[],[]⟩
def JdL:St:=⟨(0,.d (.sl (p0_.map Ab)))::(1,.d (.sl (p1_.map Ab)))::(5,.d (.int .i64 out_35))::(6,.d (.int .i64 i_21))::(7,.d (.int .i64 k_12))::[],[]⟩
def Ma:Int->Ex->St->Prop:=xX 0 2 (λ (y:Int)=>JdK p0_ p1_ i_21 y)
def GO:(Int×Int)->St:=(λ (x:(Int×Int))=>JdJ p0_ p1_ i_21 x.1 x.2)
def Mb:Int->Ex->St->Prop:=xX 0 0 (λ (y:Int)=>JdI y)
def GP:(Int×Int)->St:=(λ (x:(Int×Int))=>JdH p0_ p1_ x.1 x.2)
variable {p0_ p1_ out_31 i_21 out_32 out_33 k_12 out_34 out_35}
theorem K4 (x:(Int×Int)) (z:((Int×Int)⊕Int)) (H:B2 n p0_ p1_ i_21 x.1 x.2=some z):WP (cxk 39 0) (Ay Tryz.f106) [1,1,0,1,0,0,1,0,0,1,0,0] (Ax 0 (GO p0_ p1_ i_21) (Ma p0_ p1_ i_21) z) (GO p0_ p1_ i_21 x):=by
 obtain ⟨out_33,k_12⟩:=x
 refine sq (sr (ck 2 (sp (Av Ab p1_) (ck 1 (en (cn H (λ H=>?_) (λ H=>?_)))))))
 ·refine sk (qz (sj (λ (x:Int)=>JdL p0_ p1_ i_21 k_12 x) (λ (x:Int)=>Cw n k_12 x) z ?_ (λ hFR12_Distance_J1=>?_)))
  ·intro out_35 H
   exact rz (ck 3 (ae (by cases H;exact og (sg [0,1,5,6,7]))))
  refine bk 3 (sr (ck 2 (bx H λ x67 h264 H=>sp (Am Ab h264) (ck 3 (bx H λ x68 h265 H=>sp (Am Ab h265) (ck 1 (bx H λ r109 h266 H=>ca true (O6 h266) (ck 1 (en (sr (ck 5 (gc 1 (!(decide (out_33<0))) (pO (en (cn H (λ H=>?_) (λ H=>?_))))))))))))))))
  ·exact rz (ck 2 (ae (qN (qs (sg [0,1,5,6,7]) (hFR12_Distance_J1 r109 H)))))
  ·exact sk (qN (qs (sg [0,1,5,6,7]) (hFR12_Distance_J1 out_33 H)))
 ·exact ex 2 (qx (by cases H;exact xo rfl (sg [0,1,5,6])))
theorem K5 (x:(Int×Int)) (z:((Int×Int)⊕Int)) (H:B3 n p0_ p1_ x.1 x.2=some z):WP (cxk 39 0) (Ay Tryz.f106) [1,1,0,1,0,0] (Ax 0 (GP p0_ p1_) (Mb) z) (GP p0_ p1_ x):=by
 obtain ⟨out_31,i_21⟩:=x
 refine sq (sr (ck 2 (sp (Av Ab p0_) (ck 1 (en (cn H (λ H=>?_) (λ H=>?_)))))))
 ·exact sk (qz (sq (bk 1 (sr (ck 1 (en (bk 2 (bx H λ y82 h267 H=>lX K4 h267 (sg [0,1,5,6,7]) rfl λ s hE61=>qH (qN (qs (hE61) (rz (ck 3 (ae (by cases H;exact og (sg [0,1,5,6])))))))))))))))
 ·exact ex 0 (qx (by cases H;exact xo rfl (sg [5])))
theorem B6 {z} (H:Bz n p0_ p1_=some z):Ap Tryz.prog 106 [.d (.sl (p0_.map Ab)),.d (.sl (p1_.map Ab))] (.d (.int .i64 z)):=by
 exact fO 39 (JdG p0_ p1_) Tryz.func106 (sr (ck 1 (en (sr (ck 1 (en (sq (sr (ck 1 (en (bk 0 (bx H λ y83 h268 H=>lX K5 h268 (sg [0,1,5,6]) rfl λ s hE62=>qH (qs (hE62) (sr (ck 2 (en (re (by cases H;exact pr rd))))))))))))))))))
end
section
variable (p0_:Ae) (r111:(List (List Aa))) (out_36:(List (List Int))) (i_22:Int) (out_37:(List (List Int))) (row_1:(List Int)) (k_13:Int) (row_2:(List Int))
def Jhi:St:=⟨(0,.agg [.d (.int .i64 p0_.W),.d (.int .i64 p0_.H),.d (.int .i64 p0_.Gap),.d (.sl (p0_.F.map As))])::[],[]⟩
def Jhj:St:=⟨(3,.osl 0 1 0 (out_36.length))::(4,.d (.sl (r111.map (eL Ab))))::(5,.d (.int .i64 i_22))::[],[some (.arr 1 (out_36.map (eL A9)))]⟩
def Jhk:St:=⟨(3,.osl 0 1 0 (out_37.length))::[],[some (.arr 1 (out_37.map (eL A9)))]⟩
def Jhl:St:=⟨(3,.osl 0 1 0 (out_36.length))::(4,.d (.sl (r111.map (eL Ab))))::(5,.d (.int .i64 i_22))::(6,.osl 1 1 0 (row_1.length))::(7,.d (.int .i64 k_13))::[],[some (.arr 1 (out_36.map (eL A9))),some (.arr 1 (row_1.map A9))]⟩
def Jhm:St:=⟨(3,.osl 0 1 0 (out_36.length))::(4,.d (.sl (r111.map (eL Ab))))::(5,.d (.int .i64 i_22))::(6,.osl 1 1 0 (row_2.length))::[],[some (.arr 1 (out_36.map (eL A9))),some (.arr 1 (row_2.map A9))]⟩
def K6:(List Int)->Ex->St->Prop:=xX 0 2 (λ (y:(List Int))=>Jhm r111 out_36 i_22 y)
def FQ:((List Int)×Int)->St:=(λ (x:((List Int)×Int))=>Jhl r111 out_36 i_22 x.1 x.2)
def K7:(List (List Int))->Ex->St->Prop:=xX 0 0 (λ (y:(List (List Int)))=>Jhk y)
def FR:((List (List Int))×Int)->St:=(λ (x:((List (List Int))×Int))=>Jhj r111 x.1 x.2)
variable {p0_ r111 out_36 i_22 out_37 row_1 k_13 row_2}
theorem Kk (x:((List Int)×Int)) (z:(((List Int)×Int)⊕(List Int))) (H:C0 n r111 out_36 i_22 x.1 x.2=some z):WP (cxk 44 0) (Ay Tryz.f95) [1,1,1,0,1,0,0,1,0,0,1,0,1,0,0] (Ax 0 (FQ r111 out_36 i_22) (K6 r111 out_36 i_22) z) (FQ r111 out_36 i_22 x):=by
 obtain ⟨row_1,k_13⟩:=x
 refine sq (sr (ck 2 (sp (Av (eL Ab) r111) (ck 1 (en (cn H (λ H=>?_) (λ H=>?_)))))))
 ·exact sk (qz (sq (bk 3 (rz (ck 3 (bx H λ x69 h271 H=>sp (Am (eL Ab) h271) (ck 3 (bx H λ x70 h272 H=>sp (Am (eL Ab) h272) (ck 1 (bx H λ r112 h273 H=>ca false (B6 h273) (ck 1 (bx H λ l26 h274 H=>sp (Bd A9 1 1 h274) (ck 1 (ae (qN (qz (rz (ck 3 (ae (by cases H;exact og (sg [3,4,5,6,7])))))))))))))))))))))
 ·exact ex 2 (qx (by cases H;exact xo rfl (sg [3,4,5,6])))
theorem Kl (x:((List (List Int))×Int)) (z:(((List (List Int))×Int)⊕(List (List Int)))) (H:C1 n r111 x.1 x.2=some z):WP (cxk 44 0) (Ay Tryz.f95) [1,1,1,0,1,0,0] (Ax 0 (FR r111) (K7) z) (FR r111 x):=by
 obtain ⟨out_36,i_22⟩:=x
 refine sq (sr (ck 2 (sp (Av (eL Ab) r111) (ck 1 (en (cn H (λ H=>?_) (λ H=>?_)))))))
 ·exact sk (qz (sq (bk 1 (sr (ck 2 (en (sq (sr (ck 1 (en (bk 2 (bx H λ y84 h275 H=>lX Kk h275 (sg [3,4,5,6,7]) rfl λ s hE63=>qH (qs (hE63) (rg (fz (enc:=A9) (xs:=y84) 6 1 1) (ck 3 (bx H λ l27 h276 H=>sp (Bd (eL A9) 0 1 h276) (ck 1 (ae (qN (qz (rz (ck 3 (ae (by cases H;exact og (sg [3,4,5])))))))))))))))))))))))))
 ·exact ex 0 (qx (by cases H;exact xo rfl (sg [3])))
theorem M9 {z} (H:GH n p0_=some z):Ap Tryz.prog 95 [.agg (AF p0_)] (.own 1 (z.map (eL A9))):=by
 refine fO 44 (Jhi p0_) Tryz.func95 (sr (ck 2 (en (sq (sr (ck 1 (bx H λ r110 h269 H=>ca false (LD h269) (ck 1 (en (cn H (λ H=>?_) (λ H=>?_)))))))))))
 ·exact sr (ck 1 (en (re (qr (by cases H;exact pr (rO (v:=.d (.nil)) [] (ad vz)))))))
 ·exact sk (qz (sr (ck 2 (bx H λ r111 h270 H=>ca false (GN h270) (ck 2 (en (sq (sr (ck 1 (en (bk 0 (bx H λ y85 h277 H=>lX Kl h277 (sg [3,4,5]) rfl λ s hE64=>qH (qs (hE64) (sr (ck 2 (en (re (by cases H;exact pr (rO (v:=.osl 0 1 0 (z.length)) [0] (ao vo))))))))))))))))))))
end
section
variable (p0_:(List Aa)) (p1_:Aa) (i_23:Int)
def JdM:St:=⟨(0,.d (.sl (p0_.map Ab)))::(1,.agg [.d (.int .i64 p1_.X),.d (.int .i64 p1_.Y)])::[],[]⟩
def JdN:St:=⟨(0,.d (.sl (p0_.map Ab)))::(3,.ptr 0 0)::(5,.d (.int .i64 i_23))::[],[some (.box [.d (.int .i64 p1_.X),.d (.int .i64 p1_.Y)])]⟩
def JdO:St:=⟨[],[]⟩
def RZ:(Unit⊕Bool)->Ex->St->Prop:=xS (xX 0 0 (λ (y:Unit)=>JdO)) (xR ty Tryz.f108 (λ (y:Bool)=>.d (.bool y)))
def LE:Int->St:=(λ (x:Int)=>JdN p0_ p1_ x)
variable {p0_ p1_ i_23}
theorem Km (x:Int) (z:(Int⊕(Unit⊕Bool))) (H:Hj n p0_ p1_ x=some z):WP (cxk 18 0) (Ay Tryz.f108) [1,0,1,0,0] (Ax 0 (LE p0_ p1_) (RZ) z) (LE p0_ p1_ x):=by
 revert H
 generalize x=i_23
 intro H
 refine sq (sr (ck 2 (sp (Av Ab p0_) (ck 1 (en (cn H (λ H=>?_) (λ H=>?_)))))))
 ·refine sk (qz (sq (bk 1 (sr (ck 2 (bx H λ x71 h278 H=>sp (Am Ab h278) (ck 3 (en (cn H (λ H=>?_) (λ H=>?_))))))))))
  ·exact sr (ck 1 (en (re (qR (qr (by cases H;exact ro rfl rd))))))
  ·exact sk (qN (qz (rz (ck 3 (ae (by cases H;exact og (sg [0,3,5])))))))
 ·exact ex 0 (qx (by cases H;exact xo rfl (sg [])))
theorem Kn {z} (H:J3 n p0_ p1_=some z):Ap Tryz.prog 108 [.d (.sl (p0_.map Ab)),.agg [.d (.int .i64 p1_.X),.d (.int .i64 p1_.Y)]] (.d (.bool z)):=by
 refine fO 18 (JdM p0_ p1_) Tryz.func108 (sr (ck 2 (en (sq (sr (ck 1 (en (bk 0 (bx H λ y86 h279 H=>?_)))))))))
 rcases y86 with y87|y88
 ·exact lX Km h279 (sg [0,3,5]) rfl λ s hE65=>qH (qs (hE65) (sr (ck 1 (en (re (by cases H;exact pr rd))))))
 ·exact lR Km h279 (sg [0,3,5]) rfl λ s hE66=>qR (qr (by cases H;exact pr hE66))
end
section
variable (p0_:Aa) (p1_:Aa)
def JdP:St:=⟨(0,.agg [.d (.int .i64 p0_.X),.d (.int .i64 p0_.Y)])::(1,.agg [.d (.int .i64 p1_.X),.d (.int .i64 p1_.Y)])::[],[]⟩
variable {p0_ p1_}
theorem Re {z} (H:O3 n p0_ p1_=some z):Ap Tryz.prog 119 [.agg [.d (.int .i64 p0_.X),.d (.int .i64 p0_.Y)],.agg [.d (.int .i64 p1_.X),.d (.int .i64 p1_.Y)]] (.d (.bool z)):=by
 exact fO 24 (JdP p0_ p1_) Tryz.func119 (sr (ck 3 (en (sr (ck 7 (gc 1 (!(decide (p0_.Y<p1_.Y))) (ck 1 (gc 3 (!(decide (p0_.Y<p1_.Y))) (ck 1 (gc 1 ((!(decide (p0_.Y<p1_.Y)))&&(p0_.Y==p1_.Y)) (ck 1 (gc 2 ((!(decide (p0_.Y<p1_.Y)))&&(p0_.Y==p1_.Y)) (pG (g:=(!(decide (p0_.Y<p1_.Y)))) (v:=.d (.bool ((p0_.Y==p1_.Y)&&(decide (p0_.X<p1_.X))))) (λ hg=>De (c:=.gv (!(decide (p0_.Y<p1_.Y))) (.d (.bool (p0_.Y==p1_.Y)))) (a:=.gv ((!(decide (p0_.Y<p1_.Y)))&&(p0_.Y==p1_.Y)) (.d (.bool (decide (p0_.X<p1_.X))))) (b:=.d (.bool false)) rfl rfl rfl ((λ hh=>hh) hg) (λ ht=>by rw [(λ hh=>hh) hg,ht];rfl) trivial) (pO (ck 1 (en (re (by cases H;exact pr rd))))))))))))))))))
end
section
variable (p0_:(List Aa)) (out_38:(List Aa)) (i_24:Int) (out_39:(List Aa)) (out_40:(List Aa)) (at_2:Int) (at_3:Int)
def JdQ:St:=⟨(0,.d (.sl (p0_.map Ab)))::[],[]⟩
def JdR:St:=⟨(0,.d (.sl (p0_.map Ab)))::(3,.osl 0 2 0 (out_38.length))::(4,.d (.int .i64 i_24))::[],[some (.arr 2 (out_38.map Ab))]⟩
def JdS:St:=⟨(3,.osl 0 2 0 (out_39.length))::[],[some (.arr 2 (out_39.map Ab))]⟩
def JdT:St:=⟨(0,.d (.sl (p0_.map Ab)))::(3,.osl 0 2 0 (out_40.length))::(4,.d (.int .i64 i_24))::[],[some (.arr 2 (out_40.map Ab))]⟩
def JdU:St:=⟨(0,.d (.sl (p0_.map Ab)))::(3,.osl 0 2 0 (out_38.length))::(4,.d (.int .i64 i_24))::(5,.d (.int .i64 at_2))::[],[some (.arr 2 (out_38.map Ab))]⟩
def JdV:St:=⟨(0,.d (.sl (p0_.map Ab)))::(3,.osl 0 2 0 (out_38.length))::(4,.d (.int .i64 i_24))::(5,.d (.int .i64 at_3))::[],[some (.arr 2 (out_38.map Ab))]⟩
def Oc:Int->Ex->St->Prop:=xX 0 2 (λ (y:Int)=>JdV p0_ out_38 i_24 y)
def Ij:Int->St:=(λ (x:Int)=>JdU p0_ out_38 i_24 x)
def Od:(List Aa)->Ex->St->Prop:=xX 0 0 (λ (y:(List Aa))=>JdS y)
def Ik:((List Aa)×Int)->St:=(λ (x:((List Aa)×Int))=>JdR p0_ x.1 x.2)
variable {p0_ out_38 i_24 out_39 out_40 at_2 at_3}
theorem Na (x:Int) (z:(Int⊕Int)) (H:GJ n p0_ out_38 i_24 x=some z):WP (cxk 56 0) (Ay Tryz.f107) [1,1,0,1,0,0,1,0,0,1,1,0,0,0] (Ax 0 (Ij p0_ out_38 i_24) (Oc p0_ out_38 i_24) z) (Ij p0_ out_38 i_24 x):=by
 revert H
 generalize x=at_2
 intro H
 refine sq (sr (ck 5 (bx H λ x73 h282 H=>sE (λ hg=>Am Ab (Bc h282 hg)) (gc 1 (decide (at_2>0)) (ck 2 (gc 1 (decide (at_2>0)) (bx H λ x74 h283 H=>sE (λ hg=>Bi 0 2 (Bc h283 hg)) (sE (g:=decide (at_2>0)) (λ hg=>B9 Ab 0 0 (ty 124) (Bc h283 hg)) (bx H λ r114 h284 H=>cG false (leZ) rfl (λ hg=>Re (Bc h284 hg)) (Or.inl rfl) (Ca (λ hh=>hh) (Ca (λ hh=>hh) (Dd))) rfl (pA (en (cn H (λ H=>?_) (λ H=>?_)))))))))))))
 ·exact sk (qz (bk 3 (rz (ck 3 (ae (qN (by cases H;exact og (sg [0,3,4,5]))))))))
 ·exact ex 2 (qx (by cases H;exact xo rfl (sg [0,3,4,5])))
theorem Nb (x:((List Aa)×Int)) (z:(((List Aa)×Int)⊕(List Aa))) (H:Ep n p0_ x.1 x.2=some z):WP (cxk 56 0) (Ay Tryz.f107) [1,1,0,1,0,0] (Ax 0 (Ik p0_) (Od) z) (Ik p0_ x):=by
 obtain ⟨out_38,i_24⟩:=x
 refine sq (sr (ck 2 (sp (Av Ab p0_) (ck 1 (en (cn H (λ H=>?_) (λ H=>?_)))))))
 ·refine sk (qz (sj (λ (x:(List Aa))=>JdT p0_ i_24 x) (λ (x:(List Aa))=>GI n i_24 x) z ?_ (λ hFR12_Sorted_J1=>?_)))
  ·intro out_40 H
   exact rz (ck 3 (ae (by cases H;exact og (sg [0,3,4]))))
  refine bk 1 (sq (sr (ck 3 (bx H λ x72 h280 H=>sp (Am Ab h280) (ck 1 (bx H λ r113 h281 H=>cb (ks:=[0]) (obl:=[(0+List.length out_38,List.length (out_38.map Ab))]) false (leK leM (leZ)) (CN Gv (CN rfl rfl)) (Kn h281) (Or.inr trivial) rfl (en (cn H (λ H=>?_) (λ H=>?_)))))))))
  ·exact ex 1 (qx (qH (qs (sg [0,3,4]) (hFR12_Sorted_J1 out_38 H))))
  ·exact sk (qz (sr (ck 3 (en (sq (bk 2 (bx H λ y89 h285 H=>lX Na h285 (sg [0,3,4,5]) rfl λ s hE67=>qH (qs (hE67) (sr (ck 3 (bx H λ l28 h286 H=>sp (LU 0 2 h286) (bx H λ l29 h287 H=>sp (JcA Ab 1 2 (PJ h286) (Tk (enc:=Ab) h286) h287) (ck 1 (en (sr (ck 2 (bx H λ l30 h288 H=>sp (LU 0 2 h288) (ck 2 (bx H λ x75 h289 H=>sp (Am Ab h289) (ck 2 (bx H λ l31 h290 H=>sp (JcB Ab 0 2 (PJ h288) (Tk (enc:=Ab) h288) (Xn h288) Gu (leM (enc:=Ab) (xs:=[x75])) h290) (ck 1 (en (rz (ck 2 (bx H λ l32 h291 H=>sp (Bd Ab 4 2 h291) (ck 1 (ae (qN (qs (sg [0,3,4]) (hFR12_Sorted_J1 l32 H)))))))))))))))))))))))))))))))
 ·exact ex 0 (qx (by cases H;exact xo rfl (sg [3])))
theorem Ko {z} (H:Hk n p0_=some z):Ap Tryz.prog 107 [.d (.sl (p0_.map Ab))] (.own 2 (z.map Ab)):=by
 exact fO 56 (JdQ p0_) Tryz.func107 (sr (ck 1 (en (sr (ck 2 (en (sq (sr (ck 1 (en (bk 0 (bx H λ y90 h292 H=>lX Nb h292 (sg [0,3,4]) rfl λ s hE68=>qH (qs (hE68) (sr (ck 2 (en (re (by cases H;exact pr (rO (v:=.osl 0 2 0 (z.length)) [0] (ao vo))))))))))))))))))))
end
end Go.AI
end
section
namespace Go.AI
open Go.Proofs
set_option maxRecDepth 10000
variable {n:Nat}
section
variable (p0_:(List Aa)) (p1_:Int) (rest_1:(List Aa)) (out_41:(List (List Aa))) (out_42:(List (List Aa))) (one_1:(List Aa)) (grown_1:Bool) (one_2:(List Aa)) (one_3:(List Aa)) (grown_2:Bool) (i_25:Int) (one_4:(List Aa)) (grown_3:Bool) (one_5:(List Aa)) (grown_4:Bool) (y92:(List Aa)) (left_1:(List Aa)) (i_26:Int) (left_2:(List Aa)) (left_3:(List Aa))
def Jhn:St:=⟨(0,.d (.sl (p0_.map Ab)))::(1,.d (.int .i64 p1_))::[],[]⟩
def Jho:St:=⟨(1,.d (.int .i64 p1_))::(5,.osl 0 2 0 (rest_1.length))::(6,.osl 1 1 0 (out_41.length))::[],[some (.arr 2 (rest_1.map Ab)),some (.arr 1 (out_41.map (eL Ab)))]⟩
def Jhp:St:=⟨(6,.osl 0 1 0 (out_42.length))::[],[some (.arr 1 (out_42.map (eL Ab)))]⟩
def Jhq:St:=⟨(1,.d (.int .i64 p1_))::(5,.osl 0 2 0 (rest_1.length))::(6,.osl 1 1 0 (out_41.length))::(7,.osl 2 2 0 (one_1.length))::(8,.d (.bool grown_1))::[],[some (.arr 2 (rest_1.map Ab)),some (.arr 1 (out_41.map (eL Ab))),some (.arr 2 (one_1.map Ab))]⟩
def Jhr:St:=⟨(1,.d (.int .i64 p1_))::(5,.osl 0 2 0 (rest_1.length))::(6,.osl 1 1 0 (out_41.length))::(7,.osl 2 2 0 (one_2.length))::[],[some (.arr 2 (rest_1.map Ab)),some (.arr 1 (out_41.map (eL Ab))),some (.arr 2 (one_2.map Ab))]⟩
def Jhs:St:=⟨(1,.d (.int .i64 p1_))::(5,.osl 0 2 0 (rest_1.length))::(6,.osl 1 1 0 (out_41.length))::(7,.osl 2 2 0 (one_3.length))::(8,.d (.bool grown_2))::(9,.d (.int .i64 i_25))::[],[some (.arr 2 (rest_1.map Ab)),some (.arr 1 (out_41.map (eL Ab))),some (.arr 2 (one_3.map Ab))]⟩
def Jht:St:=⟨(1,.d (.int .i64 p1_))::(5,.osl 0 2 0 (rest_1.length))::(6,.osl 1 1 0 (out_41.length))::(7,.osl 2 2 0 (one_4.length))::(8,.d (.bool grown_3))::[],[some (.arr 2 (rest_1.map Ab)),some (.arr 1 (out_41.map (eL Ab))),some (.arr 2 (one_4.map Ab))]⟩
def Jhu:St:=⟨(1,.d (.int .i64 p1_))::(5,.osl 0 2 0 (rest_1.length))::(6,.osl 1 1 0 (out_41.length))::(7,.osl 2 2 0 (one_5.length))::(8,.d (.bool grown_4))::(9,.d (.int .i64 i_25))::[],[some (.arr 2 (rest_1.map Ab)),some (.arr 1 (out_41.map (eL Ab))),some (.arr 2 (one_5.map Ab))]⟩
def Mc:((List Aa)×Bool)->Ex->St->Prop:=xX 0 4 (λ (y:((List Aa)×Bool))=>Jht p1_ rest_1 out_41 y.1 y.2)
def GQ:((List Aa)×Bool×Int)->St:=(λ (x:((List Aa)×Bool×Int))=>Jhs p1_ rest_1 out_41 x.1 x.2.1 x.2.2)
def Md:(List Aa)->Ex->St->Prop:=xX 0 2 (λ (y:(List Aa))=>Jhr p1_ rest_1 out_41 y)
def GS:((List Aa)×Bool)->St:=(λ (x:((List Aa)×Bool))=>Jhq p1_ rest_1 out_41 x.1 x.2)
def Jhv:St:=⟨(1,.d (.int .i64 p1_))::(5,.osl 0 2 0 (rest_1.length))::(6,.osl 1 1 0 (out_41.length))::(7,.osl 2 2 0 (y92.length))::(10,.osl 3 2 0 (left_1.length))::(11,.d (.int .i64 i_26))::[],[some (.arr 2 (rest_1.map Ab)),some (.arr 1 (out_41.map (eL Ab))),some (.arr 2 (y92.map Ab)),some (.arr 2 (left_1.map Ab))]⟩
def JdW:St:=⟨(1,.d (.int .i64 p1_))::(6,.osl 0 1 0 (out_41.length))::(7,.osl 1 2 0 (y92.length))::(10,.osl 2 2 0 (left_2.length))::[],[some (.arr 1 (out_41.map (eL Ab))),some (.arr 2 (y92.map Ab)),some (.arr 2 (left_2.map Ab))]⟩
def JdX:St:=⟨(1,.d (.int .i64 p1_))::(5,.osl 0 2 0 (rest_1.length))::(6,.osl 1 1 0 (out_41.length))::(7,.osl 2 2 0 (y92.length))::(10,.osl 3 2 0 (left_3.length))::(11,.d (.int .i64 i_26))::[],[some (.arr 2 (rest_1.map Ab)),some (.arr 1 (out_41.map (eL Ab))),some (.arr 2 (y92.map Ab)),some (.arr 2 (left_3.map Ab))]⟩
def Me:(List Aa)->Ex->St->Prop:=xX 0 6 (λ (y:(List Aa))=>JdW p1_ out_41 y92 y)
def GT:((List Aa)×Int)->St:=(λ (x:((List Aa)×Int))=>Jhv p1_ rest_1 out_41 y92 x.1 x.2)
def Mf:(List (List Aa))->Ex->St->Prop:=xX 0 0 (λ (y:(List (List Aa)))=>Jhp y)
def GU:((List Aa)×(List (List Aa)))->St:=(λ (x:((List Aa)×(List (List Aa))))=>Jho p1_ x.1 x.2)
variable {p0_ p1_ rest_1 out_41 out_42 one_1 grown_1 one_2 one_3 grown_2 i_25 one_4 grown_3 one_5 grown_4 y92 left_1 i_26 left_2 left_3}
theorem K8 (x:((List Aa)×Bool×Int)) (z:(((List Aa)×Bool×Int)⊕((List Aa)×Bool))) (H:Dk n p1_ rest_1 out_41 x.1 x.2.1 x.2.2=some z):WP (cxk 82 0) (Ay Tryz.f96) [1,1,0,0,0,1,0,1,0,1,0,0,1,0,1,1,0,0] (Ax 0 (GQ p1_ rest_1 out_41) (Mc p1_ rest_1 out_41) z) (GQ p1_ rest_1 out_41 x):=by
 obtain ⟨one_3,grown_2,i_25⟩:=x
 refine sq (sr (ck 4 (en (cn H (λ H=>?_) (λ H=>?_)))))
 ·refine sk (qz (sj (λ (x:((List Aa)×Bool))=>Jhu p1_ rest_1 out_41 i_25 x.1 x.2) (λ (x:((List Aa)×Bool))=>E1 n i_25 x.1 x.2) z ?_ (λ hFR12_Clusters_J1=>?_)))
  ·rintro ⟨one_5,grown_4⟩ H
   exact rz (ck 3 (ae (by cases H;exact og (sg [1,5,6,7,8,9]))))
  refine bk 5 (sr (ck 3 (bx H λ x77 h295 H=>sp (Bi 0 2 h295) (sp (B9 Ab 0 0 (ty 124) h295) (bx H λ r116 h296 H=>cb (ks:=[2]) (obl:=[(0+List.length one_3,List.length (one_3.map Ab))]) false (leK leM (leZ)) (CN Gv (CN rfl rfl)) (Kn h296) (Or.inr trivial) rfl (ck 6 (gc 1 (!r116) (bx H λ l33 h297 H=>sE (λ hg=>LU 0 2 (Bc h297 hg)) (bx H λ r117 h298 H=>cGg (ks:=[2,0]) (obl:=[(0+List.length one_3,List.length (one_3.map Ab)),((0+Int.toNat i_25)+(Int.toNat (Ai .i64 i_25 1)-Int.toNat i_25),List.length (rest_1.map Ab))]) false (λ hg=>leK leM (leK (Tk (enc:=Ab) (Bc h297 hg)) (leZ))) (λ hg=>(CN Gv (CN (Jjg (PJ (Bc h297 hg))) rfl))) (λ hg=>B6 (Bc h298 hg)) (Or.inr trivial) (Ca (λ hh=>hh) (Ca (λ hh=>hh) (Dd))) rfl (ck 1 (gc 1 (!r116) (pA (en (cn H (λ H=>?_) (λ H=>?_)))))))))))))))
  ·exact sr (ck 3 (bx H λ x78 h299 H=>sp (Bi 0 2 h299) (sp (B9 Ab 0 0 (ty 124) h299) (ck 1 (bx H λ l34 h300 H=>sp (Bd Ab 2 2 h300) (ck 1 (en (rz (ck 1 (ae (qN (qs (sg [1,5,6,7,8,9]) (hFR12_Clusters_J1 (l34,true) H)))))))))))))
  ·exact sk (qN (qs (sg [1,5,6,7,8,9]) (hFR12_Clusters_J1 (one_3,grown_2) H)))
 ·exact ex 4 (qx (by cases H;exact xo rfl (sg [1,5,6,7,8])))
theorem K9 (x:((List Aa)×Bool)) (z:(((List Aa)×Bool)⊕(List Aa))) (H:E2 n p1_ rest_1 out_41 x.1 x.2=some z):WP (cxk 82 0) (Ay Tryz.f96) [1,1,0,0,0,1,0,1,0,1,0,0] (Ax 0 (GS p1_ rest_1 out_41) (Md p1_ rest_1 out_41) z) (GS p1_ rest_1 out_41 x):=by
 obtain ⟨one_1,grown_1⟩:=x
 refine sq (sr (ck 1 (en (cn H (λ H=>?_) (λ H=>?_)))))
 ·exact sk (qz (bk 3 (sr (ck 1 (en (sr (ck 1 (en (bk 4 (bx H λ y91 h301 H=>lX K8 h301 (sg [1,5,6,7,8,9]) rfl λ s hE69=>qH (qN (by cases H;exact og (tr (hE69) (sg [1,5,6,7,8]))))))))))))))
 ·exact ex 2 (qx (by cases H;exact xo rfl (sg [1,5,6,7])))
theorem La (x:((List Aa)×Int)) (z:(((List Aa)×Int)⊕(List Aa))) (H:Dl n p1_ rest_1 out_41 y92 x.1 x.2=some z):WP (cxk 82 0) (Ay Tryz.f96) [1,1,0,0,0,1,0,1,1,1,0,1,0,0] (Ax 0 (GT p1_ rest_1 out_41 y92) (Me p1_ out_41 y92) z) (GT p1_ rest_1 out_41 y92 x):=by
 obtain ⟨left_1,i_26⟩:=x
 refine sq (sr (ck 4 (en (cn H (λ H=>?_) (λ H=>?_)))))
 ·refine sk (qz (sj (λ (x:(List Aa))=>JdX p1_ rest_1 out_41 y92 i_26 x) (λ (x:(List Aa))=>E3 n i_26 x) z ?_ (λ hFR12_Clusters_J2=>?_)))
  ·intro left_3 H
   exact rz (ck 3 (ae (by cases H;exact og (sg [1,5,6,7,10,11]))))
  refine bk 7 (sr (ck 3 (bx H λ x79 h303 H=>sp (Bi 0 2 h303) (sp (B9 Ab 0 0 (ty 124) h303) (bx H λ r118 h304 H=>cb (ks:=[2]) (obl:=[(0+List.length y92,List.length (y92.map Ab))]) false (leK leM (leZ)) (CN Gv (CN rfl rfl)) (Kn h304) (Or.inr trivial) rfl (ck 1 (en (cn H (λ H=>?_) (λ H=>?_)))))))))
  ·exact rz (ck 3 (bx H λ x80 h305 H=>sp (Bi 0 2 h305) (sp (B9 Ab 0 0 (ty 124) h305) (ck 1 (bx H λ l35 h306 H=>sp (Bd Ab 3 2 h306) (ck 1 (ae (qN (qs (sg [1,5,6,7,10,11]) (hFR12_Clusters_J2 l35 H))))))))))
  ·exact sk (qN (qs (sg [1,5,6,7,10,11]) (hFR12_Clusters_J2 left_1 H)))
 ·exact ex 6 (qx (by cases H;exact xo rfl (sg [1,6,7,10])))
theorem Lc (x:((List Aa)×(List (List Aa)))) (z:(((List Aa)×(List (List Aa)))⊕(List (List Aa)))) (H:E4 n p1_ x.1 x.2=some z):WP (cxk 82 0) (Ay Tryz.f96) [1,1,0,0,0] (Ax 0 (GU p1_) (Mf) z) (GU p1_ x):=by
 obtain ⟨rest_1,out_41⟩:=x
 refine sq (sr (ck 3 (en (cn H (λ H=>?_) (λ H=>?_)))))
 ·exact sk (qz (bk 1 (sr (ck 1 (bx H λ x76 h294 H=>sp (Bi 0 2 h294) (sp (B9 Ab 0 0 (ty 124) h294) (ck 2 (en (sq (sr (ck 1 (en (bk 2 (bx H λ y92 h302 H=>lX K9 h302 (sg [1,5,6,7,8]) rfl λ s hE70=>qH (qs (hE70) (sr (ck 2 (en (sq (sr (ck 1 (en (bk 6 (bx H λ y93 h307 H=>lX La h307 (sg [1,5,6,7,10,11]) rfl λ s hE71=>qH (qs (hE71) (rz (ck 3 (bx H λ r119 h308 H=>cb (ks:=[1]) (obl:=[(0+List.length y92,List.length (y92.map Ab))]) false (leK leM (leZ)) (CN Gv rfl) (Ko h308) (Or.inr (Jcw λ _=>rfl)) rfl (ck 1 (bx H λ l36 h309 H=>sp (Bd (eL Ab) 0 1 h309) (ck 2 (ae (qN (by cases H;exact og (sg [1,5,6])))))))))))))))))))))))))))))))))))
 ·exact ex 0 (qx (by cases H;exact xo rfl (sg [6])))
theorem Oe {z} (H:HG n p0_ p1_=some z):Ap Tryz.prog 96 [.d (.sl (p0_.map Ab)),.d (.int .i64 p1_)] (.own 1 (z.map (eL Ab))):=by
 exact fO 82 (Jhn p0_ p1_) Tryz.func96 (sr (ck 1 (en (sr (ck 1 (bx H λ r115 h293 H=>cl [List.length r115] (Ko h293) (ck 3 (en (sq (bk 0 (bx H λ y94 h310 H=>lX Lc h310 (sg [1,5,6]) rfl λ s hE72=>qH (qs (hE72) (sr (ck 2 (en (re (by cases H;exact pr (rO (v:=.osl 0 1 0 (z.length)) [0] (ao vo)))))))))))))))))))
end
section
variable (p0_:Ae) (r121:(List (List Aa))) (r122:(List (List Int))) (i_27:Int) (i_28:Int) (k_14:Int)
def Jhw:St:=⟨(0,.agg [.d (.int .i64 p0_.W),.d (.int .i64 p0_.H),.d (.int .i64 p0_.Gap),.d (.sl (p0_.F.map As))])::[],[]⟩
def Jhx:St:=⟨(1,.ptr 0 0)::(2,.ptr 1 0)::(3,.d (.sl (r121.map (eL Ab))))::(4,.d (.sl (r122.map (eL A9))))::(5,.d (.int .i64 i_27))::[],[some (.box (AF p0_)),some (.box [.d (.int .i64 0),.d (.int .i64 0),.d (.int .i64 0)])]⟩
def Jhy:St:=⟨(1,.ptr 0 0)::(2,.ptr 1 0)::(3,.d (.sl (r121.map (eL Ab))))::(4,.d (.sl (r122.map (eL A9))))::[],[some (.box (AF p0_)),some (.box [.d (.int .i64 0),.d (.int .i64 0),.d (.int .i64 0)])]⟩
def Pp:(Unit⊕Cj)->Ex->St->Prop:=xS (xX 0 0 (λ (y:Unit)=>Jhy p0_ r121 r122)) (xR ty Tryz.f83 (λ (y:Cj)=>.agg [.d (.int .i64 y.I),.d (.int .i64 y.J),.d (.int .i64 y.E)]))
def Jq:Int->St:=(λ (x:Int)=>Jhx p0_ r121 r122 x)
def Jhz:St:=⟨(1,.ptr 0 0)::(2,.ptr 1 0)::(3,.d (.sl (r121.map (eL Ab))))::(4,.d (.sl (r122.map (eL A9))))::(6,.d (.int .i64 i_28))::[],[some (.box (AF p0_)),some (.box [.d (.int .i64 0),.d (.int .i64 0),.d (.int .i64 0)])]⟩
def JhA:St:=⟨(2,.ptr 0 0)::[],[some (.box [.d (.int .i64 0),.d (.int .i64 0),.d (.int .i64 0)])]⟩
def JhB:St:=⟨(1,.ptr 0 0)::(2,.ptr 1 0)::(3,.d (.sl (r121.map (eL Ab))))::(4,.d (.sl (r122.map (eL A9))))::(6,.d (.int .i64 i_28))::(7,.d (.int .i64 k_14))::[],[some (.box (AF p0_)),some (.box [.d (.int .i64 0),.d (.int .i64 0),.d (.int .i64 0)])]⟩
def JhC:St:=⟨(1,.ptr 0 0)::(2,.ptr 1 0)::(3,.d (.sl (r121.map (eL Ab))))::(4,.d (.sl (r122.map (eL A9))))::(6,.d (.int .i64 i_28))::[],[some (.box (AF p0_)),some (.box [.d (.int .i64 0),.d (.int .i64 0),.d (.int .i64 0)])]⟩
def Pq:(Unit⊕Cj)->Ex->St->Prop:=xS (xX 0 4 (λ (y:Unit)=>JhC p0_ r121 r122 i_28)) (xR ty Tryz.f83 (λ (y:Cj)=>.agg [.d (.int .i64 y.I),.d (.int .i64 y.J),.d (.int .i64 y.E)]))
def Jr:Int->St:=(λ (x:Int)=>JhB p0_ r121 r122 i_28 x)
def Pr:(Unit⊕Cj)->Ex->St->Prop:=xS (xX 0 2 (λ (y:Unit)=>JhA)) (xR ty Tryz.f83 (λ (y:Cj)=>.agg [.d (.int .i64 y.I),.d (.int .i64 y.J),.d (.int .i64 y.E)]))
def Js:Int->St:=(λ (x:Int)=>Jhz p0_ r121 r122 x)
variable {p0_ r121 r122 i_27 i_28 k_14}
theorem Il (x:Int) (z:(Int⊕(Unit⊕Cj))) (H:Fg n p0_ r121 r122 x=some z):WP (cxk 62 0) (Ay Tryz.f83) [1,1,1,0,1,0,0] (Ax 0 (Jq p0_ r121 r122) (Pp p0_ r121 r122) z) (Jq p0_ r121 r122 x):=by
 revert H
 generalize x=i_27
 intro H
 refine sq (sr (ck 2 (sp (Av (eL Ab) r121) (ck 1 (en (cn H (λ H=>?_) (λ H=>?_)))))))
 ·refine sk (qz (sq (bk 1 (sr (ck 2 (bx H λ x81 h314 H=>sp (Am (eL Ab) h314) (ck 3 (bx H λ r123 h315 H=>ca false (Oe h315) (sp (Av (eL Ab) r123) (ck 1 (en (cn H (λ H=>?_) (λ H=>?_)))))))))))))
  ·exact sr (ck 4 (en (re (qR (qr (by cases H;exact ro rfl rd))))))
  ·exact sk (qN (qz (rz (ck 3 (ae (by cases H;exact og (sg [1,2,3,4,5])))))))
 ·exact ex 0 (qx (by cases H;exact xo rfl (sg [1,2,3,4])))
theorem Im (x:Int) (z:(Int⊕(Unit⊕Cj))) (H:HH n p0_ r121 r122 i_28 x=some z):WP (cxk 62 0) (Ay Tryz.f83) [1,1,1,1,0,1,0,0,1,0,0,1,0,0] (Ax 0 (Jr p0_ r121 r122 i_28) (Pq p0_ r121 r122 i_28) z) (Jr p0_ r121 r122 i_28 x):=by
 revert H
 generalize x=k_14
 intro H
 refine sq (sr (ck 2 (sp (Av (eL Ab) r121) (ck 1 (en (cn H (λ H=>?_) (λ H=>?_)))))))
 ·refine sk (qz (sq (bk 5 (sr (ck 2 (bx H λ x82 h317 H=>sp (Am (eL A9) h317) (ck 2 (bx H λ x83 h318 H=>sp (Am A9 h318) (ck 4 (en (cn H (λ H=>?_) (λ H=>?_))))))))))))
  ·exact sr (ck 4 (en (re (qR (qr (by cases H;exact ro rfl rd))))))
  ·exact sk (qN (qz (rz (ck 3 (ae (by cases H;exact og (sg [1,2,3,4,6,7])))))))
 ·exact ex 4 (qx (by cases H;exact xo rfl (sg [1,2,3,4,6])))
theorem Io (x:Int) (z:(Int⊕(Unit⊕Cj))) (H:Dv n p0_ r121 r122 x=some z):WP (cxk 62 0) (Ay Tryz.f83) [1,1,1,1,0,1,0,0] (Ax 0 (Js p0_ r121 r122) (Pr) z) (Js p0_ r121 r122 x):=by
 revert H
 generalize x=i_28
 intro H
 refine sq (sr (ck 2 (sp (Av (eL Ab) r121) (ck 1 (en (cn H (λ H=>?_) (λ H=>?_)))))))
 ·refine sk (qz (sq (bk 3 (sr (ck 3 (en (bk 4 (bx H λ y98 h319 H=>?_))))))))
  rcases y98 with y99|y100
  ·exact lX Im h319 (sg [1,2,3,4,6,7]) rfl λ s hE74=>qH (qN (qs (hE74) (rz (ck 3 (ae (by cases H;exact og (sg [1,2,3,4,6])))))))
  ·exact lR Im h319 (sg [1,2,3,4,6,7]) rfl λ s hE75=>qR (qR (qr (by cases H;exact ro rfl hE75)))
 ·exact ex 2 (qx (by cases H;exact xo rfl (sg [2])))
theorem R0 {z} (H:LY n p0_=some z):Ap Tryz.prog 83 [.agg (AF p0_)] (.agg [.d (.int .i64 z.I),.d (.int .i64 z.J),.d (.int .i64 z.E)]):=by
 refine fO 62 (Jhw p0_) Tryz.func83 (sr (ck 2 (en (sq (sr (ck 1 (bx H λ r120 h311 H=>ca false (LD h311) (ck 1 (en (cn H (λ H=>?_) (λ H=>?_)))))))))))
 ·exact sr (ck 2 (en (re (qr (by cases H;exact pr rd)))))
 ·refine sk (qz (sr (ck 1 (bx H λ r121 h312 H=>ca false (GN h312) (ck 1 (bx H λ r122 h313 H=>ca false (M9 h313) (ck 2 (en (sq (sr (ck 1 (en (bk 0 (bx H λ y95 h316 H=>?_))))))))))))))
  rcases y95 with y96|y97
  ·refine lX Il h316 (sg [1,2,3,4,5]) rfl λ s hE73=>qH (qs (hE73) (sq (sr (ck 1 (en (bk 2 (bx H λ y101 h320 H=>?_)))))))
   rcases y101 with y102|y103
   ·exact lX Io h320 (sg [1,2,3,4,6]) rfl λ s hE76=>qH (qs (hE76) (sr (ck 2 (en (re (by cases H;exact pr rd))))))
   ·exact lR Io h320 (sg [1,2,3,4,6]) rfl λ s hE77=>qR (qr (by cases H;exact pr hE77))
  ·exact lR Il h316 (sg [1,2,3,4,5]) rfl λ s hE78=>qR (qr (by cases H;exact pr hE78))
end
section
variable (p0_:Int)
def JdY:St:=⟨(0,.d (.int .i64 p0_))::[],[]⟩
variable {p0_}
theorem R1 {z} (H:E5 n p0_=some z):Ap Tryz.prog 120 [.d (.int .i64 p0_)] (.own 1 (z.map eU8)):=by
 exact fO 8 (JdY p0_) Tryz.func120 (sr (ck 1 (en (sr (ck 2 (bx H λ x84 h321 H=>sp (Bi 0 1 h321) (sp (B9 eU8 0 0 (ty 184) h321) (ck 2 (en (re (by cases H;exact pr (rO (v:=.osl 1 1 0 (List.length [60,x84])) [1] (ao vo)))))))))))))
end
section
variable (p0_:Int) (p1_:Aa) (r124:(List Int)) (out_43:(List Aa)) (r_1:Int) (out_44:(List Aa)) (out_45:(List Aa)) (k_15:Int) (out_46:(List Aa)) (out_47:(List Aa))
def JdZ:St:=⟨(0,.d (.int .i64 p0_))::(1,.agg [.d (.int .i64 p1_.X),.d (.int .i64 p1_.Y)])::[],[]⟩
def Jd0:St:=⟨(3,.ptr 0 0)::(5,.osl 1 2 0 (out_43.length))::(6,.d (.sl (r124.map eU8)))::(7,.d (.int .i64 r_1))::[],[some (.box [.d (.int .i64 p1_.X),.d (.int .i64 p1_.Y)]),some (.arr 2 (out_43.map Ab))]⟩
def Jd1:St:=⟨(5,.osl 0 2 0 (out_44.length))::[],[some (.arr 2 (out_44.map Ab))]⟩
def Jd2:St:=⟨(3,.ptr 0 0)::(5,.osl 1 2 0 (out_45.length))::(6,.d (.sl (r124.map eU8)))::(7,.d (.int .i64 r_1))::(8,.d (.int .i64 k_15))::[],[some (.box [.d (.int .i64 p1_.X),.d (.int .i64 p1_.Y)]),some (.arr 2 (out_45.map Ab))]⟩
def Jd3:St:=⟨(3,.ptr 0 0)::(5,.osl 1 2 0 (out_46.length))::(6,.d (.sl (r124.map eU8)))::(7,.d (.int .i64 r_1))::[],[some (.box [.d (.int .i64 p1_.X),.d (.int .i64 p1_.Y)]),some (.arr 2 (out_46.map Ab))]⟩
def Jd4:St:=⟨(3,.ptr 0 0)::(5,.osl 1 2 0 (out_47.length))::(6,.d (.sl (r124.map eU8)))::(7,.d (.int .i64 r_1))::(8,.d (.int .i64 k_15))::[],[some (.box [.d (.int .i64 p1_.X),.d (.int .i64 p1_.Y)]),some (.arr 2 (out_47.map Ab))]⟩
def Of:(List Aa)->Ex->St->Prop:=xX 0 2 (λ (y:(List Aa))=>Jd3 p1_ r124 r_1 y)
def Ip:((List Aa)×Int)->St:=(λ (x:((List Aa)×Int))=>Jd2 p1_ r124 r_1 x.1 x.2)
def Og:(List Aa)->Ex->St->Prop:=xX 0 0 (λ (y:(List Aa))=>Jd1 y)
def Iq:((List Aa)×Int)->St:=(λ (x:((List Aa)×Int))=>Jd0 p1_ r124 x.1 x.2)
variable {p0_ p1_ r124 out_43 r_1 out_44 out_45 k_15 out_46 out_47}
theorem Nc (x:((List Aa)×Int)) (z:(((List Aa)×Int)⊕(List Aa))) (H:Cy n p1_ r124 r_1 x.1 x.2=some z):WP (cxk 48 0) (Ay Tryz.f110) [1,1,0,1,0,0,1,0,0,1,0,0] (Ax 0 (Ip p1_ r124 r_1) (Of p1_ r124 r_1) z) (Ip p1_ r124 r_1 x):=by
 obtain ⟨out_45,k_15⟩:=x
 refine sq (sr (ck 2 (en (cn H (λ H=>?_) (λ H=>?_)))))
 ·refine sk (qz (sj (λ (x:(List Aa))=>Jd4 p1_ r124 r_1 k_15 x) (λ (x:(List Aa))=>C7 n k_15 x) z ?_ (λ hFR15_Points_J1=>?_)))
  ·intro out_47 H
   exact rz (ck 3 (ae (by cases H;exact og (sg [3,5,6,7,8]))))
  refine bk 3 (sr (ck 3 (bx H λ x85 h323 H=>sp (Am eU8 h323) (ck 6 (bx H λ gd11 h324 H=>so (Jag h324) (ck 2 (en (cn H (λ H=>?_) (λ H=>?_)))))))))
  ·exact rz (ck 13 (bx H λ l37 h325 H=>sp (Bd Ab 1 2 h325) (ck 1 (ae (qN (qs (sg [3,5,6,7,8]) (hFR15_Points_J1 l37 H)))))))
  ·exact sk (qN (qs (sg [3,5,6,7,8]) (hFR15_Points_J1 out_45 H)))
 ·exact ex 2 (qx (by cases H;exact xo rfl (sg [3,5,6,7])))
theorem Nd (x:((List Aa)×Int)) (z:(((List Aa)×Int)⊕(List Aa))) (H:Cz n p1_ r124 x.1 x.2=some z):WP (cxk 48 0) (Ay Tryz.f110) [1,1,0,1,0,0] (Ax 0 (Iq p1_ r124) (Og) z) (Iq p1_ r124 x):=by
 obtain ⟨out_43,r_1⟩:=x
 refine sq (sr (ck 2 (en (cn H (λ H=>?_) (λ H=>?_)))))
 ·exact sk (qz (sq (bk 1 (sr (ck 1 (en (bk 2 (bx H λ y104 h326 H=>lX Nc h326 (sg [3,5,6,7,8]) rfl λ s hE79=>qH (qN (qs (hE79) (rz (ck 3 (ae (by cases H;exact og (sg [3,5,6,7])))))))))))))))
 ·exact ex 0 (qx (by cases H;exact xo rfl (sg [5])))
theorem C8 {z} (H:Cl n p0_ p1_=some z):Ap Tryz.prog 110 [.d (.int .i64 p0_),.agg [.d (.int .i64 p1_.X),.d (.int .i64 p1_.Y)]] (.own 2 (z.map Ab)):=by
 exact fO 48 (JdZ p0_ p1_) Tryz.func110 (sr (ck 2 (en (sr (ck 2 (bx H λ r124 h322 H=>ca false (R1 h322) (ck 2 (en (sq (sr (ck 1 (en (bk 0 (bx H λ y105 h327 H=>lX Nd h327 (sg [3,5,6,7]) rfl λ s hE80=>qH (qs (hE80) (sr (ck 2 (en (re (by cases H;exact pr (rO (v:=.osl 0 2 0 (z.length)) [0] (ao vo))))))))))))))))))))))
end
section
variable (p0_:Ae) (p1_:Int) (p2_:Aa) (r125:(List (List Aa))) (r126:(List Aa)) (k_16:Int)
def Jd5:St:=⟨(0,.agg [.d (.int .i64 p0_.W),.d (.int .i64 p0_.H),.d (.int .i64 p0_.Gap),.d (.sl (p0_.F.map As))])::(1,.d (.int .i64 p1_))::(2,.agg [.d (.int .i64 p2_.X),.d (.int .i64 p2_.Y)])::[],[]⟩
def Jd6:St:=⟨(1,.d (.int .i64 p1_))::(3,.ptr 0 0)::(7,.d (.sl (r125.map (eL Ab))))::(8,.d (.sl (r126.map Ab)))::(9,.d (.int .i64 k_16))::[],[some (.box (AF p0_))]⟩
def Jd7:St:=⟨(1,.d (.int .i64 p1_))::(3,.ptr 0 0)::(7,.d (.sl (r125.map (eL Ab))))::(8,.d (.sl (r126.map Ab)))::[],[some (.box (AF p0_))]⟩
def Rf:(Unit⊕Bool)->Ex->St->Prop:=xS (xX 0 0 (λ (y:Unit)=>Jd7 p0_ p1_ r125 r126)) (xR ty Tryz.f109 (λ (y:Bool)=>.d (.bool y)))
def Kp:Int->St:=(λ (x:Int)=>Jd6 p0_ p1_ r125 r126 x)
variable {p0_ p1_ p2_ r125 r126 k_16}
theorem Jt (x:Int) (z:(Int⊕(Unit⊕Bool))) (H:Gg n p0_ p1_ r125 r126 x=some z):WP (cxk 76 0) (Ay Tryz.f109) [1,1,1,0,1,0,0] (Ax 0 (Kp p0_ p1_ r125 r126) (Rf p0_ p1_ r125 r126) z) (Kp p0_ p1_ r125 r126 x):=by
 revert H
 generalize x=k_16
 intro H
 refine sq (sr (ck 2 (sp (Av (eL Ab) r125) (ck 1 (en (cn H (λ H=>?_) (λ H=>?_)))))))
 ·refine sk (qz (sq (bk 1 (sr (ck 3 (bx H λ x86 h330 H=>sp (Am (eL Ab) h330) (ck 1 (bx H λ r127 h331 H=>ca false (B6 h331) (ck 3 (en (cn H (λ H=>?_) (λ H=>?_))))))))))))
  ·exact sr (ck 1 (en (re (qR (qr (by cases H;exact ro rfl rd))))))
  ·exact sk (qN (qz (rz (ck 3 (ae (by cases H;exact og (sg [1,3,7,8,9])))))))
 ·exact ex 0 (qx (by cases H;exact xo rfl (sg [1,3,7,8])))
theorem TG {z} (H:NP n p0_ p1_ p2_=some z):Ap Tryz.prog 109 [.agg (AF p0_),.d (.int .i64 p1_),.agg [.d (.int .i64 p2_.X),.d (.int .i64 p2_.Y)]] (.d (.bool z)):=by
 refine fO 76 (Jd5 p0_ p1_ p2_) Tryz.func109 (sr (ck 3 (en (sq (sr (ck 5 (gc 2 (!(decide (p2_.X<0))) (pO (ck 2 (gc 2 (!((decide (p2_.X<0))||(decide (p2_.Y<0)))) (pO (ck 2 (gc 2 (!(((decide (p2_.X<0))||(decide (p2_.Y<0)))||(decide (p2_.X>60)))) (pO (ck 2 (gc 3 (!((((decide (p2_.X<0))||(decide (p2_.Y<0)))||(decide (p2_.X>60)))||(decide (p2_.Y>60)))) (ck 1 (gc 2 (!((((decide (p2_.X<0))||(decide (p2_.Y<0)))||(decide (p2_.X>60)))||(decide (p2_.Y>60)))) (pO (ck 2 (gc 3 (!(((((decide (p2_.X<0))||(decide (p2_.Y<0)))||(decide (p2_.X>60)))||(decide (p2_.Y>60)))||(decide (BS .i64 2 (Ai .i64 p2_.X 2)>p0_.W)))) (ck 1 (gc 2 (!(((((decide (p2_.X<0))||(decide (p2_.Y<0)))||(decide (p2_.X>60)))||(decide (p2_.Y>60)))||(decide (BS .i64 2 (Ai .i64 p2_.X 2)>p0_.W)))) (pO (en (cn H (λ H=>?_) (λ H=>?_)))))))))))))))))))))))))))
 ·exact sr (ck 1 (en (re (qr (by cases H;exact pr rd)))))
 ·refine sk (qz (sr (ck 1 (bx H λ r125 h328 H=>ca false (GN h328) (ck 2 (bx H λ r126 h329 H=>ca false (C8 h329) (ck 2 (en (sq (sr (ck 1 (en (bk 0 (bx H λ y106 h332 H=>?_))))))))))))))
  rcases y106 with y107|y108
  ·exact lX Jt h332 (sg [1,3,7,8,9]) rfl λ s hE81=>qH (qs (hE81) (sr (ck 3 (bx H λ x87 h333 H=>sp (Am (eL Ab) h333) (ck 1 (bx H λ r128 h334 H=>ca false (B6 h334) (ck 5 (en (re (by cases H;exact pr rd))))))))))
  ·exact lR Jt h332 (sg [1,3,7,8,9]) rfl λ s hE82=>qR (qr (by cases H;exact pr hE82))
end
section
variable (p0_:Ae) (p1_:Int) (out_48:(List Aa)) (y_3:Int) (out_49:(List Aa)) (out_50:(List Aa)) (x_17:Int) (out_51:(List Aa)) (out_52:(List Aa))
def JhD:St:=⟨(0,.agg [.d (.int .i64 p0_.W),.d (.int .i64 p0_.H),.d (.int .i64 p0_.Gap),.d (.sl (p0_.F.map As))])::(1,.d (.int .i64 p1_))::[],[]⟩
def JhE:St:=⟨(1,.d (.int .i64 p1_))::(2,.ptr 0 0)::(5,.osl 1 2 0 (out_48.length))::(6,.d (.int .i64 y_3))::[],[some (.box (AF p0_)),some (.arr 2 (out_48.map Ab))]⟩
def JhF:St:=⟨(5,.osl 0 2 0 (out_49.length))::[],[some (.arr 2 (out_49.map Ab))]⟩
def JhG:St:=⟨(1,.d (.int .i64 p1_))::(2,.ptr 0 0)::(5,.osl 1 2 0 (out_50.length))::(6,.d (.int .i64 y_3))::(7,.d (.int .i64 x_17))::[],[some (.box (AF p0_)),some (.arr 2 (out_50.map Ab))]⟩
def JhH:St:=⟨(1,.d (.int .i64 p1_))::(2,.ptr 0 0)::(5,.osl 1 2 0 (out_51.length))::(6,.d (.int .i64 y_3))::[],[some (.box (AF p0_)),some (.arr 2 (out_51.map Ab))]⟩
def JhI:St:=⟨(1,.d (.int .i64 p1_))::(2,.ptr 0 0)::(5,.osl 1 2 0 (out_52.length))::(6,.d (.int .i64 y_3))::(7,.d (.int .i64 x_17))::[],[some (.box (AF p0_)),some (.arr 2 (out_52.map Ab))]⟩
def Kq:(List Aa)->Ex->St->Prop:=xX 0 2 (λ (y:(List Aa))=>JhH p0_ p1_ y_3 y)
def FA:((List Aa)×Int)->St:=(λ (x:((List Aa)×Int))=>JhG p0_ p1_ y_3 x.1 x.2)
def Kr:(List Aa)->Ex->St->Prop:=xX 0 0 (λ (y:(List Aa))=>JhF y)
def FB:((List Aa)×Int)->St:=(λ (x:((List Aa)×Int))=>JhE p0_ p1_ x.1 x.2)
variable {p0_ p1_ out_48 y_3 out_49 out_50 x_17 out_51 out_52}
theorem JF (x:((List Aa)×Int)) (z:(((List Aa)×Int)⊕(List Aa))) (H:DN n p0_ p1_ y_3 x.1 x.2=some z):WP (cxk 38 0) (Ay Tryz.f97) [1,1,0,1,0,0,1,0,0,1,0,0] (Ax 0 (FA p0_ p1_ y_3) (Kq p0_ p1_ y_3) z) (FA p0_ p1_ y_3 x):=by
 obtain ⟨out_50,x_17⟩:=x
 refine sq (sr (ck 6 (en (cn H (λ H=>?_) (λ H=>?_)))))
 ·refine sk (qz (sj (λ (x:(List Aa))=>JhI p0_ p1_ y_3 x_17 x) (λ (x:(List Aa))=>DM n x_17 x) z ?_ (λ hFR15_Candidates_J1=>?_)))
  ·intro out_52 H
   exact rz (ck 3 (ae (by cases H;exact og (sg [1,2,5,6,7]))))
  refine bk 3 (sr (ck 5 (en (sr (ck 3 (bx H λ r129 h335 H=>ca false (TG h335) (en (cn H (λ H=>?_) (λ H=>?_)))))))))
  ·exact rz (ck 3 (bx H λ l38 h336 H=>sp (Bd Ab 1 2 h336) (ck 1 (ae (qN (qs (sg [1,2,5,6,7]) (hFR15_Candidates_J1 l38 H)))))))
  ·exact sk (qN (qs (sg [1,2,5,6,7]) (hFR15_Candidates_J1 out_50 H)))
 ·exact ex 2 (qx (by cases H;exact xo rfl (sg [1,2,5,6])))
theorem JG (x:((List Aa)×Int)) (z:(((List Aa)×Int)⊕(List Aa))) (H:DO n p0_ p1_ x.1 x.2=some z):WP (cxk 38 0) (Ay Tryz.f97) [1,1,0,1,0,0] (Ax 0 (FB p0_ p1_) (Kr) z) (FB p0_ p1_ x):=by
 obtain ⟨out_48,y_3⟩:=x
 refine sq (sr (ck 6 (en (cn H (λ H=>?_) (λ H=>?_)))))
 ·exact sk (qz (sq (bk 1 (sr (ck 1 (en (bk 2 (bx H λ y109 h337 H=>lX JF h337 (sg [1,2,5,6,7]) rfl λ s hE83=>qH (qN (qs (hE83) (rz (ck 3 (ae (by cases H;exact og (sg [1,2,5,6])))))))))))))))
 ·exact ex 0 (qx (by cases H;exact xo rfl (sg [5])))
theorem Mg {z} (H:FL n p0_ p1_=some z):Ap Tryz.prog 97 [.agg (AF p0_),.d (.int .i64 p1_)] (.own 2 (z.map Ab)):=by
 exact fO 38 (JhD p0_ p1_) Tryz.func97 (sr (ck 2 (en (sr (ck 2 (en (sq (sr (ck 1 (en (bk 0 (bx H λ y110 h338 H=>lX JG h338 (sg [1,2,5,6]) rfl λ s hE84=>qH (qs (hE84) (sr (ck 2 (en (re (by cases H;exact pr (rO (v:=.osl 0 2 0 (z.length)) [0] (ao vo))))))))))))))))))))
end
section
variable (p0_:Ae) (o0_:(List Aa)) (o1_:(List (List Aa))) (x_23:(List Aa)) (n_4:Int) (free_5:Bool) (k_19:Int) (free_6:Bool) (rec98k1_:(Ae->(List Aa)->(List (List Aa))->Option (List Aa)))
def JaU:St:=⟨(0,.agg [.d (.int .i64 p0_.W),.d (.int .i64 p0_.H),.d (.int .i64 p0_.Gap),.d (.sl (p0_.F.map As))])::(1,.osl 0 2 0 (o0_.length))::(2,.osl 1 1 0 (o1_.length))::[],[some (.arr 2 (o0_.map Ab)),some (.arr 1 (o1_.map (eL Ab)))]⟩
def Rg:St:=⟨(6,.osl 2 2 0 (x_23.length))::[],[none,some (.arr 1 (o1_.map (eL Ab))),some (.arr 2 (x_23.map Ab))]⟩
def JaV:St:=⟨(1,.osl 0 2 0 (o0_.length))::(2,.osl 1 1 0 (o1_.length))::(3,.ptr 2 0)::(7,.d (.int .i64 ((o0_.length:Nat):Int)))::(8,.d (.int .i64 n_4))::[],[some (.arr 2 (o0_.map Ab)),some (.arr 1 (o1_.map (eL Ab))),some (.box (AF p0_))]⟩
def JaW:St:=⟨[],[some (.arr 2 (o0_.map Ab)),some (.arr 1 (o1_.map (eL Ab)))]⟩
def JaX:St:=⟨(1,.osl 0 2 0 (o0_.length))::(2,.osl 1 1 0 (o1_.length))::(3,.ptr 2 0)::(7,.d (.int .i64 ((o0_.length:Nat):Int)))::(8,.d (.int .i64 n_4))::[],[some (.arr 2 (o0_.map Ab)),some (.arr 1 (o1_.map (eL Ab))),some (.box (AF p0_))]⟩
def JaY:St:=⟨(1,.osl 0 2 0 (o0_.length))::(2,.osl 1 1 0 (o1_.length))::(3,.ptr 2 0)::(7,.d (.int .i64 ((o0_.length:Nat):Int)))::(8,.d (.int .i64 n_4))::(9,.d (.bool free_5))::(10,.d (.int .i64 k_19))::[],[some (.arr 2 (o0_.map Ab)),some (.arr 1 (o1_.map (eL Ab))),some (.box (AF p0_))]⟩
def JaZ:St:=⟨(1,.osl 0 2 0 (o0_.length))::(2,.osl 1 1 0 (o1_.length))::(3,.ptr 2 0)::(7,.d (.int .i64 ((o0_.length:Nat):Int)))::(8,.d (.int .i64 n_4))::(9,.d (.bool free_6))::[],[some (.arr 2 (o0_.map Ab)),some (.arr 1 (o1_.map (eL Ab))),some (.box (AF p0_))]⟩
def Mh:Bool->Ex->St->Prop:=xX 2 2 (λ (y:Bool)=>JaZ p0_ o0_ o1_ n_4 y)
def GV:(Bool×Int)->St:=(λ (x:(Bool×Int))=>JaY p0_ o0_ o1_ n_4 x.1 x.2)
def Mi:(Unit⊕(List Aa))->Ex->St->Prop:=xS (xX 2 0 (λ (y:Unit)=>JaW o0_ o1_)) (xL 2 ty Tryz.f98 (λ (y:(List Aa))=>.osl 2 2 0 (y.length)) (λ (y:(List Aa))=>[none,some (.arr 1 (o1_.map (eL Ab))),some (.arr 2 (y.map Ab))]))
def GW:Int->St:=(λ (x:Int)=>JaV p0_ o0_ o1_ x)
variable {p0_ o0_ o1_ x_23 n_4 free_5 k_19 free_6 rec98k1_}
theorem Ld (x:(Bool×Int)) (z:((Bool×Int)⊕Bool)) (H:B4 n p0_ o0_ o1_ n_4 x.1 x.2=some z):WP (cxk 80 2) (Ay Tryz.f98) [1,1,1,0,1,0,0,1,0,0,1,0,1,0,0] (Ax 2 (GV p0_ o0_ o1_ n_4) (Mh p0_ o0_ o1_ n_4) z) (GV p0_ o0_ o1_ n_4 x):=by
 obtain ⟨free_5,k_19⟩:=x
 refine sq (sr (ck 3 (en (cn H (λ H=>?_) (λ H=>?_)))))
 ·exact sk (qz (sq (bk 3 (rz (ck 5 (bx H λ x101 h368 H=>sE (λ hg=>Bi 1 1 (Bc h368 hg)) (sE (g:=free_5) (λ hg=>B9 (eL Ab) 1 0 (ty 120) (Bc h368 hg)) (ck 1 (bx H λ x102 h369 H=>sE (λ hg=>Am Ab (Bc h369 hg)) (gc 1 free_5 (bx H λ r138 h370 H=>cG false (leZ) rfl (λ hg=>C8 (Bc h370 hg)) (Or.inl rfl) (Ca (λ hh=>hh) (Ca (λ hh=>hh) (Dd))) rfl (ck 3 (bx H λ x103 h371 H=>sE (λ hg=>Bi 0 2 (Bc h371 hg)) (sE (g:=free_5) (λ hg=>B9 Ab 0 0 (ty 124) (Bc h371 hg)) (bx H λ r139 h372 H=>cG false (leZ) rfl (λ hg=>C8 (Bc h372 hg)) (Or.inl rfl) (Ca (λ hh=>hh) (Ca (λ hh=>hh) (Dd))) rfl (bx H λ r140 h373 H=>cG false (leZ) rfl (λ hg=>B6 (Bc h373 hg)) (Or.inl rfl) (Ca (λ hh=>hh) (Ca (λ hh=>hh) (Dd))) rfl (ck 1 (gc 2 free_5 (pA (ck 1 (ae (qN (qz (rz (ck 3 (ae (by cases H;exact og (sg [1,2,3,7,8,9,10]))))))))))))))))))))))))))))
 ·exact ex 2 (qx (by cases H;exact xo rfl (sg [1,2,3,7,8,9])))
theorem FS (hrec98k1_:∀ {p0_:Ae} {o0_:(List Aa)} {o1_:(List (List Aa))} {z:(List Aa)},rec98k1_ p0_ o0_ o1_=some z->BR Tryz.prog 98 [.agg (AF p0_),.osl 0 2 0 (o0_.length),.osl 1 1 0 (o1_.length)] [some (.arr 2 (o0_.map Ab)),some (.arr 1 (o1_.map (eL Ab)))] 2 (.osl 2 2 0 (z.length)) [none,some (.arr 1 (o1_.map (eL Ab))),some (.arr 2 (z.map Ab))]) (x:Int) (z:(Int⊕(Unit⊕(List Aa)))) (H:BI n rec98k1_ p0_ o0_ o1_ x=some z):WP (cxk 80 2) (Ay Tryz.f98) [1,1,1,0,1,0,0] (Ax 2 (GW p0_ o0_ o1_) (Mi o0_ o1_) z) (GW p0_ o0_ o1_ x):=by
 revert H
 generalize x=n_4
 intro H
 refine sq (sr (ck 3 (bx H λ x100 h367 H=>sp (Bi 1 1 h367) (sp (B9 (eL Ab) 1 0 (ty 120) h367) (sp (Av Ab x100) (ck 1 (en (cn H (λ H=>?_) (λ H=>?_)))))))))
 ·refine sk (qz (sj (λ (x:Unit)=>JaX p0_ o0_ o1_ n_4) (λ (x:Unit)=>CA n n_4) z ?_ (λ hFR15_searchxx_J1=>?_)))
  ·intro _ H
   exact rz (ck 3 (ae (by cases H;exact og (sg [1,2,3,7,8]))))
  refine bk 1 (sr (ck 1 (en (sq (sr (ck 1 (en (bk 2 (bx H λ y119 h374 H=>lX Ld h374 (sg [1,2,3,7,8,9,10]) rfl λ s hE91=>qH (qs (hE91) (sq (sr (ck 2 (en (cn H (λ H=>?_) (λ H=>?_))))))))))))))))
  ·exact ex 1 (qx (qH (qs (sg [1,2,3,7,8]) (hFR15_searchxx_J1 () H))))
  ·refine sk (qz (sr (ck 2 (bx H λ l43 h375 H=>sp (Bd Ab 3 2 h375) (ck 1 (en (sq (ry 12 (.refl _) (ck 4 (bx H λ x104 h376 H=>sp (Bi 1 1 h376) (sp (B9 (eL Ab) 1 0 (ty 120) h376) (ck 1 (bx H λ x105 h377 H=>sp (Am Ab h377) (ck 2 (bx H λ l44 h378 H=>sp (Bd Ab 4 2 h378) (ck 1 (my (bx H λ r141 h379 H=>lt [6,1] (hrec98k1_ h379) (nx 14 13 (mx (ck 1 (nz (qz (sr (ck 5 (en (cn H (λ H=>?_) (λ H=>?_))))))))))))))))))))))))))))
   ·exact sr (ck 2 (en (re (qR (qr (by cases H;exact lo rfl (rl (s':=Rg o1_ r141) (tr (Xo 0 rfl) (sg [6])))))))))
   ·exact sk (qN (qs (sg [1,2,3,7,8]) (hFR15_searchxx_J1 () H)))
 ·exact ex 0 (qx (by cases H;exact xo rfl (sg [])))
theorem Mj {z} (hrec98k1_:∀ {p0_:Ae} {o0_:(List Aa)} {o1_:(List (List Aa))} {z:(List Aa)},rec98k1_ p0_ o0_ o1_=some z->BR Tryz.prog 98 [.agg (AF p0_),.osl 0 2 0 (o0_.length),.osl 1 1 0 (o1_.length)] [some (.arr 2 (o0_.map Ab)),some (.arr 1 (o1_.map (eL Ab)))] 2 (.osl 2 2 0 (z.length)) [none,some (.arr 1 (o1_.map (eL Ab))),some (.arr 2 (z.map Ab))]) (H:A4 n rec98k1_ p0_ o0_ o1_=some z):BR Tryz.prog 98 [.agg (AF p0_),.osl 0 2 0 (o0_.length),.osl 1 1 0 (o1_.length)] [some (.arr 2 (o0_.map Ab)),some (.arr 1 (o1_.map (eL Ab)))] 2 (.osl 2 2 0 (z.length)) [none,some (.arr 1 (o1_.map (eL Ab))),some (.arr 2 (z.map Ab))]:=by
 refine fL 80 2 (JaU p0_ o0_ o1_) Tryz.func98 (sr (ck 2 (en (sr (ck 3 (en (sq (sr (ck 4 (en (cn H (λ H=>?_) (λ H=>?_))))))))))))
 ·exact sr (ck 2 (en (re (qr (by cases H;exact pL (rl (s':=Rg o1_ o0_) (tr (Jad (k:=0) (sz:=2) 6 (o0_.map Ab) (o0_.length) (by kernel_rfl) Gu leM rfl) (sg [6]))))))))
 ·refine sk (qz (sq (sr (ck 1 (en (bk 0 (bx H λ y120 h380 H=>?_)))))))
  rcases y120 with y121|y122
  ·exact lX (FS hrec98k1_) h380 (sg [1,2,3,7,8]) rfl λ s hE92=>qH (qs (hE92) (sr (ck 1 (en (re (by cases H;exact pL (rl (s':=Rg o1_ ([]:List Aa)) (tr (tr (AQ.nilo 6 2 (by kernel_rfl)) (Xo 0 rfl)) (sg [6])))))))))
  ·exact lL (FS hrec98k1_) h380 (sg [1,2,3,7,8]) rfl λ s hE93=>qR (qr (by cases H;exact pL hE93))
end
section
variable (p0_:Ae) (o0_:(List Aa)) (o1_:(List (List Aa)))
variable {p0_ o0_ o1_}
theorem Oh {z} (H:HI n p0_ o0_ o1_=some z):BR Tryz.prog 98 [.agg (AF p0_),.osl 0 2 0 (o0_.length),.osl 1 1 0 (o1_.length)] [some (.arr 2 (o0_.map Ab)),some (.arr 1 (o1_.map (eL Ab)))] 2 (.osl 2 2 0 (z.length)) [none,some (.arr 1 (o1_.map (eL Ab))),some (.arr 2 (z.map Ab))]:=by
  have key:∀ (d:Nat) {p0_:Ae} {o0_:(List Aa)} {o1_:(List (List Aa))} {z:(List Aa)},JB (λ _ _ _=>none) (A4 n) d p0_ o0_ o1_=some z->BR Tryz.prog 98 [.agg (AF p0_),.osl 0 2 0 (o0_.length),.osl 1 1 0 (o1_.length)] [some (.arr 2 (o0_.map Ab)),some (.arr 1 (o1_.map (eL Ab)))] 2 (.osl 2 2 0 (z.length)) [none,some (.arr 1 (o1_.map (eL Ab))),some (.arr 2 (z.map Ab))]:=by
    intro d
    induction d with
    | zero=>intro _ _ _ _ H;cases H
    | succ d ih=>intro _ _ _ _ H;exact Mj (λ h=>ih h) H
  exact key n H
end
section
variable (p0_:Ae) (o0_:(List (List Aa))) (x_26:(List Aa)) (n_5:Int) (free_7:Bool) (k_20:Int) (free_8:Bool) (rec98k2_:(Ae->(List (List Aa))->Option (List Aa)))
def Ja0:St:=⟨(0,.agg [.d (.int .i64 p0_.W),.d (.int .i64 p0_.H),.d (.int .i64 p0_.Gap),.d (.sl (p0_.F.map As))])::(1,.d (.nil))::(2,.osl 0 1 0 (o0_.length))::[],[some (.arr 1 (o0_.map (eL Ab)))]⟩
def Rh:St:=⟨(6,.osl 1 2 0 (x_26.length))::[],[some (.arr 1 (o0_.map (eL Ab))),some (.arr 2 (x_26.map Ab))]⟩
def Ja1:St:=⟨(1,.osl 1 2 0 (List.length ([]:List Aa)))::(2,.osl 0 1 0 (o0_.length))::(3,.ptr 2 0)::(7,.d (.int .i64 0))::(8,.d (.int .i64 n_5))::[],[some (.arr 1 (o0_.map (eL Ab))),some (.arr 2 (List.map Ab ([]:List Aa))),some (.box (AF p0_))]⟩
def Ja2:St:=⟨[],[some (.arr 1 (o0_.map (eL Ab)))]⟩
def Ja3:St:=⟨(1,.osl 1 2 0 (List.length ([]:List Aa)))::(2,.osl 0 1 0 (o0_.length))::(3,.ptr 2 0)::(7,.d (.int .i64 0))::(8,.d (.int .i64 n_5))::[],[some (.arr 1 (o0_.map (eL Ab))),some (.arr 2 (List.map Ab ([]:List Aa))),some (.box (AF p0_))]⟩
def Ja4:St:=⟨(1,.osl 1 2 0 (List.length ([]:List Aa)))::(2,.osl 0 1 0 (o0_.length))::(3,.ptr 2 0)::(7,.d (.int .i64 0))::(8,.d (.int .i64 n_5))::(9,.d (.bool free_7))::(10,.d (.int .i64 k_20))::[],[some (.arr 1 (o0_.map (eL Ab))),some (.arr 2 (List.map Ab ([]:List Aa))),some (.box (AF p0_))]⟩
def Ja5:St:=⟨(1,.osl 1 2 0 (List.length ([]:List Aa)))::(2,.osl 0 1 0 (o0_.length))::(3,.ptr 2 0)::(7,.d (.int .i64 0))::(8,.d (.int .i64 n_5))::(9,.d (.bool free_8))::[],[some (.arr 1 (o0_.map (eL Ab))),some (.arr 2 (List.map Ab ([]:List Aa))),some (.box (AF p0_))]⟩
def Lf:Bool->Ex->St->Prop:=xX 1 2 (λ (y:Bool)=>Ja5 p0_ o0_ n_5 y)
def FT:(Bool×Int)->St:=(λ (x:(Bool×Int))=>Ja4 p0_ o0_ n_5 x.1 x.2)
def Lg:(Unit⊕(List Aa))->Ex->St->Prop:=xS (xX 1 0 (λ (y:Unit)=>Ja2 o0_)) (xL 1 ty Tryz.f98 (λ (y:(List Aa))=>.osl 1 2 0 (y.length)) (λ (y:(List Aa))=>[some (.arr 1 (o0_.map (eL Ab))),some (.arr 2 (y.map Ab))]))
def FU:Int->St:=(λ (x:Int)=>Ja1 p0_ o0_ x)
variable {p0_ o0_ x_26 n_5 free_7 k_20 free_8 rec98k2_}
theorem Ks (x:(Bool×Int)) (z:((Bool×Int)⊕Bool)) (H:Es n p0_ o0_ n_5 x.1 x.2=some z):WP (cxk 80 1) (Ay Tryz.f98) [1,1,1,0,1,0,0,1,0,0,1,0,1,0,0] (Ax 1 (FT p0_ o0_ n_5) (Lf p0_ o0_ n_5) z) (FT p0_ o0_ n_5 x):=by
 obtain ⟨free_7,k_20⟩:=x
 refine sq (sr (ck 3 (en (cn H (λ H=>?_) (λ H=>?_)))))
 ·exact sk (qz (sq (bk 3 (rz (ck 5 (bx H λ x107 h382 H=>sE (λ hg=>Bi 0 1 (Bc h382 hg)) (sE (g:=free_7) (λ hg=>B9 (eL Ab) 0 0 (ty 120) (Bc h382 hg)) (ck 1 (bx H λ x108 h383 H=>sE (λ hg=>Am Ab (Bc h383 hg)) (gc 1 free_7 (bx H λ r142 h384 H=>cG false (leZ) rfl (λ hg=>C8 (Bc h384 hg)) (Or.inl rfl) (Ca (λ hh=>hh) (Ca (λ hh=>hh) (Dd))) rfl (ck 3 (bx H λ x109 h385 H=>sE (λ hg=>Bi 1 2 (Bc h385 hg)) (sE (g:=free_7) (λ hg=>B9 Ab 1 0 (ty 124) (Bc h385 hg)) (bx H λ r143 h386 H=>cG false (leZ) rfl (λ hg=>C8 (Bc h386 hg)) (Or.inl rfl) (Ca (λ hh=>hh) (Ca (λ hh=>hh) (Dd))) rfl (bx H λ r144 h387 H=>cG false (leZ) rfl (λ hg=>B6 (Bc h387 hg)) (Or.inl rfl) (Ca (λ hh=>hh) (Ca (λ hh=>hh) (Dd))) rfl (ck 1 (gc 2 free_7 (pA (ck 1 (ae (qN (qz (rz (ck 3 (ae (by cases H;exact og (sg [1,2,3,7,8,9,10]))))))))))))))))))))))))))))
 ·exact ex 2 (qx (by cases H;exact xo rfl (sg [1,2,3,7,8,9])))
theorem FC (x:Int) (z:(Int⊕(Unit⊕(List Aa)))) (H:C2 n p0_ o0_ x=some z):WP (cxk 80 1) (Ay Tryz.f98) [1,1,1,0,1,0,0] (Ax 1 (FU p0_ o0_) (Lg o0_) z) (FU p0_ o0_ x):=by
 revert H
 generalize x=n_5
 intro H
 refine sq (sr (ck 3 (bx H λ x106 h381 H=>sp (Bi 0 1 h381) (sp (B9 (eL Ab) 0 0 (ty 120) h381) (sp (Av Ab x106) (ck 1 (en (cn H (λ H=>?_) (λ H=>?_)))))))))
 ·refine sk (qz (sj (λ (x:Unit)=>Ja3 p0_ o0_ n_5) (λ (x:Unit)=>Er n n_5) z ?_ (λ hFR15_searchxxx_J1=>?_)))
  ·intro _ H
   exact rz (ck 3 (ae (by cases H;exact og (sg [1,2,3,7,8]))))
  refine bk 1 (sr (ck 1 (en (sq (sr (ck 1 (en (bk 2 (bx H λ y123 h388 H=>lX Ks h388 (sg [1,2,3,7,8,9,10]) rfl λ s hE94=>qH (qs (hE94) (sq (sr (ck 2 (en (cn H (λ H=>?_) (λ H=>?_))))))))))))))))
  ·exact ex 1 (qx (qH (qs (sg [1,2,3,7,8]) (hFR15_searchxxx_J1 () H))))
  ·refine sk (qz (sr (ck 2 (bx H λ l45 h389 H=>sp (Bd Ab 3 2 h389) (ck 1 (en (sq (ry 12 (.refl _) (ck 4 (bx H λ x110 h390 H=>sp (Bi 0 1 h390) (sp (B9 (eL Ab) 0 0 (ty 120) h390) (ck 1 (bx H λ x111 h391 H=>sp (Am Ab h391) (ck 2 (bx H λ l46 h392 H=>sp (Bd Ab 4 2 h392) (ck 1 (my (bx H λ r145 h393 H=>lt [6,0] (Oh h393) (nx 14 13 (mx (ck 1 (nz (qz (sr (ck 5 (en (cn H (λ H=>?_) (λ H=>?_))))))))))))))))))))))))))))
   ·exact sr (ck 2 (en (re (qR (qr (by cases H;exact lo rfl (rl (s':=Rh o0_ r145) (sg [6]))))))))
   ·exact sk (qN (qs (sg [1,2,3,7,8]) (hFR15_searchxxx_J1 () H)))
 ·exact ex 0 (qx (by cases H;exact xo rfl (sg [])))
theorem Lh {z} (hrec98k2_:∀ {p0_:Ae} {o0_:(List (List Aa))} {z:(List Aa)},rec98k2_ p0_ o0_=some z->BR Tryz.prog 98 [.agg (AF p0_),.d (.nil),.osl 0 1 0 (o0_.length)] [some (.arr 1 (o0_.map (eL Ab)))] 1 (.osl 1 2 0 (z.length)) [some (.arr 1 (o0_.map (eL Ab))),some (.arr 2 (z.map Ab))]) (H:B5 n rec98k2_ p0_ o0_=some z):BR Tryz.prog 98 [.agg (AF p0_),.d (.nil),.osl 0 1 0 (o0_.length)] [some (.arr 1 (o0_.map (eL Ab)))] 1 (.osl 1 2 0 (z.length)) [some (.arr 1 (o0_.map (eL Ab))),some (.arr 2 (z.map Ab))]:=by
 refine fL 80 1 (Ja0 p0_ o0_) Tryz.func98 (sr (ck 2 (en (sr (ck 3 (en (sq (sr (ck 4 (en (cn H (λ H=>?_) (λ H=>?_))))))))))))
 ·exact sr (ck 2 (en (re (qr (by cases H;exact pL (rl (s':=Rh o0_ ([]:List Aa)) (tr (AQ.nilo 6 2 (by kernel_rfl)) (sg [6]))))))))
 ·refine sk (qz (sq (sr (ck 1 (en (bk 0 (bx H λ y124 h394 H=>?_)))))))
  rcases y124 with y125|y126
  ·exact lX FC h394 (tr (AQ.nilo 1 2 (by kernel_rfl)) (sg [1,2,3,7,8])) rfl λ s hE95=>qH (qs (hE95) (sr (ck 1 (en (re (by cases H;exact pL (rl (s':=Rh o0_ ([]:List Aa)) (tr (AQ.nilo 6 2 (by kernel_rfl)) (sg [6])))))))))
  ·exact lL FC h394 (tr (AQ.nilo 1 2 (by kernel_rfl)) (sg [1,2,3,7,8])) rfl λ s hE96=>qR (qr (by cases H;exact pL hE96))
end
section
variable (p0_:Ae) (o0_:(List (List Aa)))
variable {p0_ o0_}
theorem Nf {z} (H:GK n p0_ o0_=some z):BR Tryz.prog 98 [.agg (AF p0_),.d (.nil),.osl 0 1 0 (o0_.length)] [some (.arr 1 (o0_.map (eL Ab)))] 1 (.osl 1 2 0 (z.length)) [some (.arr 1 (o0_.map (eL Ab))),some (.arr 2 (z.map Ab))]:=by
  have key:∀ (d:Nat) {p0_:Ae} {o0_:(List (List Aa))} {z:(List Aa)},JB (λ _ _=>none) (B5 n) d p0_ o0_=some z->BR Tryz.prog 98 [.agg (AF p0_),.d (.nil),.osl 0 1 0 (o0_.length)] [some (.arr 1 (o0_.map (eL Ab)))] 1 (.osl 1 2 0 (z.length)) [some (.arr 1 (o0_.map (eL Ab))),some (.arr 2 (z.map Ab))]:=by
    intro d
    induction d with
    | zero=>intro _ _ _ H;cases H
    | succ d ih=>intro _ _ _ H;exact Lh (λ h=>ih h) H
  exact key n H
end
section
variable (p0_:Ae) (all_1:(List (List Aa))) (best_1:(List Aa)) (i_29:Int) (best_2:(List Aa))
def JhJ:St:=⟨(0,.agg [.d (.int .i64 p0_.W),.d (.int .i64 p0_.H),.d (.int .i64 p0_.Gap),.d (.sl (p0_.F.map As))])::[],[]⟩
def JhK:St:=⟨(1,.ptr 0 0)::(2,.ptr 1 0)::(3,.osl 2 1 0 (all_1.length))::(4,.osl 3 2 0 (best_1.length))::(5,.d (.int .i64 i_29))::[],[some (.box (AF p0_)),some (.box [.osl 4 2 0 (List.length ([]:List Aa)),.d (.int .i64 0),.d (.int .i64 0)]),some (.arr 1 (all_1.map (eL Ab))),some (.arr 2 (best_1.map Ab)),some (.arr 2 (List.map Ab ([]:List Aa)))]⟩
def JhL:St:=⟨(2,.ptr 0 0)::(4,.osl 1 2 0 (best_2.length))::[],[some (.box [.osl 2 2 0 (List.length ([]:List Aa)),.d (.int .i64 0),.d (.int .i64 0)]),some (.arr 2 (best_2.map Ab)),some (.arr 2 (List.map Ab ([]:List Aa)))]⟩
def Ps:((List Aa)⊕IQ)->Ex->St->Prop:=xS (xX 0 0 (λ (y:(List Aa))=>JhL y)) (xR ty Tryz.f84 (λ (y:IQ)=>.agg [.own 2 (y.L.map Ab),.d (.int .i64 y.At),.d (.int .i64 y.E)]))
def Ju:((List (List Aa))×(List Aa)×Int)->St:=(λ (x:((List (List Aa))×(List Aa)×Int))=>JhK p0_ x.1 x.2.1 x.2.2)
variable {p0_ all_1 best_1 i_29 best_2}
theorem Ir (x:((List (List Aa))×(List Aa)×Int)) (z:(((List (List Aa))×(List Aa)×Int)⊕((List Aa)⊕IQ))) (H:Fh n p0_ x.1 x.2.1 x.2.2=some z):WP (cxk 36 0) (Ay Tryz.f84) [1,1,0,1,0,0] (Ax 0 (Ju p0_) (Ps) z) (Ju p0_ x):=by
 obtain ⟨all_1,best_1,i_29⟩:=x
 refine sq (sr (ck 3 (sp (Av As p0_.F) (ck 1 (en (cn H (λ H=>?_) (λ H=>?_)))))))
 ·refine sk (qz (sq (bk 1 (sr (ck 3 (bx H λ r146 h395 H=>ca false (Mg h395) (ck 1 (bx H λ l47 h396 H=>sp (Bd (eL Ab) 2 1 h396) (ck 1 (en (sr (ck 2 (bx H λ r147 h397 H=>lt [6] (Nf h397) (ck 1 (en (sq (sr (ck 4 (en (cn H (λ H=>?_) (λ H=>?_)))))))))))))))))))))
  ·exact sr (ck 3 (en (re (qr (qR (qr (by cases H;exact ro rfl (rO (v:=.agg [.d (.nil),.d (.int .i64 i_29),.d (.int .i64 150)]) [] (a1 (c1 vz (c1 vd (c1 vd (c0)))))))))))))
  ·exact sk (qz (rz (ck 2 (ae (qN (qz (rz (ck 3 (ae (by cases H;exact og (sg [1,2,3,4,5])))))))))))
 ·exact ex 0 (qx (by cases H;exact xo rfl (sg [2,4])))
theorem R2 {z} (H:LZ n p0_=some z):Ap Tryz.prog 84 [.agg (AF p0_)] (.agg [.own 2 (z.L.map Ab),.d (.int .i64 z.At),.d (.int .i64 z.E)]):=by
 refine fO 36 (JhJ p0_) Tryz.func84 (sr (ck 2 (en (sr (ck 4 (en (sq (sr (ck 1 (en (bk 0 (bx H λ y127 h398 H=>?_))))))))))))
 rcases y127 with y128|y129
 ·exact lX Ir h398 (tr (Bv 1 0 2 (by kernel_rfl)) (sg [1,2,3,4,5])) rfl λ s hE97=>qH (qs (hE97) (sr (ck 5 (en (re (by cases H;exact pr (rO (v:=.agg [.osl 1 2 0 (y128.length),.d (.int .i64 ((y128.length:Nat):Int)),.d (.int .i64 0)]) [1] (a1 (c1 vo (c1 vd (c1 vd (c0))))))))))))
 ·exact lR Ir h398 (tr (Bv 1 0 2 (by kernel_rfl)) (sg [1,2,3,4,5])) rfl λ s hE98=>qR (qr (by cases H;exact pr hE98))
end
section
variable (p0_:Ae)
def JhM:St:=⟨(0,.agg [.d (.int .i64 p0_.W),.d (.int .i64 p0_.H),.d (.int .i64 p0_.Gap),.d (.sl (p0_.F.map As))])::[],[]⟩
variable {p0_}
theorem Kt {z} (H:DT n p0_=some z):Ap Tryz.prog 63 [.agg (AF p0_)] (.d (.bool z)):=by
 refine fO 11 (JhM p0_) Tryz.func63 (sr (ck 2 (en (sq (sr (ck 1 (bx H λ r148 h399 H=>ca false (R0 h399) (ck 2 (en (cn H (λ H=>?_) (λ H=>?_)))))))))))
 ·exact sr (ck 1 (en (re (qr (by cases H;exact pr rd)))))
 ·exact sk (qz (sr (ck 1 (bx H λ r149 h400 H=>ca false (R2 h400) (ck 3 (en (re (by cases H;exact pr rd))))))))
end
section
variable (p0_:A7) (p1_:(List UInt8)) (r150:(List UInt8)) (out_53:Af) (i_30:Int) (out_54:Af) (row_3:(List (List UInt8))) (k_21:Int) (row_4:(List (List UInt8))) (x_27:Bool)
def JhN:St:=⟨(0,.agg [.d (.int .u8 p0_.Kind),.d (.int .u8 p0_.N),.d (.sl (p0_.T.map eU8)),.d (.int .u8 p0_.F.Kind),.d (.int .u8 p0_.F.N),.d (.sl (p0_.F.L.map (Bg eU8))),.d (.int .u8 p0_.P.W),.d (.int .u8 p0_.P.H),.d (.int .u8 p0_.P.Gap),.d (.sl (p0_.P.F.map (Je eU8)))])::(1,.d (.str p1_))::[],[]⟩
def JhO:St:=⟨(4,.ptr 0 0)::(5,.d (.str r150))::[],[some (.box [.d (.int .i64 0),.d (.int .i64 0),.d (.str []),.osl 1 1 0 (List.length ([]:List (List (List UInt8)))),.osl 2 2 0 (List.length ([]:List Al)),.d (.int .i64 0),.d (.int .i64 0),.d (.int .i64 0),.osl 3 3 0 (List.length ([]:List Aw)),.d (.int .i64 0)]),some (.arr 1 (List.map (eL eS) ([]:List (List (List UInt8))))),some (.arr 2 (List.map AC ([]:List Al))),some (.arr 3 (List.map As ([]:List Aw)))]⟩
def JhP:St:=⟨(1,.d (.str p1_))::(2,.ptr 0 0)::(4,.ptr 1 0)::(6,.d (.int .i64 (Ai .i64 1 (IntKind.i64.wrap (Ah p0_.N 3)))))::(7,.ptr 2 0)::(8,.d (.int .i64 i_30))::[],[some (.box (H4 p0_)),some (.box [.d (.int .i64 0),.d (.int .i64 0),.d (.str []),.osl 3 1 0 (List.length ([]:List (List (List UInt8)))),.osl 4 2 0 (List.length ([]:List Al)),.d (.int .i64 0),.d (.int .i64 0),.d (.int .i64 0),.osl 5 3 0 (List.length ([]:List Aw)),.d (.int .i64 0)]),some (.box (Gj out_53 (.osl 6 1 0 (out_53.Rows.length)) (.osl 7 2 0 (out_53.F.length)) (.osl 8 3 0 (out_53.Pic.F.length)))),some (.arr 1 (List.map (eL eS) ([]:List (List (List UInt8))))),some (.arr 2 (List.map AC ([]:List Al))),some (.arr 3 (List.map As ([]:List Aw))),some (.arr 1 (out_53.Rows.map (eL eS))),some (.arr 2 (out_53.F.map AC)),some (.arr 3 (out_53.Pic.F.map As))]⟩
def JhQ:St:=⟨(4,.ptr 0 0)::(7,.ptr 1 0)::[],[some (.box [.d (.int .i64 0),.d (.int .i64 0),.d (.str []),.osl 2 1 0 (List.length ([]:List (List (List UInt8)))),.osl 3 2 0 (List.length ([]:List Al)),.d (.int .i64 0),.d (.int .i64 0),.d (.int .i64 0),.osl 4 3 0 (List.length ([]:List Aw)),.d (.int .i64 0)]),some (.box (Gj out_54 (.osl 5 1 0 (out_54.Rows.length)) (.osl 6 2 0 (out_54.F.length)) (.osl 7 3 0 (out_54.Pic.F.length)))),some (.arr 1 (List.map (eL eS) ([]:List (List (List UInt8))))),some (.arr 2 (List.map AC ([]:List Al))),some (.arr 3 (List.map As ([]:List Aw))),some (.arr 1 (out_54.Rows.map (eL eS))),some (.arr 2 (out_54.F.map AC)),some (.arr 3 (out_54.Pic.F.map As))]⟩
def JhR:St:=⟨(1,.d (.str p1_))::(2,.ptr 0 0)::(4,.ptr 1 0)::(6,.d (.int .i64 (Ai .i64 1 (IntKind.i64.wrap (Ah p0_.N 3)))))::(7,.ptr 2 0)::(8,.d (.int .i64 i_30))::(9,.osl 3 1 0 (row_3.length))::(10,.d (.int .i64 k_21))::[],[some (.box (H4 p0_)),some (.box [.d (.int .i64 0),.d (.int .i64 0),.d (.str []),.osl 4 1 0 (List.length ([]:List (List (List UInt8)))),.osl 5 2 0 (List.length ([]:List Al)),.d (.int .i64 0),.d (.int .i64 0),.d (.int .i64 0),.osl 6 3 0 (List.length ([]:List Aw)),.d (.int .i64 0)]),some (.box (Gj out_53 (.osl 7 1 0 (out_53.Rows.length)) (.osl 8 2 0 (out_53.F.length)) (.osl 9 3 0 (out_53.Pic.F.length)))),some (.arr 1 (row_3.map eS)),some (.arr 1 (List.map (eL eS) ([]:List (List (List UInt8))))),some (.arr 2 (List.map AC ([]:List Al))),some (.arr 3 (List.map As ([]:List Aw))),some (.arr 1 (out_53.Rows.map (eL eS))),some (.arr 2 (out_53.F.map AC)),some (.arr 3 (out_53.Pic.F.map As))]⟩
def JhS:St:=⟨(1,.d (.str p1_))::(2,.ptr 0 0)::(4,.ptr 1 0)::(6,.d (.int .i64 (Ai .i64 1 (IntKind.i64.wrap (Ah p0_.N 3)))))::(7,.ptr 2 0)::(8,.d (.int .i64 i_30))::(9,.osl 3 1 0 (row_4.length))::[],[some (.box (H4 p0_)),some (.box [.d (.int .i64 0),.d (.int .i64 0),.d (.str []),.osl 4 1 0 (List.length ([]:List (List (List UInt8)))),.osl 5 2 0 (List.length ([]:List Al)),.d (.int .i64 0),.d (.int .i64 0),.d (.int .i64 0),.osl 6 3 0 (List.length ([]:List Aw)),.d (.int .i64 0)]),some (.box (Gj out_53 (.osl 7 1 0 (out_53.Rows.length)) (.osl 8 2 0 (out_53.F.length)) (.osl 9 3 0 (out_53.Pic.F.length)))),some (.arr 1 (row_4.map eS)),some (.arr 1 (List.map (eL eS) ([]:List (List (List UInt8))))),some (.arr 2 (List.map AC ([]:List Al))),some (.arr 3 (List.map As ([]:List Aw))),some (.arr 1 (out_53.Rows.map (eL eS))),some (.arr 2 (out_53.F.map AC)),some (.arr 3 (out_53.Pic.F.map As))]⟩
def Pt:(List (List UInt8))->Ex->St->Prop:=xX 0 3 (λ (y:(List (List UInt8)))=>JhS p0_ p1_ out_53 i_30 y)
def Jv:((List (List UInt8))×Int)->St:=(λ (x:((List (List UInt8))×Int))=>JhR p0_ p1_ out_53 i_30 x.1 x.2)
def Pu:Af->Ex->St->Prop:=xX 0 1 (λ (y:Af)=>JhQ y)
def Jw:(Af×Int)->St:=(λ (x:(Af×Int))=>JhP p0_ p1_ x.1 x.2)
def JhT:St:=⟨(2,.ptr 0 0)::(4,.ptr 1 0)::(5,.d (.str r150))::(19,.d (.int .u8 (Ah p0_.Kind 9)))::(77,.d (.bool x_27))::[],[some (.box (H4 p0_)),some (.box [.d (.int .i64 0),.d (.int .i64 0),.d (.str []),.osl 2 1 0 (List.length ([]:List (List (List UInt8)))),.osl 3 2 0 (List.length ([]:List Al)),.d (.int .i64 0),.d (.int .i64 0),.d (.int .i64 0),.osl 4 3 0 (List.length ([]:List Aw)),.d (.int .i64 0)]),some (.arr 1 (List.map (eL eS) ([]:List (List (List UInt8))))),some (.arr 2 (List.map AC ([]:List Al))),some (.arr 3 (List.map As ([]:List Aw)))]⟩
variable {p0_ p1_ r150 out_53 i_30 out_54 row_3 k_21 row_4 x_27}
theorem Oi (x:((List (List UInt8))×Int)) (z:(((List (List UInt8))×Int)⊕(List (List UInt8)))) (H:Fj n p0_ p1_ out_53 i_30 x.1 x.2=some z):WP (cxk 117 0) (Ay Tryz.f44) [1,1,0,1,0,1,1,1,0,1,0,1,0,0,1,0,0,1,0,1,0,0] (Ax 0 (Jv p0_ p1_ out_53 i_30) (Pt p0_ p1_ out_53 i_30) z) (Jv p0_ p1_ out_53 i_30 x):=by
 obtain ⟨row_3,k_21⟩:=x
 refine sq (sr (ck 3 (en (cn H (λ H=>?_) (λ H=>?_)))))
 ·exact sk (qz (sq (bk 4 (sr (ck 6 (sp (Av eU8 p0_.T) (ck 2 (en (rz (ck 4 (bx H λ l48 h402 H=>sp (JcC eU8 1 h402) (ck 1 (bx H λ r151 h403 H=>ca false (I4 h403) (ck 1 (bx H λ l49 h404 H=>sp (Bd eS 3 1 h404) (ck 1 (ae (qN (qz (rz (ck 3 (ae (by cases H;exact og (sg [1,2,4,6,7,8,9,10]))))))))))))))))))))))))
 ·exact ex 3 (qx (by cases H;exact xo rfl (sg [1,2,4,6,7,8,9])))
theorem Oj (x:(Af×Int)) (z:((Af×Int)⊕Af)) (H:Fk n p0_ p1_ x.1 x.2=some z):WP (cxk 117 0) (Ay Tryz.f44) [1,1,0,1,0,1,1,1,0,1,0,1,0,0] (Ax 0 (Jw p0_ p1_) (Pu) z) (Jw p0_ p1_ x):=by
 obtain ⟨out_53,i_30⟩:=x
 refine sq (sr (ck 8 (en (cn H (λ H=>?_) (λ H=>?_)))))
 ·exact sk (qz (sq (bk 2 (sr (ck 2 (en (sq (sr (ck 1 (en (bk 3 (bx H λ y130 h405 H=>lX Oi h405 (sg [1,2,4,6,7,8,9,10]) rfl λ s hE99=>qH (qs (hE99) (rg (fz (enc:=eS) (xs:=y130) 9 3 1) (ck 4 (bx H λ l50 h406 H=>sp (Bd (eL eS) 7 1 h406) (ck 2 (ae (qN (qz (rz (ck 3 (ae (by cases H;exact og (sg [1,2,4,6,7,8])))))))))))))))))))))))))
 ·exact ex 1 (qx (by cases H;exact xo rfl (sg [4,7])))
theorem R3 {z} (H:L3 n p0_ p1_=some z):Ap Tryz.prog 44 [.agg (H4 p0_),.d (.str p1_)] (.agg [.d (.int .i64 z.Kind),.d (.int .i64 z.Level),.d (.str z.Text),.own 1 (z.Rows.map (eL eS)),.d (.sl (z.F.map AC)),.d (.int .i64 z.Pic.W),.d (.int .i64 z.Pic.H),.d (.int .i64 z.Pic.Gap),.d (.sl (z.Pic.F.map As)),.d (.int .i64 z.Page)]):=by
 refine fO 117 (JhN p0_ p1_) Tryz.func44 (sr (ck 2 (en (sr (ck 3 (bx H λ r150 h401 H=>ca false (I4 h401) (ck 1 (en (sj (λ (x:Unit)=>JhO r150) (λ (x:Unit)=>Fi n r150) z ?_ (λ hFR17_Block_J1=>?_))))))))))
 ·intro _ H
  exact sr (ck 3 (en (re (by cases H;exact pr (rO (v:=.agg [.d (.int .i64 1),.d (.int .i64 0),.d (.str r150),.d (.nil),.d (.nil),.d (.int .i64 0),.d (.int .i64 0),.d (.int .i64 0),.d (.nil),.d (.int .i64 0)]) [] (a1 (c1 vd (c1 vd (c1 vd (c1 vz (c1 vn (c1 vd (c1 vd (c1 vd (c1 vn (c1 vd (c0)))))))))))))))))
 refine sr (ck 3 (en (bk 0 (sr (ck 2 (en (cn H (λ H=>?_) (λ H=>?_))))))))
 ·exact sr (ck 8 (en (re (qR (qr (by cases H;exact pr (rO (v:=.agg [.d (.int .i64 2),.d (.int .i64 (Ai .i64 1 (IntKind.i64.wrap (Ah p0_.N 3)))),.d (.str r150),.d (.nil),.d (.nil),.d (.int .i64 0),.d (.int .i64 0),.d (.int .i64 0),.d (.nil),.d (.int .i64 0)]) [] (a1 (c1 vd (c1 vd (c1 vd (c1 vz (c1 vn (c1 vd (c1 vd (c1 vd (c1 vn (c1 vd (c0)))))))))))))))))))
 ·refine sr (ck 2 (en (cn H (λ H=>?_) (λ H=>?_))))
  ·exact sr (ck 9 (en (sq (sr (ck 1 (en (bk 1 (bx H λ y131 h407 H=>lX Oj h407 (tr (tr (tr (tr (tr (tr (Bv 1 3 1 (by kernel_rfl)) (Bv 1 4 2 (by kernel_rfl))) (Bv 1 8 3 (by kernel_rfl))) (Bv 2 3 1 (by kernel_rfl))) (Bv 2 4 2 (by kernel_rfl))) (Bv 2 8 3 (by kernel_rfl))) (sg [1,2,4,6,7,8])) rfl λ s hE100=>qH (qs (hE100) (sr (ck 2 (ae (qs (tr (fzc (enc:=AC) (xs:=y131.F) 0 4 6 2) (fzc (enc:=As) (xs:=y131.Pic.F) 0 8 7 3)) (re (qR (qr (by cases H;exact pr (rO (v:=.agg [.d (.int .i64 z.Kind),.d (.int .i64 z.Level),.d (.str z.Text),.osl 5 1 0 (z.Rows.length),.d (.sl (z.F.map AC)),.d (.int .i64 z.Pic.W),.d (.int .i64 z.Pic.H),.d (.int .i64 z.Pic.Gap),.d (.sl (z.Pic.F.map As)),.d (.int .i64 z.Page)]) [5] (a1 (c1 vd (c1 vd (c1 vd (c1 vo (c1 vd (c1 vd (c1 vd (c1 vd (c1 vd (c1 vd (c0))))))))))))))))))))))))))))))
  ·refine sj (λ (x:Bool)=>JhT p0_ r150 x) (λ (x:Bool)=>Dw n p0_ r150 x) z ?_ (λ hFR17_Block_J2=>?_)
   ·intro x_27 H
    refine cn H (λ H=>?_) (λ H=>?_)
    ·exact sr (ck 3 (en (re (qR (qr (by cases H;exact pr (rO (v:=.agg [.d (.int .i64 4),.d (.int .i64 0),.d (.str r150),.d (.nil),.d (.nil),.d (.int .i64 0),.d (.int .i64 0),.d (.int .i64 0),.d (.nil),.d (.int .i64 0)]) [] (a1 (c1 vd (c1 vd (c1 vd (c1 vz (c1 vn (c1 vd (c1 vd (c1 vd (c1 vn (c1 vd (c0)))))))))))))))))))
    ·refine sr (ck 2 (en (cn H (λ H=>?_) (λ H=>?_))))
     ·exact sr (ck 2 (bx H λ r152 h408 H=>ca false (TC h408) (ck 2 (en (re (qR (qr (by cases H;exact pr (rO (v:=.agg [.d (.int .i64 5),.d (.int .i64 0),.d (.str []),.d (.nil),.d (.sl (r152.map AC)),.d (.int .i64 0),.d (.int .i64 0),.d (.int .i64 0),.d (.nil),.d (.int .i64 0)]) [] (a1 (c1 vd (c1 vd (c1 vd (c1 vz (c1 vd (c1 vd (c1 vd (c1 vd (c1 vn (c1 vd (c0)))))))))))))))))))))
     ·refine sr (ck 2 (en (cn H (λ H=>?_) (λ H=>?_))))
      ·refine sr (ck 6 (sp (Av (Je eU8) p0_.P.F) (ck 1 (bx H λ l51 h409 H=>sp (Jao (Je eU8) 6 h409) (ck 3 (en (sr (ck 2 (bx H λ r153 h410 H=>ca false (TD h410) (ck 2 (en (sr (ck 1 (bx H λ r154 h411 H=>ca false (Kt h411) (en (cn H (λ H=>?_) (λ H=>?_)))))))))))))))))
       ·exact sr (ck 3 (en (re (qR (qr (by cases H;exact pr (rO (v:=.agg [.d (.int .i64 6),.d (.int .i64 0),.d (.str []),.d (.nil),.d (.nil),.d (.int .i64 r153.W),.d (.int .i64 r153.H),.d (.int .i64 r153.Gap),.d (.sl (r153.F.map As)),.d (.int .i64 0)]) [] (a1 (c1 vd (c1 vd (c1 vd (c1 vz (c1 vn (c1 vd (c1 vd (c1 vd (c1 vd (c1 vd (c0)))))))))))))))))))
       ·exact sk (qN (qs (sg [4,5]) (hFR17_Block_J1 () H)))
      ·refine sr (ck 2 (en (cn H (λ H=>?_) (λ H=>?_))))
       ·exact sr (ck 6 (en (re (qR (qr (by cases H;exact pr (rO (v:=.agg [.d (.int .i64 7),.d (.int .i64 0),.d (.str []),.d (.nil),.d (.nil),.d (.int .i64 0),.d (.int .i64 0),.d (.int .i64 0),.d (.nil),.d (.int .i64 (Ai .i64 1 (IntKind.i64.wrap p0_.N)))]) [] (a1 (c1 vd (c1 vd (c1 vd (c1 vz (c1 vn (c1 vd (c1 vd (c1 vd (c1 vn (c1 vd (c0)))))))))))))))))))
       ·exact sk (qN (qs (sg [4,5]) (hFR17_Block_J1 () H)))
   refine sr (ck 2 (en (cn H (λ H=>?_) (λ H=>?_))))
   ·exact sk (qs (tr (tr (tr (Bv 1 3 1 (by kernel_rfl)) (Bv 1 4 2 (by kernel_rfl))) (Bv 1 8 3 (by kernel_rfl))) (sg [2,4,5,19,77])) (hFR17_Block_J2 ((Ah p0_.Kind 9)==3) H))
   ·exact rz (ck 2 (ae (qs (tr (tr (tr (Bv 1 3 1 (by kernel_rfl)) (Bv 1 4 2 (by kernel_rfl))) (Bv 1 8 3 (by kernel_rfl))) (sg [2,4,5,19,77])) (hFR17_Block_J2 ((Ah p0_.Kind 9)==4) H))))
end
section
variable (p0_:Ae)
def JhU:St:=⟨(0,.agg [.d (.int .i64 p0_.W),.d (.int .i64 p0_.H),.d (.int .i64 p0_.Gap),.d (.sl (p0_.F.map As))])::[],[]⟩
variable {p0_}
theorem Ng {z} (H:J4 n p0_=some z):Ap Tryz.prog 64 [.agg (AF p0_)] (.d (.bool z)):=by
 exact fO 22 (JhU p0_) Tryz.func64 (sr (ck 2 (en (sr (ck 5 (gc 2 (p0_.W==0) (pA (ck 2 (gc 2 ((p0_.W==0)&&(p0_.H==0)) (pA (ck 2 (gc 1 (((p0_.W==0)&&(p0_.H==0))&&(p0_.Gap==0)) (sE (g:=(((p0_.W==0)&&(p0_.H==0))&&(p0_.Gap==0))) (λ hg=>Av As p0_.F) (gc 1 (((p0_.W==0)&&(p0_.H==0))&&(p0_.Gap==0)) (pA (ck 1 (en (re (by cases H;exact pr rd)))))))))))))))))))
end
section
variable (p0_:Int)
def JhV:St:=⟨(0,.d (.int .u8 p0_))::[],[]⟩
variable {p0_}
theorem Ok {z} (H:HJ n p0_=some z):Ap Tryz.prog 87 [.d (.int .u8 p0_)] (.d (.bool z)):=by
 exact fO 11 (JhV p0_) Tryz.func87 (sr (ck 1 (en (sr (ck 5 (gc 2 (decide (D6 .u8 p0_ 127>=32)) (pA (ck 1 (en (re (by cases H;exact pr rd)))))))))))
end
section
variable (p0_:(List UInt8)) (i_31:Int)
def JhW:St:=⟨(0,.d (.str p0_))::[],[]⟩
def JhX:St:=⟨(0,.d (.str p0_))::(4,.d (.int .i64 i_31))::[],[]⟩
def JhY:St:=⟨(0,.d (.str p0_))::[],[]⟩
def R4:(Unit⊕(Int×Int))->Ex->St->Prop:=xS (xX 0 0 (λ (y:Unit)=>JhY p0_)) (xR ty Tryz.f68 (λ (y:(Int×Int))=>.tup [.d (.int .i64 y.1),.d (.int .i64 y.2)]))
def LF:Int->St:=(λ (x:Int)=>JhX p0_ x)
variable {p0_ i_31}
theorem Ku (x:Int) (z:(Int⊕(Unit⊕(Int×Int)))) (H:Hl n p0_ x=some z):WP (cxk 19 0) (Ay Tryz.f68) [1,0,1,0,0] (Ax 0 (LF p0_) (R4 p0_) z) (LF p0_ x):=by
 revert H
 generalize x=i_31
 intro H
 refine sq (sr (ck 4 (en (cn H (λ H=>?_) (λ H=>?_)))))
 ·refine sk (qz (sq (bk 1 (sr (ck 2 (bx H λ b6 h412 H=>sp (FY h412) (bx H λ r155 h413 H=>ca false (Ok h413) (ck 1 (en (cn H (λ H=>?_) (λ H=>?_)))))))))))
  ·exact sr (ck 3 (en (re (qR (qr (by cases H;exact ro rfl rdT))))))
  ·exact sk (qN (qz (rz (ck 3 (ae (by cases H;exact og (sg [0,4])))))))
 ·exact ex 0 (qx (by cases H;exact xo rfl (sg [0])))
theorem Vi {z} (H:MS n p0_=some z):Ap Tryz.prog 68 [.d (.str p0_)] (.tup [.d (.int .i64 z.1),.d (.int .i64 z.2)]):=by
 refine fO 19 (JhW p0_) Tryz.func68 (sr (ck 2 (en (sq (sr (ck 1 (en (bk 0 (bx H λ y132 h414 H=>?_)))))))))
 rcases y132 with y133|y134
 ·exact lX Ku h414 (sg [0,4]) rfl λ s hE101=>qH (qs (hE101) (sr (ck 4 (en (re (by cases H;exact pr rdT))))))
 ·exact lR Ku h414 (sg [0,4]) rfl λ s hE102=>qR (qr (by cases H;exact pr hE102))
end
section
variable (p0_:(List UInt8))
def JhZ:St:=⟨(0,.d (.str p0_))::[],[]⟩
variable {p0_}
theorem R5 {z} (H:IU n p0_=some z):Ap Tryz.prog 48 [.d (.str p0_)] (.d (.bool z)):=by
 exact fO 12 (JhZ p0_) Tryz.func48 (sr (ck 1 (en (sr (ck 1 (bx H λ r156 h415 H=>ca false (Vi h415) (ck 5 (en (sr (ck 3 (en (re (by cases H;exact pr rd)))))))))))))
end
section
variable (p0_:Int)
def Jh0:St:=⟨(0,.d (.int .u8 p0_))::[],[]⟩
variable {p0_}
theorem Gk {z} (H:Gq n p0_=some z):Ap Tryz.prog 49 [.d (.int .u8 p0_)] (.d (.bool z)):=by
 exact fO 6 (Jh0 p0_) Tryz.func49 (sr (ck 1 (en (sr (ck 4 (en (re (by cases H;exact pr rd))))))))
end
section
variable (p0_:(List UInt8)) (i_32:Int)
def Jh1:St:=⟨(0,.d (.str p0_))::[],[]⟩
def Jh2:St:=⟨(0,.d (.str p0_))::(3,.d (.int .i64 i_32))::[],[]⟩
def Jh3:St:=⟨[],[]⟩
def Ri:(Unit⊕Bool)->Ex->St->Prop:=xS (xX 0 0 (λ (y:Unit)=>Jh3)) (xR ty Tryz.f33 (λ (y:Bool)=>.d (.bool y)))
def Kv:Int->St:=(λ (x:Int)=>Jh2 p0_ x)
variable {p0_ i_32}
theorem Jx (x:Int) (z:(Int⊕(Unit⊕Bool))) (H:IV n p0_ x=some z):WP (cxk 47 0) (Ay Tryz.f33) [1,1,0,1,0,0] (Ax 0 (Kv p0_) (Ri) z) (Kv p0_ x):=by
 revert H
 generalize x=i_32
 intro H
 refine sq (sr (ck 4 (en (cn H (λ H=>?_) (λ H=>?_)))))
 ·refine sk (qz (sq (bk 1 (sr (ck 2 (bx H λ b9 h421 H=>sp (FY h421) (bx H λ r160 h422 H=>ca false (Gk h422) (ck 3 (gc 1 r160 (bx H λ b10 h423 H=>sE (λ hg=>FY (Bc h423 hg)) (bx H λ r161 h424 H=>cG false (leZ) rfl (λ hg=>Gk (Bc h424 hg)) (Or.inl rfl) (Ca (λ hh=>hh) (Dd)) rfl (pA (en (cn H (λ H=>?_) (λ H=>?_)))))))))))))))
  ·exact sr (ck 1 (en (re (qR (qr (by cases H;exact ro rfl rd))))))
  ·exact sk (qN (qz (rz (ck 3 (ae (by cases H;exact og (sg [0,3])))))))
 ·exact ex 0 (qx (by cases H;exact xo rfl (sg [])))
theorem EB {z} (H:E6 n p0_=some z):Ap Tryz.prog 33 [.d (.str p0_)] (.d (.bool z)):=by
 refine fO 47 (Jh1 p0_) Tryz.func33 (sr (ck 1 (en (sq (sr (ck 1 (bx H λ r157 h416 H=>ca false (R5 h416) (ck 3 (gc 2 (!(!r157)) (pO (ck 2 (gc 2 (!((!r157)||(((p0_.length:Nat):Int)==0))) (pO (ck 2 (bx H λ b7 h417 H=>sE (λ hg=>FY (Bc h417 hg)) (bx H λ r158 h418 H=>cG false (leZ) rfl (λ hg=>Gk (Bc h418 hg)) (Or.inl rfl) (Ca (λ hh=>hh) (Dd)) rfl (pO (ck 3 (gc 2 (!((((!r157)||(((p0_.length:Nat):Int)==0))||(decide (((p0_.length:Nat):Int)>400)))||r158)) (bx H λ b8 h419 H=>sE (λ hg=>FY (Bc h419 hg)) (bx H λ r159 h420 H=>cG false (leZ) rfl (λ hg=>Gk (Bc h420 hg)) (Or.inl rfl) (Ca (λ hh=>hh) (Dd)) rfl (pO (en (cn H (λ H=>?_) (λ H=>?_)))))))))))))))))))))))))
 ·exact sr (ck 1 (en (re (qr (by cases H;exact pr rd)))))
 ·refine sk (qz (sq (sr (ck 1 (en (bk 0 (bx H λ y135 h425 H=>?_)))))))
  rcases y135 with y136|y137
  ·exact lX Jx h425 (sg [0,3]) rfl λ s hE103=>qH (qs (hE103) (sr (ck 1 (en (re (by cases H;exact pr rd))))))
  ·exact lR Jx h425 (sg [0,3]) rfl λ s hE104=>qR (qr (by cases H;exact pr hE104))
end
section
variable (p0_:(List (List (List UInt8)))) (i_33:Int) (k_22:Int)
def Jh4:St:=⟨(0,.d (.sl (p0_.map (eL eS))))::[],[]⟩
def Jh5:St:=⟨(0,.d (.sl (p0_.map (eL eS))))::(3,.d (.int .i64 i_33))::[],[]⟩
def Jh6:St:=⟨[],[]⟩
def Jh7:St:=⟨(0,.d (.sl (p0_.map (eL eS))))::(3,.d (.int .i64 i_33))::(4,.d (.int .i64 k_22))::[],[]⟩
def Jh8:St:=⟨(0,.d (.sl (p0_.map (eL eS))))::(3,.d (.int .i64 i_33))::[],[]⟩
def Nh:(Unit⊕Bool)->Ex->St->Prop:=xS (xX 0 2 (λ (y:Unit)=>Jh8 p0_ i_33)) (xR ty Tryz.f65 (λ (y:Bool)=>.d (.bool y)))
def Ht:Int->St:=(λ (x:Int)=>Jh7 p0_ i_33 x)
def Ni:(Unit⊕Bool)->Ex->St->Prop:=xS (xX 0 0 (λ (y:Unit)=>Jh6)) (xR ty Tryz.f65 (λ (y:Bool)=>.d (.bool y)))
def Hu:Int->St:=(λ (x:Int)=>Jh5 p0_ x)
variable {p0_ i_33 k_22}
theorem GX (x:Int) (z:(Int⊕(Unit⊕Bool))) (H:DC n p0_ i_33 x=some z):WP (cxk 74 0) (Ay Tryz.f65) [1,1,0,1,0,0,1,0,0,1,1,0,0] (Ax 0 (Ht p0_ i_33) (Nh p0_ i_33) z) (Ht p0_ i_33 x):=by
 revert H
 generalize x=k_22
 intro H
 refine sq (sr (ck 3 (bx H λ x116 h430 H=>sp (Am (eL eS) h430) (ck 1 (sp (Av eS x116) (ck 1 (en (cn H (λ H=>?_) (λ H=>?_)))))))))
 ·refine sk (qz (sq (bk 3 (sr (ck 2 (bx H λ x117 h431 H=>sp (Am (eL eS) h431) (ck 2 (bx H λ x118 h432 H=>sp (Am eS h432) (ck 1 (bx H λ r162 h433 H=>ca false (EB h433) (ck 4 (bx H λ x119 h434 H=>sE (λ hg=>Am (eL eS) (Bc h434 hg)) (gc 1 (!(!r162)) (ck 1 (bx H λ x120 h435 H=>sE (λ hg=>Am eS (Bc h435 hg)) (gc 3 (!(!r162)) (pO (en (cn H (λ H=>?_) (λ H=>?_))))))))))))))))))))
  ·exact sr (ck 1 (en (re (qR (qr (by cases H;exact ro rfl rd))))))
  ·exact sk (qN (qz (rz (ck 3 (ae (by cases H;exact og (sg [0,3,4])))))))
 ·exact ex 2 (qx (by cases H;exact xo rfl (sg [0,3])))
theorem GY (x:Int) (z:(Int⊕(Unit⊕Bool))) (H:DD n p0_ x=some z):WP (cxk 74 0) (Ay Tryz.f65) [1,1,0,1,0,0] (Ax 0 (Hu p0_) (Ni) z) (Hu p0_ x):=by
 revert H
 generalize x=i_33
 intro H
 refine sq (sr (ck 2 (sp (Av (eL eS) p0_) (ck 1 (en (cn H (λ H=>?_) (λ H=>?_)))))))
 ·refine sk (qz (sq (bk 1 (sq (sr (ck 2 (bx H λ x112 h426 H=>sp (Am (eL eS) h426) (ck 1 (sp (Av eS x112) (ck 1 (bx H λ x113 h427 H=>sp (Am (eL eS) h427) (ck 1 (sp (Av eS x113) (ck 4 (bx H λ x114 h428 H=>sE (λ hg=>Am (eL eS) (Bc h428 hg)) (gc 1 (!(((x112.length:Nat):Int) != ((x113.length:Nat):Int))) (sE (g:=(!(((x112.length:Nat):Int) != ((x113.length:Nat):Int)))) (λ hg=>Av eS x114) (gc 1 (!(((x112.length:Nat):Int) != ((x113.length:Nat):Int))) (pO (ck 3 (bx H λ x115 h429 H=>sE (λ hg=>Am (eL eS) (Bc h429 hg)) (gc 1 (!((((x112.length:Nat):Int) != ((x113.length:Nat):Int))||(decide (((x114.length:Nat):Int)<1)))) (sE (g:=(!((((x112.length:Nat):Int) != ((x113.length:Nat):Int))||(decide (((x114.length:Nat):Int)<1))))) (λ hg=>Av eS x115) (gc 1 (!((((x112.length:Nat):Int) != ((x113.length:Nat):Int))||(decide (((x114.length:Nat):Int)<1)))) (pO (en (cn H (λ H=>?_) (λ H=>?_))))))))))))))))))))))))))))
  ·exact sr (ck 1 (en (re (qr (qR (qr (by cases H;exact ro rfl rd)))))))
  ·refine sk (qz (sr (ck 1 (en (bk 2 (bx H λ y138 h436 H=>?_))))))
   rcases y138 with y139|y140
   ·exact lX GX h436 (sg [0,3,4]) rfl λ s hE105=>qH (qN (qs (hE105) (rz (ck 3 (ae (by cases H;exact og (sg [0,3])))))))
   ·exact lR GX h436 (sg [0,3,4]) rfl λ s hE106=>qR (qR (qr (by cases H;exact ro rfl hE106)))
 ·exact ex 0 (qx (by cases H;exact xo rfl (sg [])))
theorem Pv {z} (H:Et n p0_=some z):Ap Tryz.prog 65 [.d (.sl (p0_.map (eL eS)))] (.d (.bool z)):=by
 refine fO 74 (Jh4 p0_) Tryz.func65 (sr (ck 1 (en (sq (sr (ck 1 (sp (Av (eL eS) p0_) (ck 3 (sE (g:=(!(decide (((p0_.length:Nat):Int)<1)))) (λ hg=>Av (eL eS) p0_) (gc 1 (!(decide (((p0_.length:Nat):Int)<1))) (pO (en (cn H (λ H=>?_) (λ H=>?_))))))))))))))
 ·exact sr (ck 1 (en (re (qr (by cases H;exact pr rd)))))
 ·refine sk (qz (sq (sr (ck 1 (en (bk 0 (bx H λ y141 h437 H=>?_)))))))
  rcases y141 with y142|y143
  ·exact lX GY h437 (sg [0,3]) rfl λ s hE107=>qH (qs (hE107) (sr (ck 1 (en (re (by cases H;exact pr rd))))))
  ·exact lR GY h437 (sg [0,3]) rfl λ s hE108=>qR (qr (by cases H;exact pr hE108))
end
section
variable (p0_:(List Af)) (p1_:Int) (text_1:Bool) (level_1:Bool) (rows_1:Bool) (tree_1:Bool) (picture_1:Bool) (page_1:Bool) (x121:Af) (r163:Bool) (page_2:Bool) (k_23:Int) (page_3:Bool)
def Jh9:St:=⟨(0,.d (.sl (p0_.map Au)))::(1,.d (.int .i64 p1_))::[],[]⟩
def Jia:St:=⟨(6,.d (.bool text_1))::(7,.d (.bool level_1))::(8,.d (.bool rows_1))::(9,.d (.bool tree_1))::(10,.d (.bool picture_1))::(11,.d (.bool page_1))::[],[]⟩
def Jib:St:=⟨(0,.d (.sl (p0_.map Au)))::(1,.d (.int .i64 p1_))::(5,.ptr 0 0)::(6,.d (.bool (x121.Text==[])))::(7,.d (.bool (x121.Level==0)))::(8,.d (.bool (((x121.Rows.length:Nat):Int)==0)))::(9,.d (.bool (((x121.F.length:Nat):Int)==0)))::(10,.d (.bool r163))::(11,.d (.bool page_2))::(12,.d (.int .i64 k_23))::[],[some (.box (Tr x121))]⟩
def Jic:St:=⟨(6,.d (.bool (x121.Text==[])))::(7,.d (.bool (x121.Level==0)))::(8,.d (.bool (((x121.Rows.length:Nat):Int)==0)))::(9,.d (.bool (((x121.F.length:Nat):Int)==0)))::(10,.d (.bool r163))::(11,.d (.bool page_3))::[],[]⟩
def Pw:Bool->Ex->St->Prop:=xX 0 1 (λ (y:Bool)=>Jic x121 r163 y)
def Jy:(Bool×Int)->St:=(λ (x:(Bool×Int))=>Jib p0_ p1_ x121 r163 x.1 x.2)
variable {p0_ p1_ text_1 level_1 rows_1 tree_1 picture_1 page_1 x121 r163 page_2 k_23 page_3}
theorem Ol (x:(Bool×Int)) (z:((Bool×Int)⊕Bool)) (H:Fl n p0_ p1_ x121 r163 x.1 x.2=some z):WP (cxk 149 0) (Ay Tryz.f45) [1,1,1,1,0,1,0,1,1,1,1,1,1,1,1,1,1,1,1,1,0,1,1,0,0] (Ax 0 (Jy p0_ p1_ x121 r163) (Pw x121 r163) z) (Jy p0_ p1_ x121 r163 x):=by
 obtain ⟨page_2,k_23⟩:=x
 refine sq (sr (ck 3 (en (cn H (λ H=>?_) (λ H=>?_)))))
 ·exact sk (qz (sq (bk 2 (rz (ck 4 (bx H λ x124 h448 H=>sE (λ hg=>Am Au (Bc h448 hg)) (gc 4 page_2 (ck 2 (bx H λ x125 h449 H=>sE (λ hg=>Am Au (Bc h449 hg)) (gc 2 (page_2&&!(x124.Kind != 7)) (ck 1 (gc 2 (page_2&&!(x124.Kind != 7)) (pG (g:=page_2) (v:=.d (.bool ((x124.Kind != 7)||(decide (x125.Page<x121.Page))))) (λ hg=>De (c:=.gv page_2 (.d (.bool (x124.Kind != 7)))) (a:=.d (.bool true)) (b:=.gv (page_2&&!(x124.Kind != 7)) (.d (.bool (decide (x125.Page<x121.Page))))) rfl rfl rfl ((λ hh=>hh) hg) trivial (λ ht=>by rw [(λ hh=>hh) hg,ht];rfl)) (pA (ck 1 (ae (qN (qz (rz (ck 3 (ae (by cases H;exact og (sg [0,1,5,6,7,8,9,10,11,12])))))))))))))))))))))))
 ·exact ex 1 (qx (by cases H;exact xo rfl (sg [6,7,8,9,10,11])))
theorem LG {z} (H:IW n p0_ p1_=some z):Ap Tryz.prog 45 [.d (.sl (p0_.map Au)),.d (.int .i64 p1_)] (.d (.bool z)):=by
 refine fO 149 (Jh9 p0_ p1_) Tryz.func45 (sr (ck 1 (en (sr (ck 2 (bx H λ x121 h438 H=>sp (Am Au h438) (ck 3 (en (sr (ck 8 (en (sr (ck 2 (sp (Av (eL eS) x121.Rows) (ck 3 (sp (Av AC x121.F) (ck 3 (bx H λ r163 h439 H=>ca false (Ng h439) (ck 7 (en (sj (λ (x:(Bool×Bool×Bool×Bool×Bool×Bool))=>Jia x.1 x.2.1 x.2.2.1 x.2.2.2.1 x.2.2.2.2.1 x.2.2.2.2.2) (λ (x:(Bool×Bool×Bool×Bool×Bool×Bool))=>BZ n x.1 x.2.1 x.2.2.1 x.2.2.2.1 x.2.2.2.2.1 x.2.2.2.2.2) z ?_ (λ hFR17_Right_J1=>?_))))))))))))))))))))))
 ·rintro ⟨text_1,level_1,rows_1,tree_1,picture_1,page_1⟩ H
  exact sr (ck 3 (pA (ck 2 (pA (ck 2 (pA (ck 2 (pA (ck 2 (pA (ck 1 (en (re (by cases H;exact pr rd))))))))))))))
 refine sr (ck 2 (en (bk 0 (sr (ck 2 (en (cn H (λ H=>?_) (λ H=>?_))))))))
 ·exact rz (ck 2 (bx H λ r164 h440 H=>ca false (EB h440) (ck 1 (ae (qN (qs (sg [6,7,8,9,10,11]) (hFR17_Right_J1 (r164,(x121.Level==0),(((x121.Rows.length:Nat):Int)==0),(((x121.F.length:Nat):Int)==0),r163,(x121.Page==0)) H)))))))
 ·refine sr (ck 2 (en (cn H (λ H=>?_) (λ H=>?_))))
  ·exact rz (ck 2 (bx H λ r165 h441 H=>ca false (EB h441) (ck 5 (gc 2 (decide (x121.Level>=1)) (pA (ck 2 (ae (qN (qs (sg [6,7,8,9,10,11]) (hFR17_Right_J1 (r165,((decide (x121.Level>=1))&&(decide (x121.Level<=3))),(((x121.Rows.length:Nat):Int)==0),(((x121.F.length:Nat):Int)==0),r163,(x121.Page==0)) H))))))))))
  ·refine sr (ck 2 (en (cn H (λ H=>?_) (λ H=>?_))))
   ·exact rz (ck 2 (bx H λ r166 h442 H=>ca false (Pv h442) (ck 1 (ae (qN (qs (sg [6,7,8,9,10,11]) (hFR17_Right_J1 ((x121.Text==[]),(x121.Level==0),r166,(((x121.F.length:Nat):Int)==0),r163,(x121.Page==0)) H)))))))
   ·refine sr (ck 2 (en (cn H (λ H=>?_) (λ H=>?_))))
    ·exact rz (ck 2 (bx H λ r167 h443 H=>ca false (EB h443) (ck 2 (gc 1 r167 (pA (ck 3 (gc 1 (r167&&(decide (p1_>0))) (bx H λ x122 h444 H=>sE (λ hg=>Am Au (Bc h444 hg)) (gc 4 (r167&&(decide (p1_>0))) (ck 2 (gc 1 ((r167&&(decide (p1_>0)))&&!(x122.Kind==1)) (bx H λ x123 h445 H=>sE (λ hg=>Am Au (Bc h445 hg)) (gc 3 ((r167&&(decide (p1_>0)))&&!(x122.Kind==1)) (pG (g:=(r167&&(decide (p1_>0)))) (v:=.d (.bool ((x122.Kind==1)||(x123.Kind==4)))) (λ hg=>De (c:=.gv (r167&&(decide (p1_>0))) (.d (.bool (x122.Kind==1)))) (a:=.d (.bool true)) (b:=.gv ((r167&&(decide (p1_>0)))&&!(x122.Kind==1)) (.d (.bool (x123.Kind==4)))) rfl rfl rfl ((λ hh=>hh) hg) trivial (λ ht=>by rw [(λ hh=>hh) hg,ht];rfl)) (pA (ck 1 (ae (qN (qs (sg [6,7,8,9,10,11]) (hFR17_Right_J1 (((r167&&(decide (p1_>0)))&&((x122.Kind==1)||(x123.Kind==4))),(x121.Level==0),(((x121.Rows.length:Nat):Int)==0),(((x121.F.length:Nat):Int)==0),r163,(x121.Page==0)) H))))))))))))))))))))
    ·refine sr (ck 2 (en (cn H (λ H=>?_) (λ H=>?_))))
     ·exact rz (ck 2 (bx H λ r168 h446 H=>ca false (MZ h446) (ck 1 (ae (qN (qs (sg [6,7,8,9,10,11]) (hFR17_Right_J1 ((x121.Text==[]),(x121.Level==0),(((x121.Rows.length:Nat):Int)==0),r168,r163,(x121.Page==0)) H)))))))
     ·refine sr (ck 2 (en (cn H (λ H=>?_) (λ H=>?_))))
      ·exact rz (ck 2 (bx H λ r169 h447 H=>ca false (Kt h447) (ck 1 (ae (qN (qs (sg [6,7,8,9,10,11]) (hFR17_Right_J1 ((x121.Text==[]),(x121.Level==0),(((x121.Rows.length:Nat):Int)==0),(((x121.F.length:Nat):Int)==0),r169,(x121.Page==0)) H)))))))
      ·refine sr (ck 2 (en (cn H (λ H=>?_) (λ H=>?_))))
       ·exact sr (ck 5 (gc 2 (decide (x121.Page>=1)) (pA (ck 1 (en (sr (ck 1 (en (bk 1 (bx H λ y144 h450 H=>lX Ol h450 (sg [0,1,5,6,7,8,9,10,11,12]) rfl λ s hE109=>qH (qN (qs (tr (hE109) (sg [6,7,8,9,10,11])) (hFR17_Right_J1 ((x121.Text==[]),(x121.Level==0),(((x121.Rows.length:Nat):Int)==0),(((x121.F.length:Nat):Int)==0),r163,y144) H)))))))))))))
       ·exact sr (ck 1 (en (re (qR (qr (by cases H;exact pr rd))))))
end
section
variable (p0_:(List A7)) (p1_:Int) (p2_:(List UInt8)) (out_55:(List Af)) (i_34:Int) (out_56:(List Af)) (out_57:(List Af))
def Jid:St:=⟨(0,.d (.sl (p0_.map BJ)))::(1,.d (.int .i64 p1_))::(2,.d (.str p2_))::[],[]⟩
def Jie:St:=⟨(0,.d (.sl (p0_.map BJ)))::(1,.d (.int .i64 p1_))::(2,.d (.str p2_))::(7,.osl 0 10 0 (out_55.length))::(8,.d (.int .i64 i_34))::[],[some (.arr 10 (out_55.map Au))]⟩
def Jif:St:=⟨(7,.osl 0 10 0 (out_56.length))::[],[some (.arr 10 (out_56.map Au))]⟩
def Jig:St:=⟨(0,.d (.sl (p0_.map BJ)))::(1,.d (.int .i64 p1_))::(2,.d (.str p2_))::(7,.osl 0 10 0 (out_57.length))::(8,.d (.int .i64 i_34))::[],[some (.arr 10 (out_57.map Au))]⟩
def Rj:(List Af)->Ex->St->Prop:=xX 0 0 (λ (y:(List Af))=>Jif y)
def Kw:((List Af)×Int)->St:=(λ (x:((List Af)×Int))=>Jie p0_ p1_ p2_ x.1 x.2)
variable {p0_ p1_ p2_ out_55 i_34 out_56 out_57}
theorem Px (x:((List Af)×Int)) (z:(((List Af)×Int)⊕(List Af))) (H:Gh n p0_ p1_ p2_ x.1 x.2=some z):WP (cxk 42 0) (Ay Tryz.f29) [1,1,0,1,0,0] (Ax 0 (Kw p0_ p1_ p2_) (Rj) z) (Kw p0_ p1_ p2_ x):=by
 obtain ⟨out_55,i_34⟩:=x
 refine sq (sr (ck 2 (sp (Av BJ p0_) (ck 4 (gc 1 (decide (i_34<((p0_.length:Nat):Int))) (pA (en (cn H (λ H=>?_) (λ H=>?_)))))))))
 ·refine sk (qz (sj (λ (x:(List Af))=>Jig p0_ p1_ p2_ i_34 x) (λ (x:(List Af))=>IX n i_34 x) z ?_ (λ hFR17_Made_J1=>?_)))
  ·intro out_57 H
   exact rz (ck 3 (ae (by cases H;exact og (sg [0,1,2,7,8]))))
  refine bk 1 (sr (ck 3 (bx H λ x126 h451 H=>sp (Am BJ h451) (ck 2 (bx H λ r170 h452 H=>ca false (R3 h452) (ck 1 (bx H λ l52 h453 H=>sp (Bd Au 0 10 h453) (ck 1 (en (sr (ck 4 (bx H λ r171 h454 H=>cb (ks:=[2]) (obl:=[(0+List.length l52,List.length (l52.map Au))]) false (leK leM (leZ)) (CN Gv (CN rfl rfl)) (LG h454) (Or.inr trivial) rfl (ck 1 (en (cn H (λ H=>?_) (λ H=>?_))))))))))))))))
  ·exact rz (ck 4 (bx H λ l53 h455 H=>sp (LU 2 10 h455) (ck 1 (ae (qN (qs (tr (Jad (k:=2) (sz:=10) 7 (l53.map Au) (l53.length) (by kernel_rfl) (PJ h455) (Tk (enc:=Au) h455) (Xn h455)) (sg [0,1,2,7,8])) (hFR17_Made_J1 l53 H)))))))
  ·exact sk (qN (qs (sg [0,1,2,7,8]) (hFR17_Made_J1 l52 H)))
 ·exact ex 0 (qx (by cases H;exact xo rfl (sg [7])))
theorem TH {z} (H:NQ n p0_ p1_ p2_=some z):Ap Tryz.prog 29 [.d (.sl (p0_.map BJ)),.d (.int .i64 p1_),.d (.str p2_)] (.own 10 (z.map Au)):=by
 exact fO 42 (Jid p0_ p1_ p2_) Tryz.func29 (sr (ck 1 (en (sr (ck 2 (en (sq (sr (ck 1 (en (bk 0 (bx H λ y145 h456 H=>lX Px h456 (sg [0,1,2,7,8]) rfl λ s hE110=>qH (qs (hE110) (sr (ck 2 (en (re (by cases H;exact pr (rO (v:=.osl 0 10 0 (z.length)) [0] (ao vo))))))))))))))))))))
end
section
variable (p0_:(List A7))
def JjS:St:=⟨(0,.d (.sl (p0_.map BJ)))::[],[]⟩
variable {p0_}
theorem TI {z} (H:NR n p0_=some z):Ap Tryz.prog 9 [.d (.sl (p0_.map BJ))] (.own 10 (z.map Au)):=by
 exact fO 5 (JjS p0_) Tryz.func9 (sr (ck 1 (en (sr (ck 1 (bx H λ r172 h457 H=>cl [List.length r172] (TH h457) (ck 1 (en (re (by cases H;exact pr (rO (v:=.osl 0 10 0 (z.length)) [0] (ao vo))))))))))))
end
section
variable (p0_:(List Af)) (p1_:Int)
def Jih:St:=⟨(0,.d (.sl (p0_.map Au)))::(1,.d (.int .i64 p1_))::[],[]⟩
variable {p0_ p1_}
theorem Kx {z} (H:Fy n p0_ p1_=some z):Ap Tryz.prog 22 [.d (.sl (p0_.map Au)),.d (.int .i64 p1_)] (.d (.bool z)):=by
 exact fO 37 (Jih p0_ p1_) Tryz.func22 (sr (ck 1 (en (sr (ck 5 (sE (g:=decide (p1_>=0)) (λ hg=>Av Au p0_) (gc 1 (decide (p1_>=0)) (pA (ck 3 (bx H λ x127 h458 H=>sE (λ hg=>Am Au (Bc h458 hg)) (gc 4 ((decide (p1_>=0))&&(decide (p1_<((p0_.length:Nat):Int)))) (ck 2 (bx H λ x128 h459 H=>sE (λ hg=>Am Au (Bc h459 hg)) (gc 3 (((decide (p1_>=0))&&(decide (p1_<((p0_.length:Nat):Int))))&&!(x127.Kind==1)) (pG (g:=((decide (p1_>=0))&&(decide (p1_<((p0_.length:Nat):Int))))) (v:=.d (.bool ((x127.Kind==1)||(x128.Kind==2)))) (λ hg=>De (c:=.gv ((decide (p1_>=0))&&(decide (p1_<((p0_.length:Nat):Int)))) (.d (.bool (x127.Kind==1)))) (a:=.d (.bool true)) (b:=.gv (((decide (p1_>=0))&&(decide (p1_<((p0_.length:Nat):Int))))&&!(x127.Kind==1)) (.d (.bool (x128.Kind==2)))) rfl rfl rfl ((λ hh=>hh) hg) trivial (λ ht=>by rw [(λ hh=>hh) hg,ht];rfl)) (gc 1 ((decide (p1_>=0))&&(decide (p1_<((p0_.length:Nat):Int)))) (ck 2 (bx H λ x129 h460 H=>sE (λ hg=>Am Au (Bc h460 hg)) (gc 3 (((decide (p1_>=0))&&(decide (p1_<((p0_.length:Nat):Int))))&&!((x127.Kind==1)||(x128.Kind==2))) (pG (g:=((decide (p1_>=0))&&(decide (p1_<((p0_.length:Nat):Int))))) (v:=.d (.bool (((x127.Kind==1)||(x128.Kind==2))||(x129.Kind==4)))) (λ hg=>De (c:=.gv ((decide (p1_>=0))&&(decide (p1_<((p0_.length:Nat):Int)))) (.d (.bool ((x127.Kind==1)||(x128.Kind==2))))) (a:=.d (.bool true)) (b:=.gv (((decide (p1_>=0))&&(decide (p1_<((p0_.length:Nat):Int))))&&!((x127.Kind==1)||(x128.Kind==2))) (.d (.bool (x129.Kind==4)))) rfl rfl rfl ((λ hh=>hh) hg) trivial (λ ht=>by rw [(λ hh=>hh) hg,ht];rfl)) (pA (ck 1 (en (re (by cases H;exact pr rd)))))))))))))))))))))))))
end
end Go.AI
end
section
namespace Go.AI
open Go.Proofs
set_option maxRecDepth 10000
variable {n:Nat}
section
variable (p0_:(List Af)) (p1_:A0) (p2_:(List UInt8)) (l_1:(List Int)) (i_35:Int) (l_2:(List Int)) (l_3:(List Int)) (c_4:Ac)
def Jii:St:=⟨(0,.d (.sl (p0_.map Au)))::(1,.agg [.d (.int .u8 p1_.Block),.d (.int .u8 p1_.At),.d (.int .u8 p1_.Cut),.d (.sl (p1_.Put.map eU8))])::(2,.d (.str p2_))::[],[]⟩
def Jij:St:=⟨(0,.d (.sl (p0_.map Au)))::(2,.d (.str p2_))::(4,.ptr 0 0)::(6,.ptr 1 0)::(7,.osl 2 1 0 (l_1.length))::(8,.d (.int .i64 i_35))::[],[some (.box (CO p1_)),some (.box [.d (.int .i64 0),.d (.int .i64 0),.d (.int .i64 0),.d (.str [])]),some (.arr 1 (l_1.map A9))]⟩
def Jik:St:=⟨(0,.d (.sl (p0_.map Au)))::(2,.d (.str p2_))::(4,.ptr 0 0)::(6,.ptr 1 0)::(7,.osl 2 1 0 (l_2.length))::[],[some (.box (CO p1_)),some (.box [.d (.int .i64 0),.d (.int .i64 0),.d (.int .i64 0),.d (.str [])]),some (.arr 1 (l_2.map A9))]⟩
def Jil:St:=⟨(0,.d (.sl (p0_.map Au)))::(2,.d (.str p2_))::(4,.ptr 0 0)::(6,.ptr 1 0)::(7,.osl 2 1 0 (l_3.length))::(8,.d (.int .i64 i_35))::[],[some (.box (CO p1_)),some (.box [.d (.int .i64 0),.d (.int .i64 0),.d (.int .i64 0),.d (.str [])]),some (.arr 1 (l_3.map A9))]⟩
def Rk:(List Int)->Ex->St->Prop:=xX 0 0 (λ (y:(List Int))=>Jik p0_ p1_ p2_ y)
def Ky:((List Int)×Int)->St:=(λ (x:((List Int)×Int))=>Jij p0_ p1_ p2_ x.1 x.2)
def Jim:St:=⟨(6,.ptr 0 0)::(9,.ptr 1 0)::[],[some (.box [.d (.int .i64 0),.d (.int .i64 0),.d (.int .i64 0),.d (.str [])]),some (.box (Cn c_4))]⟩
variable {p0_ p1_ p2_ l_1 i_35 l_2 l_3 c_4}
theorem Py (x:((List Int)×Int)) (z:(((List Int)×Int)⊕(List Int))) (H:Gi n p0_ p1_ p2_ x.1 x.2=some z):WP (cxk 77 0) (Ay Tryz.f10) [1,1,0,1,0,0] (Ax 0 (Ky p0_ p1_ p2_) (Rk p0_ p1_ p2_) z) (Ky p0_ p1_ p2_ x):=by
 obtain ⟨l_1,i_35⟩:=x
 refine sq (sr (ck 2 (sp (Av Au p0_) (ck 1 (en (cn H (λ H=>?_) (λ H=>?_)))))))
 ·refine sk (qz (sj (λ (x:(List Int))=>Jil p0_ p1_ p2_ i_35 x) (λ (x:(List Int))=>IY n i_35 x) z ?_ (λ hFR32_Made_J1=>?_)))
  ·intro l_3 H
   exact rz (ck 3 (ae (by cases H;exact og (sg [0,2,4,6,7,8]))))
  refine bk 1 (sr (ck 2 (bx H λ r173 h461 H=>ca false (Kx h461) (en (cn H (λ H=>?_) (λ H=>?_))))))
  ·exact rz (ck 3 (bx H λ l54 h462 H=>sp (Bd A9 2 1 h462) (ck 1 (ae (qN (qs (sg [0,2,4,6,7,8]) (hFR32_Made_J1 l54 H)))))))
  ·exact sk (qN (qs (sg [0,2,4,6,7,8]) (hFR32_Made_J1 l_1 H)))
 ·exact ex 0 (qx (by cases H;exact xo rfl (sg [0,2,4,6,7])))
theorem TJ {z} (H:NS n p0_ p1_ p2_=some z):Ap Tryz.prog 10 [.d (.sl (p0_.map Au)),.agg (CO p1_),.d (.str p2_)] (.agg [.d (.int .i64 z.Block),.d (.int .i64 z.At),.d (.int .i64 z.Cut),.d (.str z.Put)]):=by
 refine fO 77 (Jii p0_ p1_ p2_) Tryz.func10 (sr (ck 2 (en (sr (ck 2 (en (sq (sr (ck 1 (en (bk 0 (bx H λ y146 h463 H=>lX Py h463 (sg [0,2,4,6,7,8]) rfl λ s hE111=>qH (qs (hE111) (sq (sr (ck 3 (en (cn H (λ H=>?_) (λ H=>?_)))))))))))))))))))
 ·exact sr (ck 5 (en (re (qr (by cases H;exact pr rd)))))
 ·refine sk (qz (sr (ck 6 (bx H λ gd12 h464 H=>so (D8 h464) (bx H λ x130 h465 H=>sp (Bi 2 1 h465) (sp (B9 A9 2 0 (ty 3) h465) (ck 3 (en (sr (ck 3 (bx H λ x131 h466 H=>sp (Am Au h466) (ck 4 (en (sr (ck 5 (bx H λ gd13 h467 H=>so (D8 h467) (ck 2 (en (sr (ck 9 (bx H λ gd14 h468 H=>so (D8 h468) (ck 2 (en (sj (λ (x:Ac)=>Jim x) (λ (x:Ac)=>IZ n x) z ?_ (λ hFR32_Made_J2=>?_)))))))))))))))))))))))))
  ·intro c_4 H
   exact sr (ck 2 (en (re (by cases H;exact pr rd))))
  refine sr (ck 2 (sp (Av eU8 p1_.Put) (ck 1 (en (cn H (λ H=>?_) (λ H=>?_))))))
  ·exact rz (ck 3 (bx H λ r174 h469 H=>ca false (I4 h469) (ck 2 (ae (qs (sg [6,9]) (hFR32_Made_J2 ({ Block:=x130,At:=Ah (IntKind.i64.wrap p1_.At) (Ai .i64 ((x131.Text.length:Nat):Int) 1),Cut:=Ah (IntKind.i64.wrap (Ah p1_.Cut 4)) (Ai .i64 (AT .i64 ((x131.Text.length:Nat):Int) (Ah (IntKind.i64.wrap p1_.At) (Ai .i64 ((x131.Text.length:Nat):Int) 1))) 1),Put:=r174 }:Ac) H))))))
  ·exact sk (qs (sg [6,9]) (hFR32_Made_J2 ({ Block:=x130,At:=Ah (IntKind.i64.wrap p1_.At) (Ai .i64 ((x131.Text.length:Nat):Int) 1),Cut:=Ah (IntKind.i64.wrap (Ah p1_.Cut 4)) (Ai .i64 (AT .i64 ((x131.Text.length:Nat):Int) (Ah (IntKind.i64.wrap p1_.At) (Ai .i64 ((x131.Text.length:Nat):Int) 1))) 1),Put:=[] }:Ac) H))
end
section
variable (p0_:(List UInt8)) (p1_:Ac)
def Jin:St:=⟨(0,.d (.str p0_))::(1,.agg [.d (.int .i64 p1_.Block),.d (.int .i64 p1_.At),.d (.int .i64 p1_.Cut),.d (.str p1_.Put)])::[],[]⟩
variable {p0_ p1_}
theorem TL {z} (H:KP n p0_ p1_=some z):Ap Tryz.prog 23 [.d (.str p0_),.agg (Cn p1_)] (.tup [.d (.str z.1),.d (.bool z.2)]):=by
 refine fO 46 (Jin p0_ p1_) Tryz.func23 (sr (ck 3 (en (sq (sr (ck 5 (gc 2 (!(decide (p1_.At<0))) (pO (ck 2 (gc 1 (!((decide (p1_.At<0))||(decide (p1_.Cut<0)))) (ck 1 (gc 2 (!((decide (p1_.At<0))||(decide (p1_.Cut<0)))) (pO (ck 2 (gc 1 (!(((decide (p1_.At<0))||(decide (p1_.Cut<0)))||(decide (p1_.At>((p0_.length:Nat):Int))))) (ck 1 (gc 1 (!(((decide (p1_.At<0))||(decide (p1_.Cut<0)))||(decide (p1_.At>((p0_.length:Nat):Int))))) (ck 1 (gc 3 (!(((decide (p1_.At<0))||(decide (p1_.Cut<0)))||(decide (p1_.At>((p0_.length:Nat):Int))))) (pO (en (cn H (λ H=>?_) (λ H=>?_)))))))))))))))))))))))
 ·exact sr (ck 2 (en (re (qr (by cases H;exact pr rdT)))))
 ·exact sk (qz (sr (ck 3 (bx H λ s10 h470 H=>sp (IP h470) (ck 2 (bx H λ s11 h471 H=>sp (NH h471) (ck 6 (bx H λ s12 h472 H=>sp (IP h472) (bx H λ s13 h473 H=>sp (NH h473) (ck 2 (en (re (by cases H;exact pr rdT)))))))))))))
end
section
variable (p0_:(List Af)) (p1_:Ac)
def Jio:St:=⟨(0,.d (.sl (p0_.map Au)))::(1,.agg [.d (.int .i64 p1_.Block),.d (.int .i64 p1_.At),.d (.int .i64 p1_.Cut),.d (.str p1_.Put)])::[],[]⟩
variable {p0_ p1_}
theorem R6 {z} (H:I0 n p0_ p1_=some z):Ap Tryz.prog 12 [.d (.sl (p0_.map Au)),.agg (Cn p1_)] (.tup [.own 10 (z.1.map Au),.d (.int .i64 z.2)]):=by
 refine fO 42 (Jio p0_ p1_) Tryz.func12 (sr (ck 3 (en (sq (sr (ck 3 (bx H λ r175 h474 H=>ca false (Kx h474) (ck 1 (en (cn H (λ H=>?_) (λ H=>?_)))))))))))
 ·exact sr (ck 2 (en (re (qr (by cases H;exact pr (rT (vs:=[.d (.nil),.d (.int .i64 320)]) [] (t1 (ad vz) (t1 (ad vd) (t0)))))))))
 ·refine sk (qz (sr (ck 3 (bx H λ x132 h475 H=>sp (Am Au h475) (ck 3 (bx H λ r176 h476 H=>ca false (TL h476) (ck 5 (en (sq (sr (ck 4 (bx H λ r177 h477 H=>cG false (leZ) rfl (λ hg=>EB (Bc h477 hg)) (Or.inl rfl) (Ca (λ hh=>hh) (Dd)) rfl (gc 1 (!(!r176.2)) (pO (en (cn H (λ H=>?_) (λ H=>?_)))))))))))))))))
  ·exact sr (ck 2 (en (re (qr (by cases H;exact pr (rT (vs:=[.d (.nil),.d (.int .i64 320)]) [] (t1 (ad vz) (t1 (ad vd) (t0)))))))))
  ·exact sk (qz (sr (ck 2 (bx H λ l55 h478 H=>sp (Tl Au 1 10 h478) (ck 1 (en (sr (ck 4 (bx H λ x133 h479 H=>sp (Bi 2 10 h479) (ck 1 (bx H λ l56 h480 H=>stA Au 2 2 (ty 9) h479 h480 (en (sq (rg (tr (tr (sn 34 2 10 (CG h480)) (sn 8 2 10 (CG h480))) (sn 35 2 10 (CG h480))) (ck 3 (en (re (by cases H;exact pr (rT (vs:=[.osl 2 10 0 (l56.length),.d (.int .i64 0)]) [2] (t1 (ao vo) (t1 (ad vd) (t0))))))))))))))))))))))
end
section
variable (p0_:(List Af)) (i_36:Int)
def Jip:St:=⟨(0,.d (.sl (p0_.map Au)))::[],[]⟩
def Jiq:St:=⟨(0,.d (.sl (p0_.map Au)))::(4,.d (.int .i64 i_36))::[],[]⟩
def Jir:St:=⟨[],[]⟩
def Pz:(Unit⊕(Int×Int))->Ex->St->Prop:=xS (xX 0 0 (λ (y:Unit)=>Jir)) (xR ty Tryz.f35 (λ (y:(Int×Int))=>.tup [.d (.int .i64 y.1),.d (.int .i64 y.2)]))
def Jz:Int->St:=(λ (x:Int)=>Jiq p0_ x)
variable {p0_ i_36}
theorem Is (x:Int) (z:(Int⊕(Unit⊕(Int×Int)))) (H:Fm n p0_ x=some z):WP (cxk 19 0) (Ay Tryz.f35) [1,1,0,1,0,0] (Ax 0 (Jz p0_) (Pz) z) (Jz p0_ x):=by
 revert H
 generalize x=i_36
 intro H
 refine sq (sr (ck 2 (sp (Av Au p0_) (ck 1 (en (cn H (λ H=>?_) (λ H=>?_)))))))
 ·refine sk (qz (sq (bk 1 (sr (ck 2 (bx H λ r178 h481 H=>ca false (LG h481) (ck 1 (en (cn H (λ H=>?_) (λ H=>?_))))))))))
  ·exact sr (ck 3 (en (re (qR (qr (by cases H;exact ro rfl rdT))))))
  ·exact sk (qN (qz (rz (ck 3 (ae (by cases H;exact og (sg [0,4])))))))
 ·exact ex 0 (qx (by cases H;exact xo rfl (sg [])))
theorem R7 {z} (H:L4 n p0_=some z):Ap Tryz.prog 35 [.d (.sl (p0_.map Au))] (.tup [.d (.int .i64 z.1),.d (.int .i64 z.2)]):=by
 refine fO 19 (Jip p0_) Tryz.func35 (sr (ck 2 (en (sq (sr (ck 1 (sp (Av Au p0_) (ck 1 (en (cn H (λ H=>?_) (λ H=>?_)))))))))))
 ·exact sr (ck 2 (en (re (qr (by cases H;exact pr rdT)))))
 ·refine sk (qz (sq (sr (ck 1 (en (bk 0 (bx H λ y147 h482 H=>?_)))))))
  rcases y147 with y148|y149
  ·exact lX Is h482 (sg [0,4]) rfl λ s hE112=>qH (qs (hE112) (sr (ck 2 (en (re (by cases H;exact pr rdT))))))
  ·exact lR Is h482 (sg [0,4]) rfl λ s hE113=>qR (qr (by cases H;exact pr hE113))
end
section
variable (p0_:(List Af))
def Jis:St:=⟨(0,.d (.sl (p0_.map Au)))::[],[]⟩
variable {p0_}
theorem R8 {z} (H:I1 n p0_=some z):Ap Tryz.prog 14 [.d (.sl (p0_.map Au))] (.d (.bool z)):=by
 exact fO 12 (Jis p0_) Tryz.func14 (sr (ck 1 (en (sr (ck 1 (bx H λ r179 h483 H=>ca false (R7 h483) (ck 5 (en (sr (ck 3 (en (re (by cases H;exact pr rd)))))))))))))
end
section
variable (p0_:(List A7)) (p1_:A0) (p2_:(YP Int)) (r180:Bool) (r181:(List Af)) (r182:Ac) (i_37:Int)
def JjT:St:=⟨(0,.d (.sl (p0_.map BJ)))::(1,.agg [.d (.int .u8 p1_.Block),.d (.int .u8 p1_.At),.d (.int .u8 p1_.Cut),.d (.sl (p1_.Put.map eU8))])::(2,.agg [.d (.int .i8 p2_.a0),.d (.int .i8 p2_.a1),.d (.int .i8 p2_.a2)])::[],[]⟩
def JjU:St:=⟨(7,.d (.bool r180))::(8,.d (.sl (r181.map Au)))::(11,.osl 0 4 0 (List.length [r182,({ Block:=Ai .i64 r182.Block (IntKind.i64.wrap (Ah p2_.a0 3)),At:=Ai .i64 r182.At (IntKind.i64.wrap (Ah p2_.a1 4)),Cut:=Ai .i64 r182.Cut (IntKind.i64.wrap (Ah p2_.a2 4)),Put:=r182.Put }:Ac)]))::(12,.d (.int .i64 i_37))::[],[some (.arr 4 (List.map Ak [r182,({ Block:=Ai .i64 r182.Block (IntKind.i64.wrap (Ah p2_.a0 3)),At:=Ai .i64 r182.At (IntKind.i64.wrap (Ah p2_.a1 4)),Cut:=Ai .i64 r182.Cut (IntKind.i64.wrap (Ah p2_.a2 4)),Put:=r182.Put }:Ac)]))]⟩
def JjV:St:=⟨(7,.d (.bool r180))::[],[]⟩
def I6:(Unit⊕Bool)->Ex->St->Prop:=xS (xX 0 0 (λ (y:Unit)=>JjV r180)) (xR ty Tryz.f3 (λ (y:Bool)=>.d (.bool y)))
def EC:Int->St:=(λ (x:Int)=>JjU p2_ r180 r181 r182 x)
variable {p0_ p1_ p2_ r180 r181 r182 i_37}
theorem DV (x:Int) (z:(Int⊕(Unit⊕Bool))) (H:Cm n p2_ r180 r181 r182 x=some z):WP (cxk 97 0) (Ay Tryz.f3) [1,1,1,1,1,1,1,0,1,0,0] (Ax 0 (EC p2_ r180 r181 r182) (I6 r180) z) (EC p2_ r180 r181 r182 x):=by
 revert H
 generalize x=i_37
 intro H
 refine sq (sr (ck 2 (en (cn H (λ H=>?_) (λ H=>?_)))))
 ·refine sk (qz (sq (bk 1 (sr (ck 3 (bx H λ x134 h487 H=>sp (Bi 0 4 h487) (sp (B9 Ak 0 0 (ty 33) h487) (bx H λ r183 h488 H=>ca false (I2 h488) (ck 5 (en (sr (ck 3 (bx H λ x135 h489 H=>sp (Bi 0 4 h489) (sp (B9 Ak 0 0 (ty 33) h489) (bx H λ r184 h490 H=>ca false (R6 h490) (ck 5 (en (sq (sr (ck 2 (bx H λ r185 h491 H=>ca false (MW h491) (ck 4 (gc 1 (!(!r185)) (pO (en (cn H (λ H=>?_) (λ H=>?_)))))))))))))))))))))))))))
  ·exact sr (ck 1 (en (re (qr (qR (qr (by cases H;exact ro rfl rd)))))))
  ·refine sk (qz (sr (ck 4 (bx H λ r186 h492 H=>cG false (leZ) rfl (λ hg=>R8 (Bc h492 hg)) (Or.inl rfl) (Ca (λ hh=>hh) (Dd)) rfl (gc 2 (r183.2==0) (ck 1 (sE (g:=((r183.2==0)&&!(!r186))) (λ hg=>Av Au r183.1) (ck 1 (sE (g:=((r183.2==0)&&!(!r186))) (λ hg=>Av Au r181) (gc 1 ((r183.2==0)&&!(!r186)) (pG (g:=(r183.2==0)) (v:=.d (.bool ((!r186)||(((r183.1.length:Nat):Int) != ((r181.length:Nat):Int))))) (λ hg=>De (c:=.gv (r183.2==0) (.d (.bool (!r186)))) (a:=.d (.bool true)) (b:=.gv ((r183.2==0)&&!(!r186)) (.d (.bool (((r183.1.length:Nat):Int) != ((r181.length:Nat):Int))))) rfl rfl rfl ((λ hh=>hh) hg) trivial (λ ht=>by rw [(λ hh=>hh) hg,ht];rfl)) (pA (en (cn H (λ H=>?_) (λ H=>?_)))))))))))))))
   ·exact sr (ck 1 (en (re (qR (qr (by cases H;exact ro rfl rd))))))
   ·exact sk (qN (qz (rz (ck 3 (ae (by cases H;exact og (sg [7,8,11,12])))))))
 ·exact ex 0 (qx (by cases H;exact xo rfl (sg [7])))
theorem Kz {z} (H:Eu n p0_ p1_ p2_=some z):Ap Tryz.prog 3 [.d (.sl (p0_.map BJ)),.agg (CO p1_),.agg [.d (.int .i8 p2_.a0),.d (.int .i8 p2_.a1),.d (.int .i8 p2_.a2)]] (.d (.bool z)):=by
 refine fO 97 (JjT p0_ p1_ p2_) Tryz.func3 (sr (ck 3 (en (sr (bx H λ r180 h484 H=>ca true (Q0 h484) (ck 1 (en (sr (ck 1 (bx H λ r181 h485 H=>ca false (TI h485) (ck 1 (en (sr (ck 2 (bx H λ r182 h486 H=>ca false (TJ h486) (ck 2 (en (sr (ck 3 (en (sr (ck 27 (en (sr (ck 4 (en (sq (sr (ck 1 (en (bk 0 (bx H λ y150 h493 H=>?_))))))))))))))))))))))))))))))))
 rcases y150 with y151|y152
 ·exact lX DV h493 (sg [7,8,11,12]) rfl λ s hE114=>qH (qs (hE114) (sr (ck 2 (en (re (by cases H;exact pr rd))))))
 ·exact lR DV h493 (sg [7,8,11,12]) rfl λ s hE115=>qR (qr (by cases H;exact pr hE115))
end
end Go.AI
end
section
namespace Go.AI
def CRd (F:Nat->Option Obj) (l:List D) (cs:List Value):Prop:=l.length=cs.length/\∀ (i:Nat) (y:D) (v:Value),l[i]? = some y->cs[i]? = some v->Ba F y v
def DW {α:Type} (P:Program) (t:TypeId) (enc:α->List D) (ok:α->Prop):Prop:=
 ∀ (H:Type) (e:TypeId×Value->H) (w:World) (base:Nat) (spare:Nat->Bool) (held:Bool) (fuel:Nat) (cs:List Value) (x:DataW H×List MemPlace),DataW.trod e P w base spare held fuel t cs=some x->∃ a:α,ok a/\CRd (λ b=>w.heap[b]?) (enc a) cs
theorem TM {F:Nat->Option Obj} {y:D} {v:Value} (h:Ba F y v):CRd F [y] [v]:=by
 refine ⟨rfl,λ i a b ha hb=>?_⟩
 cases i with
 | zero=>simp at ha hb;subst ha;subst hb;exact h
 | succ i=>simp at ha
theorem SG {P:Program} {t:TypeId} {k:IntKind} (ht:P.underlying t=some (.int k)):DW P t (λ n=>[.int k n]) (λ n=>(Lit.int k n).wf=true):=by
 intro H e w base spare held fuel cs x h
 obtain ⟨n,rfl,_,hw⟩:=DataW.trod_int ht h
 exact ⟨n,hw,TM (.int k n)⟩
theorem Vj {α:Type} {Q:Nat->α->Prop}:∀ n,(∀ i,i<n->∃ a,Q i a)->∃ l:List α,l.length=n/\∀ i a,l[i]? = some a->Q i a:=by
 intro n
 induction n with
 | zero=>intro _;exact ⟨[],rfl,λ i a h=>by simp at h⟩
 | succ n ih=>
  intro h
  obtain ⟨l,hl,hq⟩:=ih λ i hi=>h i (by omega)
  obtain ⟨a,ha⟩:=h n (by omega)
  refine ⟨l++[a],by simp [hl],λ i b hb=>?_⟩
  rcases Jlc i l.length with hlt|hge
  ·rw [Jls hlt] at hb;exact hq i b hb
  ·rw [JlB hge] at hb
   have:i-l.length=0:=by have:=Ad hb;simp at this;omega
   rw [this] at hb
   simp at hb
   subst hb
   have:i=n:=by omega
   subst this
   exact ha
theorem Vk {α β:Type} {f:α->Option β}:∀ {l:List α} {r:List β},l.mapM f=some r->r.length=l.length/\∀ (i:Nat) (a:α),l[i]? = some a->r[i]? = f a:=by
 intro l
 induction l with
 | nil=>intro r h;simp at h;subst h;exact ⟨rfl,λ i a h=>by simp at h⟩
 | cons a l ih=>
  intro r h
  rw [List.mapM_cons] at h
  simp only [Option.bind_eq_bind,Option.bind_eq_some_iff,Option.pure_def,Jlv] at h
  obtain ⟨b,hb,r',hr',rfl⟩:=h
  obtain ⟨h1,h2⟩:=ih hr'
  refine ⟨by simp [h1],λ i x hx=>?_⟩
  cases i with
  | zero=>simp at hx;subst hx;simp [hb]
  | succ i=>simpa using h2 i x (by simpa using hx)
theorem Gl {α:Type} {P:Program} {t e:TypeId} {enc:α->List D} {ok:α->Prop} {sz:Nat} (ht:P.underlying t=some (.slice e)) (hsz:P.cellsOf e=sz) (h1:Nat.ble 1 sz=true) (hl:∀ a,(enc a).length=sz) (he:DW P e enc ok):DW P t (eL enc) (λ l=>l.length<=9223372036854775807/\∀ a∈l,ok a):=by
 intro H en w base spare held fuel cs x h
 have h1:=Jlz h1
 rcases DataW.trod_slice ht h with ⟨rfl,_⟩|⟨a,len,cap,elems,rest,n,_,rfl,_,_,hcap,hmx,hel,hget,_,_⟩
 ·exact ⟨[],⟨by simp,λ a h=>by simp at h⟩,TM (.sl0 _ _)⟩
 ·rw [hsz] at hget
  have hex:∀ i,i<len->∃ y:α,ok y/\∃ ci,w.cells? base (a.add (i*sz)) sz=some ci/\CRd (λ b=>w.heap[b]?) (enc y) ci:=λ i hi=>by
   have hg:=hget i hi
   rw [Jlk (show i<elems.length by omega)] at hg
   simp only [Option.bind_eq_some_iff] at hg
   obtain ⟨ci,hc,htr⟩:=hg
   obtain ⟨y,hy,hcr⟩:=he H en w base spare held n ci _ htr
   exact ⟨y,hy,ci,hc,hcr⟩
  obtain ⟨l,hll,hq⟩:=Vj len hex
  refine ⟨l,⟨by unfold maxLen at hmx;omega,λ y hy=>?_⟩,TM ?_⟩
  ·obtain ⟨i,hi⟩:=List.mem_iff_getElem?.1 hy
   exact (hq i y hi).1
  ·rcases Nat.eq_zero_or_pos len with h0|hpos
   ·have:l=[]:=List.length_eq_zero_iff.1 (by omega)
    subst this;subst h0
    exact .sl0 _ _
   ·
    have hcell:∀ i y,l[i]? = some y->∀ j,j<sz->∃ v,w.cell? ((a.add (i*sz)).add j)=some v/\∀ d,(enc y)[j]? = some d->Ba (λ b=>w.heap[b]?) d v:=λ i y hy j hj=>by
     obtain ⟨_,ci,hc,hcr⟩:=hq i y hy
     unfold World.cells? at hc
     split at hc
     ·obtain ⟨g1,g2⟩:=Vk hc
      have:=g2 j j (by simp [hj])
      have hjc:j<ci.length:=by rw [g1];simpa using hj
      rw [Jlk hjc] at this
      exact ⟨ci[j],this.symm,λ d hd=>hcr.2 j d _ hd (Jlk hjc)⟩
     ·cases hc
    have h0:l[0]? = some l[0]:=Jlk (by omega)
    obtain ⟨v0,hv0,_⟩:=hcell 0 _ h0 0 (by omega)
    have ha0:(a.add (0*sz)).add 0=a:=by simp [Addr.add]
    rw [ha0] at hv0
    obtain ⟨b,off,spot⟩:=a
    unfold World.cell? at hv0
    simp only at hv0
    split at hv0
    ·rename_i c ty fr hblk
     cases spot with
     | some s=>simp at hv0
     | none=>
      have hcell':∀ i y,l[i]? = some y->∀ j d,(enc y)[j]? = some d->∃ v,c[off+i*sz+j]? = some v/\Ba (λ b=>w.heap[b]?) d v:=λ i y hy j d hd=>by
       have hj:j<sz:=by rw [← hl y];exact Ad hd
       obtain ⟨v,hv,hr⟩:=hcell i y hy j hj
       rw [BF,BF,JL hblk] at hv
       exact ⟨v,hv,hr d hd⟩
      have hlen:(l.map enc).length=len:=by simp [hll]
      have:=Ba.sl (F:=λ b=>w.heap[b]?) (l.map enc) b off cap sz c ty fr (λ i j=>(c[off+i*sz+j]?).getD undef) hblk (λ e he=>by
        simp only [Jle] at he
        obtain ⟨y,_,rfl⟩:=he
        exact hl y) (by omega) (λ i e hi j d hd=>by
        simp only [Jlo,Jln] at hi
        obtain ⟨y,hy,rfl⟩:=hi
        obtain ⟨v,hv,_⟩:=hcell' i y hy j d hd
        simp only [hv,Jk8]) (λ i e hi j d hd=>by
        simp only [Jlo,Jln] at hi
        obtain ⟨y,hy,rfl⟩:=hi
        obtain ⟨v,hv,hr⟩:=hcell' i y hy j d hd
        simp only [hv,Jk8]
        exact hr)
      rw [hlen] at this
      exact this
    ·cases hv0
theorem A5 {F:Nat->Option Obj} {l m:List D} {cs:List Value} {o n:Nat} (h:CRd F l ((cs.drop o).take n)) (hn:Nat.beq l.length n=true) (h':CRd F m (cs.drop (o+n))):CRd F (l++m) (cs.drop o):=by
 have hn:=Jlr hn
 have e:cs.drop o=(cs.drop o).take n++cs.drop (o+n):=by rw [← List.drop_drop,List.take_append_drop]
 rw [e]
 refine ⟨by simp only [List.length_append,h.1,h'.1],λ i y v hy hv=>?_⟩
 rcases Jlc i l.length with hlt|hge
 ·rw [Jls hlt] at hy
  rw [Jls (by rw [← h.1];exact hlt)] at hv
  exact h.2 i y v hy hv
 ·rw [JlB hge] at hy
  rw [JlB (by rw [← h.1];exact hge),← h.1] at hv
  exact h'.2 _ y v hy hv
theorem I7 {F:Nat->Option Obj} {cs:List Value} {o:Nat} (h:cs.length<=o):CRd F [] (cs.drop o):=by
 rw [List.drop_eq_nil_of_le h];exact ⟨rfl,λ i y v hy=>by simp at hy⟩
theorem Mk {H:Type} {enc:TypeId×Value->H} {P:Program} {w:World} {base:Nat} {spare:Nat->Bool} {held:Bool} {fuel:Nat} {t e:TypeId} {n:Nat} {cs:List Value} {x:DataW H×List MemPlace} (ht:P.underlying t=some (.array n e)) (h:DataW.trod enc P w base spare held fuel t cs=some x) :
  ∃ m,cs.length=P.cellsOf t/\∀ i,i<n->∃ y,DataW.trod enc P w base spare held m e ((cs.drop (i*P.cellsOf e)).take (P.cellsOf e))=some y:=by
 cases fuel with
 | zero=>simp [DataW.trod] at h
 | succ m=>
  unfold DataW.trod at h
  rw [ht] at h
  split at h<;>simp_all
  obtain ⟨xs,hp,_⟩:=h.2
  refine ⟨m,λ i hi=>?_⟩
  obtain ⟨g1,g2⟩:=Vk hp
  have:=g2 i i (by simp [hi])
  have hlt:i<xs.length:=by rw [g1];simpa using hi
  rw [Jlk hlt] at this
  exact ⟨_,_,this.symm⟩
end Go.AI
end
section
namespace Go.AI
open Go.ChangeShapes Go.WideShapes Go.ChangeAt Go.RowKit
variable {P:Program} {H:Type} {en:TypeId×Value->H} {W W':World} {base:Nat} {spare:Nat->Bool} {held:Bool} {t e:TypeId} {v:Value} {d:DataW H} {ps:List MemPlace} {α:Type} {enc:α->List D} {ok:α->Prop}
theorem TN {P:Program} {w:World} {r:Go.Reach} {base:Nat} {t e:TypeId} {n:Nat} {v:Value} (ht:P.underlying t=some (.array n e)) (h:Value.okWide P w r base t v):∃ cs,v=.agg cs/\cs.size=P.cellsOf t:=by
 simp only [Value.okWide,ht] at h
 obtain ⟨cs,h1,h2,_⟩:=h
 exact ⟨cs,h1,h2⟩
theorem Xy {cs:Array Value} (hv:v=.agg cs) (hd:DataW.Trod en P W base spare held t v d ps) (hr:DW P t enc ok):∃ a,ok a/\Ag (λ b=>W.heap[b]?) noR (.agg ((enc a).map .d)) v:=by
 subst hv
 obtain ⟨fuel,hf⟩:=hd
 obtain ⟨a,h1,h2,h3⟩:=hr H en W base spare held fuel _ _ hf
 refine ⟨a,h1,.agg _ _ (by simpa [Value.cells] using h2) λ i x u hx hu=>?_⟩
 simp only [Jlo,Jln] at hx
 obtain ⟨y,hy,rfl⟩:=hx
 exact .d _ _ (h3 i y u hy (by simpa [Value.cells] using hu))
theorem Jd8 {y:α->D} (hc:v.cells=#[v]) (hd:DataW.Trod en P W base spare held t v d ps) (hr:DW P t enc ok) (he:∀ a,enc a=[y a]):∃ a,ok a/\Ag (λ b=>W.heap[b]?) noR (.d (y a)) v:=by
 obtain ⟨fuel,hf⟩:=hd
 obtain ⟨a,h1,h2,h3⟩:=hr H en W base spare held fuel _ _ hf
 refine ⟨a,h1,.d _ _ (h3 0 (y a) v (by rw [he];rfl) (by rw [hc];rfl))⟩
theorem Jit {F:Nat->Option Obj} {ρ:Nat->Option Loc}:CR F ρ [] []:=⟨rfl,λ i a v h=>by simp at h⟩
theorem TO {F:Nat->Option Obj} {ρ:Nat->Option Loc} {a:AV} {v:Value} {l:List AV} {vs:List Value} (h:Ag F ρ a v) (h':CR F ρ l vs):CR F ρ (a::l) (v::vs):=by
 refine ⟨by simp [h'.1],λ i x u hx hu=>?_⟩
 cases i with
 | zero=>simp at hx hu;subst hx;subst hu;exact h
 | succ i=>exact h'.2 i x u (by simpa using hx) (by simpa using hu)
theorem fld {w:World} {fuel:Nat} {cs:List Value} {fs:Array Field} {xs:List (DataW H×List MemPlace)} (hg:∀ (i:Nat) (f:Field),fs[i]? = some f->DataW.trod en P w base spare held fuel f.type ((cs.drop f.offset).take (P.cellsOf f.type))=xs[i]?) (hxl:xs.length=fs.size) (i:Nat) {f:Field} (hf:fs[i]? = some f) (u o n:Nat) (hu:f.type=u) (ho:f.offset=o) (hn:P.cellsOf u=n) (hr:DW P u enc ok) :
  ∃ a,ok a/\CRd (λ b=>w.heap[b]?) (enc a) ((cs.drop o).take n):=by
 have:=hg i f hf
 have hi:i<xs.length:=by rw [hxl];exact Ao hf
 rw [Jlk hi,hu,ho,hn] at this
 exact hr H en w base spare held fuel _ _ this
theorem Rl {w:World} {fuel:Nat} {cs:List Value} {m:Nat} (hg:∀ i,i<m->∃ y,DataW.trod en P w base spare held fuel e ((cs.drop (i*P.cellsOf e)).take (P.cellsOf e))=some y) (i:Nat) (hi:Nat.ble (i+1) m=true) (o n:Nat) (hn:P.cellsOf e=n) (ho:i*n=o) (hr:DW P e enc ok) :
  ∃ a,ok a/\CRd (λ b=>w.heap[b]?) (enc a) ((cs.drop o).take n):=by
 obtain ⟨y,hy⟩:=hg i (Jlz hi)
 rw [hn,ho] at hy
 exact hr H en w base spare held fuel _ _ hy
theorem Ja6 {f:FuncId} {args:List AV} {vs:Array Value} (hc:Ap P f args (.d (.bool true))) (hcr:CR (λ b=>W.heap[b]?) noR args vs.toList):Calls P f vs W λ e W'=>e=.returned (.bool true)/\(∀ before:List MemPlace,W.keptBut W' (·∈before))/\∀ b,b<W.heap.size->W'.heap[b]? = W.heap[b]? := by
 refine (hc.2 (λ b=>W.heap[b]?) W vs hcr λ b o h=>h).mono λ e W' h=>?_
 obtain ⟨v,F',ρ,rfl,hS,hr,hmu⟩:=h
 have hv:v=.bool true:=by
  have:(By true 0 (.d (.bool true))).1=.d (.bool true):=rfl
  rw [this] at hr
  exact hr.bool
 subst hv
 have hold:∀ b,b<W.heap.size->W'.heap[b]? = W.heap[b]? := λ b hb=>hS.old b (by omega)
 refine ⟨rfl,λ before=>World.keptBut_mono (λ p hp=>hp.elim) (?_:W.keptBut W' λ _=>False),hold⟩
 refine ⟨hmu.os,hmu.out,λ i hi=>?_⟩
 rw [hold i hi]
 cases hh:W.heap[i]? with
 | none=>rfl
 | some o=>cases o<;>first|exact ⟨rfl,rfl,rfl,λ _ _=>rfl⟩|exact .inr ⟨rfl,rfl⟩|rfl
theorem YR {f:Func} {s:ChangeSpec} {apart fresh handsOn again:Bool} {args:Array Value} {ds gs:List (DataW H)} {before pa pv:List MemPlace}
  (hW:DataW.Whole en P f.params.toList s.vars apart W args.toList ds gs before)
  (hres:∀ (b:Nat) (sp:Nat->Bool) (hd:Bool),DataW.TrodAll en P W' b sp hd f.resultTypes.toList (v.resultList f.resultTypes.size) (s.fn H (ds++gs)).results [])
  (hargs:∀ sp:Nat->Bool,(∀ p∈before,sp p.block=true)->DataW.TrodAll en P W' 0 sp true f.params.toList args.toList (s.fn H (ds++gs)).args pa)
  (hvars:∀ sp:Nat->Bool,(∀ p∈before,sp p.block=true)->DataW.TrodVars en P W' sp s.vars (s.fn H (ds++gs)).vars pv)
  (hps:before=pa++pv) (hk:W.keptBut W' (·∈before)) (hold:∀ b,b<W.heap.size->W'.heap[b]? = W.heap[b]?)
  (hok:∀ (j:Nat) (t:TypeId) (r:Value),f.resultTypes[j]? = some t->(v.resultList f.resultTypes.size)[j]? = some r->Value.okWide P W' .any 0 t r) :
  s.post en P f apart fresh handsOn again W args v W':=by
 have hin:∀ p∈before,(λ b=>decide (b<W.heap.size)) p.block=true:=λ p hp=>by simpa using hW.lt p hp
 have hlt:=hW.lt
 refine ⟨ds,gs,before,[],pa,pv,hW,hres _ _ _,hargs _ hin,hvars _ hin,World.keptBut_mono (λ p hp=>⟨hp,?_⟩) hk,λ _=>?_⟩
 ·rw [hps,List.mem_append] at hp
  exact Or.inr hp
 ·obtain ⟨_,_,_,_,_,hz,hn⟩:=hW
  refine ⟨hok,_,_,([]++pa)++pv,⟨[]++pa,pv,trodAll_append (hargs _ (λ _ _=>rfl)) (hres _ _ _),hvars _ (λ _ _=>rfl),rfl,?_,?_⟩,?_⟩
  ·intro b off hp
   have hp:MemPlace.cell b off∈before:=by rw [hps];simpa using hp
   have:=hz b off hp
   simp only [World.frozen?,hold b (hlt _ hp)] at this ⊢
   exact this
  ·intro ha
   have:=hn ha
   rw [hps] at this
   simpa using this
  ·intro p hp _
   rw [hps]
   simpa using hp
theorem Ja7 (hl:laidOutB P=true) (hr:P.readableRec t=true) (hrow:t<P.types.size) (h:DataW.Trod en P W 0 (λ _=>true) true t v d ps) (hb:∀ p∈ps,p.block<W.heap.size) {sp:Nat->Bool} (hs:∀ p∈ps,sp p.block=true) (hold:∀ b,b<W.heap.size->W'.heap[b]? = W.heap[b]?):DataW.Trod en P W' 0 sp true t v d ps:=by
 refine WideElems.Trod_stays hl hr hrow h (λ p hp=>?_) hs
 have:=hb p hp
 cases p with
 | cell b o=>exact World.cell?_of_block (w:=W) (hold b this)
 | map b=>exact hold b this
end Go.AI
end
section
namespace Go.AI
open Go.Proofs Go.ChangeShapes Go.WideShapes Go.ChangeAt Go.RowKit
def okI (k:IntKind) (n:Int):Prop:=(Lit.int k n).wf=true
theorem rd5:DW Tryz.prog 5 eU8 (okI .u8):=SG Tryz.underlying5
theorem JjW:DW Tryz.prog 23 (eL eU8) (λ l=>l.length<=9223372036854775807/\∀ a∈l,okI .u8 a):=Gl (sz:=1) Tryz.underlying23 (by kernel_rfl) rfl (λ _=>rfl) rd5
theorem JjX:DW Tryz.prog 139 (Bg eU8) (λ x=>okI .u8 x.a0/\okI .u8 x.a1):=by
 intro H e w base spare held fuel cs x h
 obtain ⟨m,hcl,hg⟩:=Mk Tryz.underlying139 h
 have hcl:cs.length=2:=hcl.trans (by kernel_rfl)
 obtain ⟨a0,k0,c0⟩:=Rl hg 0 rfl 0 1 (by kernel_rfl) rfl rd5
 obtain ⟨a1,k1,c1⟩:=Rl hg 1 rfl 1 1 (by kernel_rfl) rfl rd5
 refine ⟨⟨a0,a1⟩,⟨k0,k1⟩,?_⟩
 have:=A5 c0 rfl (A5 c1 rfl (I7 (Nat.le_of_eq hcl)))
 exact this
theorem JkR:DW Tryz.prog 92 (eL (Bg eU8)) (λ l=>l.length<=9223372036854775807/\∀ a∈l,(okI .u8 a.a0/\okI .u8 a.a1)):=Gl (sz:=2) Tryz.underlying92 (by kernel_rfl) rfl (λ _=>rfl) JjX
def Ja8 (x:QL):Prop:=okI .u8 x.Kind/\okI .u8 x.N/\(x.L.length<=9223372036854775807/\∀ a∈x.L,(okI .u8 a.a0/\okI .u8 a.a1))
theorem JkS:DW Tryz.prog 94 JjN Ja8:=by
 intro H e w base spare held fuel cs x h
 obtain ⟨xs,n,_,_,hcl,hxl,hg⟩:=DataW.trod_struct Tryz.underlying94 h
 have hcl:cs.length=3:=hcl.trans (by kernel_rfl)
 obtain ⟨a0,k0,c0⟩:=fld hg hxl 0 rfl 5 0 1 rfl rfl (by kernel_rfl) rd5
 obtain ⟨a1,k1,c1⟩:=fld hg hxl 1 rfl 5 1 1 rfl rfl (by kernel_rfl) rd5
 obtain ⟨a2,k2,c2⟩:=fld hg hxl 2 rfl 92 2 1 rfl rfl (by kernel_rfl) JkR
 refine ⟨⟨a0,a1,a2⟩,⟨k0,k1,k2⟩,?_⟩
 have:=A5 c0 rfl (A5 c1 rfl (A5 c2 rfl (I7 (Nat.le_of_eq hcl))))
 exact this
theorem JjY:DW Tryz.prog 141 (Je eU8) (λ x=>okI .u8 x.a0/\okI .u8 x.a1/\okI .u8 x.a2/\okI .u8 x.a3/\okI .u8 x.a4/\okI .u8 x.a5):=by
 intro H e w base spare held fuel cs x h
 obtain ⟨m,hcl,hg⟩:=Mk Tryz.underlying141 h
 have hcl:cs.length=6:=hcl.trans (by kernel_rfl)
 obtain ⟨a0,k0,c0⟩:=Rl hg 0 rfl 0 1 (by kernel_rfl) rfl rd5
 obtain ⟨a1,k1,c1⟩:=Rl hg 1 rfl 1 1 (by kernel_rfl) rfl rd5
 obtain ⟨a2,k2,c2⟩:=Rl hg 2 rfl 2 1 (by kernel_rfl) rfl rd5
 obtain ⟨a3,k3,c3⟩:=Rl hg 3 rfl 3 1 (by kernel_rfl) rfl rd5
 obtain ⟨a4,k4,c4⟩:=Rl hg 4 rfl 4 1 (by kernel_rfl) rfl rd5
 obtain ⟨a5,k5,c5⟩:=Rl hg 5 rfl 5 1 (by kernel_rfl) rfl rd5
 refine ⟨⟨a0,a1,a2,a3,a4,a5⟩,⟨k0,k1,k2,k3,k4,k5⟩,?_⟩
 have:=A5 c0 rfl (A5 c1 rfl (A5 c2 rfl (A5 c3 rfl (A5 c4 rfl (A5 c5 rfl (I7 (Nat.le_of_eq hcl)))))))
 exact this
theorem JkT:DW Tryz.prog 95 (eL (Je eU8)) (λ l=>l.length<=9223372036854775807/\∀ a∈l,(okI .u8 a.a0/\okI .u8 a.a1/\okI .u8 a.a2/\okI .u8 a.a3/\okI .u8 a.a4/\okI .u8 a.a5)):=Gl (sz:=6) Tryz.underlying95 (by kernel_rfl) rfl (λ _=>rfl) JjY
def Hv (x:Bo):Prop:=okI .u8 x.W/\okI .u8 x.H/\okI .u8 x.Gap/\(x.F.length<=9223372036854775807/\∀ a∈x.F,(okI .u8 a.a0/\okI .u8 a.a1/\okI .u8 a.a2/\okI .u8 a.a3/\okI .u8 a.a4/\okI .u8 a.a5))
theorem JkU:DW Tryz.prog 97 NT Hv:=by
 intro H e w base spare held fuel cs x h
 obtain ⟨xs,n,_,_,hcl,hxl,hg⟩:=DataW.trod_struct Tryz.underlying97 h
 have hcl:cs.length=4:=hcl.trans (by kernel_rfl)
 obtain ⟨a0,k0,c0⟩:=fld hg hxl 0 rfl 5 0 1 rfl rfl (by kernel_rfl) rd5
 obtain ⟨a1,k1,c1⟩:=fld hg hxl 1 rfl 5 1 1 rfl rfl (by kernel_rfl) rd5
 obtain ⟨a2,k2,c2⟩:=fld hg hxl 2 rfl 5 2 1 rfl rfl (by kernel_rfl) rd5
 obtain ⟨a3,k3,c3⟩:=fld hg hxl 3 rfl 95 3 1 rfl rfl (by kernel_rfl) JkT
 refine ⟨⟨a0,a1,a2,a3⟩,⟨k0,k1,k2,k3⟩,?_⟩
 have:=A5 c0 rfl (A5 c1 rfl (A5 c2 rfl (A5 c3 rfl (I7 (Nat.le_of_eq hcl)))))
 exact this
def Hw (x:A7):Prop:=okI .u8 x.Kind/\okI .u8 x.N/\(x.T.length<=9223372036854775807/\∀ a∈x.T,okI .u8 a)/\Ja8 x.F/\Hv x.P
theorem JkV:DW Tryz.prog 99 BJ Hw:=by
 intro H e w base spare held fuel cs x h
 obtain ⟨xs,n,_,_,hcl,hxl,hg⟩:=DataW.trod_struct Tryz.underlying99 h
 have hcl:cs.length=10:=hcl.trans (by kernel_rfl)
 obtain ⟨a0,k0,c0⟩:=fld hg hxl 0 rfl 5 0 1 rfl rfl (by kernel_rfl) rd5
 obtain ⟨a1,k1,c1⟩:=fld hg hxl 1 rfl 5 1 1 rfl rfl (by kernel_rfl) rd5
 obtain ⟨a2,k2,c2⟩:=fld hg hxl 2 rfl 23 2 1 rfl rfl (by kernel_rfl) JjW
 obtain ⟨a3,k3,c3⟩:=fld hg hxl 3 rfl 94 3 3 rfl rfl (by kernel_rfl) JkS
 obtain ⟨a4,k4,c4⟩:=fld hg hxl 4 rfl 97 6 4 rfl rfl (by kernel_rfl) JkU
 refine ⟨⟨a0,a1,a2,a3,a4⟩,⟨k0,k1,k2,k3,k4⟩,?_⟩
 have:=A5 c0 rfl (A5 c1 rfl (A5 c2 rfl (A5 c3 rfl (A5 c4 rfl (I7 (Nat.le_of_eq hcl))))))
 exact this
theorem JkW:DW Tryz.prog 22 (eL BJ) (λ l=>l.length<=9223372036854775807/\∀ a∈l,Hw a):=Gl (sz:=10) Tryz.underlying22 (by kernel_rfl) rfl (λ _=>rfl) JkV
def ED (x:A0):Prop:=okI .u8 x.Block/\okI .u8 x.At/\okI .u8 x.Cut/\(x.Put.length<=9223372036854775807/\∀ a∈x.Put,okI .u8 a)
theorem JkX:DW Tryz.prog 25 NU ED:=by
 intro H e w base spare held fuel cs x h
 obtain ⟨xs,n,_,_,hcl,hxl,hg⟩:=DataW.trod_struct Tryz.underlying25 h
 have hcl:cs.length=4:=hcl.trans (by kernel_rfl)
 obtain ⟨a0,k0,c0⟩:=fld hg hxl 0 rfl 5 0 1 rfl rfl (by kernel_rfl) rd5
 obtain ⟨a1,k1,c1⟩:=fld hg hxl 1 rfl 5 1 1 rfl rfl (by kernel_rfl) rd5
 obtain ⟨a2,k2,c2⟩:=fld hg hxl 2 rfl 5 2 1 rfl rfl (by kernel_rfl) rd5
 obtain ⟨a3,k3,c3⟩:=fld hg hxl 3 rfl 23 3 1 rfl rfl (by kernel_rfl) JjW
 refine ⟨⟨a0,a1,a2,a3⟩,⟨k0,k1,k2,k3⟩,?_⟩
 have:=A5 c0 rfl (A5 c1 rfl (A5 c2 rfl (A5 c3 rfl (I7 (Nat.le_of_eq hcl)))))
 exact this
theorem Jiu:DW Tryz.prog 26 eI8 (okI .i8):=SG Tryz.underlying26
theorem JkY:DW Tryz.prog 27 (JjO eI8) (λ x=>okI .i8 x.a0/\okI .i8 x.a1/\okI .i8 x.a2):=by
 intro H e w base spare held fuel cs x h
 obtain ⟨m,hcl,hg⟩:=Mk Tryz.underlying27 h
 have hcl:cs.length=3:=hcl.trans (by kernel_rfl)
 obtain ⟨a0,k0,c0⟩:=Rl hg 0 rfl 0 1 (by kernel_rfl) rfl Jiu
 obtain ⟨a1,k1,c1⟩:=Rl hg 1 rfl 1 1 (by kernel_rfl) rfl Jiu
 obtain ⟨a2,k2,c2⟩:=Rl hg 2 rfl 2 1 (by kernel_rfl) rfl Jiu
 refine ⟨⟨a0,a1,a2⟩,⟨k0,k1,k2⟩,?_⟩
 have:=A5 c0 rfl (A5 c1 rfl (A5 c2 rfl (I7 (Nat.le_of_eq hcl))))
 exact this
end Go.AI
end
section
namespace Go.AI
def Le {α:Type} (a b:Option α):Prop:=∀ z,a=some z->b=some z
theorem Le.refl {α:Type} (a:Option α):Le a a:=λ _ h=>h
theorem Le.bind {α β:Type} {a a':Option α} {f f':α->Option β} (h:Le a a') (hf:∀ x,Le (f x) (f' x)):Le (a.bind f) (a'.bind f'):=by
 intro z hz
 obtain ⟨x,h1,h2⟩:=bind_some hz
 rw [h x h1]
 exact hf x z h2
theorem Le.ite {α:Type} {c:Prop} [Decidable c] {a a' b b':Option α} (h:Le a a') (h':Le b b'):Le (if c then a else b) (if c then a' else b'):=by
 split
 ·exact h
 ·exact h'
theorem Le.whl {σ ρ:Type} {body body':σ->Option (σ⊕ρ)} (hb:∀ x,Le (body x) (body' x)):∀ {n m:Nat},n<=m->∀ x,Le (whl body n x) (whl body' m x):=by
 intro n
 induction n with
 | zero=>intro m _ x z hz;cases hz
 | succ n ih=>
  intro m hm x z hz
  cases m with
  | zero=>omega
  | succ m=>
   simp only [Go.AI.whl] at hz ⊢
   cases hx:body x with
   | none=>rw [hx] at hz;cases hz
   | some y=>
    rw [hb x y hx]
    rw [hx] at hz
    cases y with
    | inl y=>exact ih (by omega) y z hz
    | inr r=>exact hz
def Ev {α:Type} (f:Nat->Option α) (z:α):Prop:=∃ n,∀ m,n<=m->f m=some z
theorem Ev.const {α:Type} {z:α}:Ev (λ _=>some z) z:=⟨0,λ _ _=>rfl⟩
theorem Ev.of {α:Type} {f:Nat->Option α} {z:α} (hm:∀ n m,n<=m->Le (f n) (f m)) {n:Nat} (h:f n=some z):Ev f z:=⟨n,λ m hnm=>hm n m hnm z h⟩
theorem Ev.all {α:Type} {f:Nat->Option α} {z:α} (h:∀ n,f n=some z):Ev f z:=⟨0,λ m _=>h m⟩
theorem Ev.bind {α β:Type} {f:Nat->Option α} {g:Nat->α->Option β} {x:α} {z:β} (h:Ev f x) (hg:Ev (λ n=>g n x) z):Ev (λ n=>(f n).bind (g n)) z:=by
 obtain ⟨n,hn⟩:=h
 obtain ⟨m,hm⟩:=hg
 refine ⟨max n m,λ k hk=>?_⟩
 show (f k).bind (g k)=_
 rw [hn k (by omega)]
 exact hm k (by omega)
theorem Ev.out {α:Type} {f:Nat->Option α} {z:α} (h:Ev f z):∃ n,f n=some z:=by
 obtain ⟨n,hn⟩:=h
 exact ⟨n,hn n (Jlb n)⟩
theorem Ev.congr {α:Type} {f g:Nat->Option α} {z:α} (h:Ev f z) (e:∀ n,g n=f n):Ev g z:=by
 obtain ⟨n,hn⟩:=h
 exact ⟨n,λ m hm=>by rw [e m];exact hn m hm⟩
theorem Ev.whl {σ ρ:Type} {body:Nat->σ->Option (σ⊕ρ)} {r:ρ} (I:Nat->σ->Prop) (h:∀ k x,I k x->(∃ y j,j<k/\I j y/\Ev (λ n=>body n x) (.inl y))\/Ev (λ n=>body n x) (.inr r)):∀ (k:Nat) (x:σ),I k x->Ev (λ n=>Go.AI.whl (body n) n x) r:=by
 have key:∀ (k:Nat) (x:σ),I k x->∃ N c,∀ n fuel,N<=n->c<=fuel->Go.AI.whl (body n) fuel x=some r:=by
  intro k
  induction k using Nat.strongRecOn with
  | _ k ih=>
   intro x hx
   rcases h k x hx with ⟨y,j,hj,hy,N1,h1⟩|⟨N1,h1⟩
   ·obtain ⟨N2,c,h2⟩:=ih j hj y hy
    refine ⟨max N1 N2,c+1,λ n fuel hn hf=>?_⟩
    cases fuel with
    | zero=>omega
    | succ fuel=>
     have e:=h1 n (by omega)
     simp only at e
     simp only [Go.AI.whl,e]
     exact h2 n fuel (by omega) (by omega)
   ·refine ⟨N1,1,λ n fuel hn hf=>?_⟩
    cases fuel with
    | zero=>omega
    | succ fuel=>
     have e:=h1 n hn
     simp only at e
     simp only [Go.AI.whl,e]
 intro k x hx
 obtain ⟨N,c,hh⟩:=key k x hx
 exact ⟨max N c,λ m hm=>hh m m (by omega) (by omega)⟩
end Go.AI
end
section
namespace Go.AI
def Tot {α:Type} (f:Nat->Option α) (P:α->Prop):Prop:=∃ z,P z/\Ev f z
def Rd2 {σ ρ:Type} (I:σ->Prop) (P:ρ->Prop):σ⊕ρ->Prop
 | .inl y=>I y
 | .inr r=>P r
variable {α β σ ρ:Type} {P R:α->Prop}
theorem Tot.ev {f:Nat->Option α} {z:α} (h:Tot f (λ x=>x=z)):Ev f z:=by obtain ⟨_,rfl,h⟩:=h;exact h
theorem Ev.tot {f:Nat->Option α} {z:α} (h:Ev f z) (hp:P z):Tot f P:=⟨z,hp,h⟩
theorem Tot.pure {z:α} (h:P z):Tot (λ _=>some z) P:=⟨z,h,Ev.const⟩
theorem Tot.all {f:Nat->Option α} {z:α} (h:∀ n,f n=some z) (hp:P z):Tot f P:=⟨z,hp,Ev.all h⟩
theorem Tot.mono {f:Nat->Option α} (h:Tot f R) (hp:∀ x,R x->P x):Tot f P:=by obtain ⟨z,hz,h⟩:=h;exact ⟨z,hp z hz,h⟩
theorem Tot.bind {f:Nat->Option β} {g:Nat->β->Option α} {R:β->Prop} (h:Tot f R) (k:∀ x,R x->Tot (λ n=>g n x) P):Tot (λ n=>(f n).bind (g n)) P:=by
 obtain ⟨x,hx,h⟩:=h
 obtain ⟨z,hz,h'⟩:=k x hx
 exact ⟨z,hz,Ev.bind h h'⟩
theorem Tot.bindE {f:Nat->Option β} {g:Nat->β->Option α} {x:β} (h:Ev f x) (k:Tot (λ n=>g n x) P):Tot (λ n=>(f n).bind (g n)) P:=by
 obtain ⟨z,hz,h'⟩:=k
 exact ⟨z,hz,Ev.bind h h'⟩
theorem Tot.bindC {x:Option β} {y:β} {g:Nat->β->Option α} (h:x=some y) (k:Tot (λ n=>g n y) P):Tot (λ n=>x.bind (g n)) P:=by subst h;exact k
theorem Tot.bindA {f:Nat->Option β} {y:β} {g:Nat->β->Option α} (h:∀ n,f n=some y) (k:Tot (λ n=>g n y) P):Tot (λ n=>(f n).bind (g n)) P:=Tot.bindE (Ev.all h) k
theorem Tot.ite {c:Bool} {a b:Nat->Option α} (h1:c=true->Tot a P) (h2:c=false->Tot b P):Tot (λ n=>if c=true then a n else b n) P:=by
 cases c with
 | true=>exact h1 rfl
 | false=>exact h2 rfl
theorem Tot.iteT {c:Bool} {a b:Nat->Option α} (h:c=true) (k:Tot a P):Tot (λ n=>if c=true then a n else b n) P:=by subst h;exact k
theorem Tot.iteF {c:Bool} {a b:Nat->Option α} (h:c=false) (k:Tot b P):Tot (λ n=>if c=true then a n else b n) P:=by subst h;exact k
theorem Tot.guard {c:Bool} {f:Nat->Option β} {d:β} {g:Nat->β->Option α} {R:β->Prop} (h:c=true->Tot f R) (k:∀ x,(c=true->R x)->Tot (λ n=>g n x) P):Tot (λ n=>(if c=true then f n else some d).bind (g n)) P:=by
 cases c with
 | true=>exact Tot.bind (h rfl) λ x hx=>k x λ _=>hx
 | false=>exact k d λ h=>by cases h
theorem Tot.congr {f g:Nat->Option α} (h:Tot f P) (e:∀ n,g n=f n):Tot g P:=by obtain ⟨z,hz,h⟩:=h;exact ⟨z,hz,h.congr e⟩
theorem Tot.whl {body:Nat->σ->Option (σ⊕ρ)} {P:ρ->Prop} (I:Nat->σ->Prop) (h:∀ k x,I k x->Tot (λ n=>body n x) (Rd2 (λ y=>∃ j,j<k/\I j y) P)):∀ (k:Nat) (x:σ),I k x->Tot (λ n=>Go.AI.whl (body n) n x) P:=by
 have key:∀ (k:Nat) (x:σ),I k x->∃ r,P r/\∃ N c,∀ n fuel,N<=n->c<=fuel->Go.AI.whl (body n) fuel x=some r:=by
  intro k
  induction k using Nat.strongRecOn with
  | _ k ih=>
   intro x hx
   obtain ⟨z,hz,N1,h1⟩:=h k x hx
   cases z with
   | inl y=>
    obtain ⟨j,hj,hy⟩:=hz
    obtain ⟨r,hr,N2,c,h2⟩:=ih j hj y hy
    refine ⟨r,hr,max N1 N2,c+1,λ n fuel hn hf=>?_⟩
    cases fuel with
    | zero=>omega
    | succ fuel=>
     have e:=h1 n (by omega)
     simp only at e
     simp only [Go.AI.whl,e]
     exact h2 n fuel (by omega) (by omega)
   | inr r=>
    refine ⟨r,hz,N1,1,λ n fuel hn hf=>?_⟩
    cases fuel with
    | zero=>omega
    | succ fuel=>
     have e:=h1 n hn
     simp only at e
     simp only [Go.AI.whl,e]
 intro k x hx
 obtain ⟨r,hr,N,c,hh⟩:=key k x hx
 exact ⟨r,hr,max N c,λ m hm=>hh m m (by omega) (by omega)⟩
theorem Tot.upto {body:Nat->σ->Option (σ⊕ρ)} {P:ρ->Prop} (N:Nat) (I:Nat->σ->Prop)
  (step:∀ i x,i<N->I i x->Tot (λ n=>body n x) (Rd2 (I (i+1)) P))
  (last:∀ x,I N x->Tot (λ n=>body n x) (Rd2 (λ _=>False) P)) (x:σ) (h0:I 0 x):Tot (λ n=>Go.AI.whl (body n) n x) P:=by
 refine Tot.whl (body:=body) (λ k x=>∃ i,i<=N/\k=N-i/\I i x) ?_ N x ⟨0,by omega,by omega,h0⟩
 rintro k x ⟨i,hi,rfl,hx⟩
 rcases Jlc i N with hlt|hge
 ·refine (step i x hlt hx).mono λ z hz=>?_
  cases z with
  | inl y=>exact ⟨N-(i+1),by omega,i+1,by omega,rfl,hz⟩
  | inr r=>exact hz
 ·have:i=N:=by omega
  subst this
  refine (last x hx).mono λ z hz=>?_
  cases z with
  | inl y=>exact hz.elim
  | inr r=>exact hz
theorem Jiv {l:List α} {i:Nat} {x:α} (h:l[i]? = some x):idx l (i:Int)=some x:=by
 unfold idx
 rw [if_pos (by omega)]
 simpa using h
theorem AG {l:List α} {i:Nat} (h:i<l.length):idx l (i:Int)=some l[i]:=Jiv (Jlk h)
theorem Bf {eb:Nat} {xs ys:List α} (h:(xs.length+ys.length)*eb<=70368744177664):app eb xs ys=some (xs++ys):=by
 unfold app;rw [if_pos h]
theorem Rm {l:List α} {i:Nat} {y:α} (h:i<l.length):put l (i:Int) y=some (l.set i y):=by
 unfold put;rw [if_pos (by omega),Jlu]
theorem TP {x y:List UInt8} (h:x.length+y.length<=9223372036854775807):cat x y=some (x++y):=by
 unfold cat;rw [if_pos h]
end Go.AI
end
section
namespace Go.AI
theorem Jd9 (a:Int):IntKind.i64.wrap a=if decide (a % 18446744073709551616>=9223372036854775808)=true then a % 18446744073709551616-18446744073709551616 else a % 18446744073709551616:=rfl
theorem w64 {a:Int} (h:-9223372036854775808<=a) (h':a<9223372036854775808):IntKind.i64.wrap a=a:=by
 rw [Jd9]
 simp only [decide_eq_true_eq]
 split<;>omega
theorem DY {a b:Int} (h:-9223372036854775808<=a+b) (h':a+b<9223372036854775808):Ai .i64 a b=a+b:=w64 h h'
theorem CB {a b:Int} (h:-9223372036854775808<=a-b) (h':a-b<9223372036854775808):AT .i64 a b=a-b:=w64 h h'
theorem FV {a b:Int} (h:-9223372036854775808<=a*b) (h':a*b<9223372036854775808):BS .i64 a b=a*b:=w64 h h'
theorem Aq {i:Nat} (h:i<9223372036854775807):Ai .i64 (i:Int) 1=((i+1:Nat):Int):=by rw [DY]<;>omega
theorem Jiw (a:Int):IntKind.u8.wrap a=a % 256:=rfl
theorem w8 {a:Int} (h:0<=a) (h':a<256):IntKind.u8.wrap a=a:=by rw [Jiw];omega
theorem BK {a m:Int} (h:0<=a) (hm:0<m):Ah a m=a % m/\0<=Ah a m/\Ah a m<m:=by
 have e:Ah a m=a % m:=by unfold Ah;rw [Int.tmod_eq_emod_of_nonneg h]
 rw [e];exact ⟨rfl,Int.emod_nonneg _ (by omega),Int.emod_lt_of_pos _ hm⟩
variable {α β σ ρ:Type}
theorem Ja9 [Inhabited α] {l:List α} {i:Int} (h:0<=i) (h':i<l.length):idx l i=some (l.getD i.toNat default):=by
 unfold idx
 rw [if_pos h,Jlt,Jlk (by omega)];rfl
theorem C9 [Inhabited α] {l:List α} {i:Nat} (h:i<l.length):idx l (i:Int)=some (l.getD i default):=by
 rw [Ja9 (by omega) (by omega),Jlu]
theorem JjZ {l:List α} {i:Int} {y:α} (h:0<=i) (h':i<l.length):put l i y=some (l.set i.toNat y):=by
 unfold put;rw [if_pos ⟨h,h'⟩]
theorem Iu {l:List α} {a b:Int} (h:0<=a) (h1:a<=b) (h2:b<=l.length):sub l a b=some ((l.take b.toNat).drop a.toNat):=by
 unfold sub;rw [if_pos ⟨h,h1,h2⟩]
theorem TQ {l:List α} {k:Nat} (h:k<=l.length):sub l 0 (k:Int)=some (l.take k):=by
 rw [Iu (by omega) (by omega) (by omega)];simp
theorem Jj0 {eb:Nat} {k:Int} {z:α} (h:0<=k) (h':k.toNat*eb<=70368744177664):mkl eb k z=some (List.replicate k.toNat z):=by
 unfold mkl;rw [if_pos ⟨h,h'⟩]
theorem Jba:BH true=some ():=rfl
theorem DZ {b:Bool} (h:b=true):BH b=some ():=by subst h;rfl
theorem WH {body:σ->Option (σ⊕ρ)} {r:ρ} (st:Nat->σ) (k:Nat) (step:∀ i,i<k->body (st i)=some (.inl (st (i+1)))) (last:body (st k)=some (.inr r)):∀ n,k<n->whl body n (st 0)=some r:=by
 have key:∀ (j n i:Nat),i+j=k->j<n->whl body n (st i)=some r:=by
  intro j
  induction j with
  | zero=>
   intro n i hi hn
   cases n with
   | zero=>omega
   | succ n=>
    have:i=k:=by omega
    subst this;simp only [whl,last]
  | succ j ih=>
   intro n i hi hn
   cases n with
   | zero=>omega
   | succ n=>simp only [whl,step i (by omega)];exact ih n (i+1) (by omega) (by omega)
 intro n hn
 exact key k n 0 (by omega) hn
theorem Ev.to {body:Nat->σ->Option (σ⊕ρ)} {r:ρ} (st:Nat->σ) (k:Nat) (h:∃ N,∀ n,N<=n->(∀ i,i<k->body n (st i)=some (.inl (st (i+1))))/\body n (st k)=some (.inr r)):Ev (λ n=>Go.AI.whl (body n) n (st 0)) r:=by
 obtain ⟨N,h⟩:=h
 exact ⟨max N (k+1),λ n hn=>WH st k (h n (by omega)).1 (h n (by omega)).2 n (by omega)⟩
def Hx (N:Nat) (stop:Nat->Option ρ) (d:ρ):ρ:=((List.range N).findSome? stop).getD d
theorem YS {N:Nat} {stop:Nat->Option ρ} {d:ρ} (h:∀ i,i<N->stop i=none):Hx N stop d=d:=by
 unfold Hx
 rw [List.findSome?_eq_none_iff.2 λ i hi=>h i (List.mem_range.1 hi)];rfl
theorem YT {N:Nat} {stop:Nat->Option ρ} {d r:ρ} (k:Nat) (hk:k<N) (hr:stop k=some r) (h:∀ i,i<k->stop i=none):Hx N stop d=r:=by
 unfold Hx
 have:(List.range N).findSome? stop=some r:=by
  have e:List.range N=List.range k++(List.range (N-k)).map (k+·):=by rw [← List.range_add];congr 1;omega
  rw [e,List.findSome?_append,List.findSome?_eq_none_iff.2 λ i hi=>h i (List.mem_range.1 hi)]
  have:N-k=(N-k-1)+1:=by omega
  rw [this,List.range_succ_eq_map]
  simp [hr]
 rw [this];rfl
theorem R9 (N:Nat) (stop:Nat->Option ρ) (d:ρ):((∀ i,i<N->stop i=none)/\Hx N stop d=d)\/∃ k r,k<N/\stop k=some r/\(∀ i,i<k->stop i=none)/\Hx N stop d=r:=by
 by_cases h:∀ i,i<N->stop i=none
 ·exact .inl ⟨h,YS h⟩
 ·right
  have hex:∃ k,k<N/\stop k≠none:=by
   apply Classical.byContradiction
   intro hh
   exact h λ i hi=>Classical.byContradiction λ hn=>hh ⟨i,hi,hn⟩
  have key:∀ m,(∃ k,k<m/\k<N/\stop k≠none)->∃ k,k<N/\stop k≠none/\∀ i,i<k->stop i=none:=by
   intro m
   induction m with
   | zero=>rintro ⟨k,hk,_⟩;omega
   | succ m ih=>
    rintro ⟨k,hk,h1,h2⟩
    by_cases hm:∃ k,k<m/\k<N/\stop k≠none
    ·exact ih hm
    ·refine ⟨k,h1,h2,λ i hi=>Classical.byContradiction λ hn=>hm ⟨i,by omega,by omega,hn⟩⟩
  obtain ⟨k0,h1,h2⟩:=hex
  obtain ⟨k,h3,h4,h5⟩:=key (k0+1) ⟨k0,by omega,h1,h2⟩
  obtain ⟨r,hr⟩:=Option.ne_none_iff_exists'.1 h4
  exact ⟨k,r,h3,hr,h5,YT k h3 hr h5⟩
theorem YU {body:Int->Option (Int⊕ρ)} {N:Nat} (stop:Nat->Option ρ) {d:ρ} (h1:∀ i,i<N->body (i:Int)=some (match stop i with|some r=>.inr r|none=>.inl ((i+1:Nat):Int))) (h2:body (N:Int)=some (.inr d)):∀ n,N<n->whl body n 0=some (Hx N stop d):=by
 intro n hn
 rcases R9 N stop d with ⟨h,e⟩|⟨k,r,hk,hr,h,e⟩
 ·rw [e]
  exact WH (λ i=>(i:Int)) N (λ i hi=>by rw [h1 i hi,h i hi]) h2 n hn
 ·rw [e]
  exact WH (λ i=>(i:Int)) k (λ i hi=>by rw [h1 i (by omega),h i hi]) (by rw [h1 k hk,hr]) n (by omega)
theorem Ev.first {body:Nat->Int->Option (Int⊕ρ)} {N:Nat} (stop:Nat->Option ρ) {d:ρ} (h:∃ M,∀ n,M<=n->(∀ i,i<N->body n (i:Int)=some (match stop i with|some r=>.inr r|none=>.inl ((i+1:Nat):Int)))/\body n (N:Int)=some (.inr d)):Ev (λ n=>Go.AI.whl (body n) n 0) (Hx N stop d):=by
 obtain ⟨M,h⟩:=h
 exact ⟨max M (N+1),λ n hn=>YU stop (h n (by omega)).1 (h n (by omega)).2 n (by omega)⟩
theorem Tot.gE {P:α->Prop} {c:Bool} {f:Nat->Option β} {d x:β} {g:Nat->β->Option α} (hc:c=true) (h:Ev f x) (k:Tot (λ n=>g n x) P):Tot (λ n=>(if c=true then f n else some d).bind (g n)) P:=by
 subst hc;exact Tot.bindE h k
theorem Tot.gF {P:α->Prop} {c:Bool} {f:Nat->Option β} {d:β} {g:Nat->β->Option α} (hc:c=false) (k:Tot (λ n=>g n d) P):Tot (λ n=>(if c=true then f n else some d).bind (g n)) P:=by
 subst hc;exact k
noncomputable def lim [Inhabited α] (f:Nat->Option α):α:=@dite α (∃ z,Ev f z) (Classical.propDecidable _) (λ h=>Classical.choose h) λ _=>default
theorem Ev.lim [Inhabited α] {f:Nat->Option α} {z:α} (h:Ev f z):lim f=z:=by
 have hex:∃ z,Ev f z:=⟨z,h⟩
 have e:AI.lim f=Classical.choose hex:=by unfold AI.lim;rw [dif_pos hex]
 rw [e]
 obtain ⟨n,hn⟩:=h
 obtain ⟨m,hm⟩:=Classical.choose_spec hex
 have h1:=hn (max n m) (by omega)
 have h2:=hm (max n m) (by omega)
 rw [h1] at h2;cases h2;rfl
theorem Tot.lim [Inhabited α] {f:Nat->Option α} {P:α->Prop} (h:Tot f P):P (lim f)/\Ev f (lim f):=by
 obtain ⟨z,hz,h⟩:=h
 rw [h.lim];exact ⟨hz,h⟩
theorem Ev.many {f:Nat->Nat->Option α} {z:Nat->α} (N:Nat) (h:∀ i,i<N->Ev (λ n=>f n i) (z i)):∃ M,∀ n,M<=n->∀ i,i<N->f n i=some (z i):=by
 induction N with
 | zero=>exact ⟨0,λ n _ i hi=>by omega⟩
 | succ N ih=>
  obtain ⟨M1,h1⟩:=ih λ i hi=>h i (by omega)
  obtain ⟨M2,h2⟩:=h N (by omega)
  exact ⟨max M1 M2,λ n hn i hi=>by
   by_cases e:i=N
   ·subst e;exact h2 n (by omega)
   ·exact h1 n (by omega) i (by omega)⟩
end Go.AI
end
section
namespace Go.AI
def FD (c d:Ac):Bool:=(c.Block==d.Block)&&decide (c.At+c.Cut<=d.At)
def frB (c d:Ac):Bool:=(c.Block != d.Block)||(!(FD c d==FD d c))
def noC:Ac:={ Block:=0,At:=0,Cut:=0,Put:=[] }
def shC (c d:Ac):Ac:=if FD d c=true then { Block:=c.Block,At:=c.At+((d.Put.length:Int)-d.Cut),Cut:=c.Cut,Put:=c.Put } else c
def ovS (c d:Ac):Ac×Bool:=if frB c d=true then (shC c d,true) else (noC,false)
def PA:Ac->List Ac->Nat->Ac×Int×Bool
 | c,[],i=>(c,(i:Int),true)
 | c,d::l,i=>if frB c d=true then PA (shC c d) l (i+1) else (noC,(i:Int),false)
theorem Vl {c d:Ac}:FD c d=true↔c.Block=d.Block/\c.At+c.Cut<=d.At:=by unfold FD;simp
theorem Jbb {c d:Ac}:FD c d=false↔¬(c.Block=d.Block/\c.At+c.Cut<=d.At):=by rw [← Bool.not_eq_true,Vl]
theorem Xz {c d:Ac}:frB c d=true↔c.Block≠d.Block\/FD c d≠FD d c:=by unfold frB;simp [Bool.beq_eq_decide_eq]
theorem Rn (c d:Ac):frB c d=frB d c:=by
 unfold frB
 rw [show (c.Block != d.Block)=(d.Block != c.Block) from bne_comm ..,show (FD c d==FD d c)=(FD d c==FD c d) from BEq.comm ..]
def Gm (c d:Ac):Prop:=c.Block<d.Block\/c.Block=d.Block/\(c.At<d.At\/c.At=d.At/\c.Cut<d.Cut)
theorem Jbc {c:Ac}:¬Gm c c:=by unfold Gm;omega
theorem Jea {c d e:Ac} (h:Gm c d) (h':Gm d e):Gm c e:=by unfold Gm at *;omega
theorem Jeb {c d:Ac} (h:frB c d=true):Gm c d\/Gm d c:=by
 rw [Xz] at h
 rcases h with h|h
 ·unfold Gm;omega
 ·by_cases hb:c.Block=d.Block
  ·by_cases h1:c.At=d.At
   ·by_cases h2:c.Cut=d.Cut
    ·exfalso
     refine h ?_
     unfold FD
     rw [h1,h2,hb]
    ·unfold Gm;omega
   ·unfold Gm;omega
  ·unfold Gm;omega
theorem Jbd {c d:Ac} (hc:0<=c.Cut) (hd:0<=d.Cut) (h:frB c d=true) (hl:Gm c d) (hb:c.Block=d.Block):FD c d=true/\FD d c=false:=by
 rw [Xz] at h
 have hne:=h.resolve_left (by simp [hb])
 rcases hcd:FD c d with _|_
 ·rw [hcd] at hne
  have hdc:FD d c=true:=by cases hx:FD d c with|true=>rfl|false=>rw [hx] at hne;exact absurd rfl hne
  rw [Jbb] at hcd
  rw [Vl] at hdc
  unfold Gm at hl
  omega
 ·rw [hcd] at hne
  exact ⟨rfl,by cases hx:FD d c with|false=>rfl|true=>rw [hx] at hne;exact absurd rfl hne⟩
def Frs (l:List Ac):Prop:=l.Pairwise λ c d=>frB c d=true/\Gm c d
def JkZ (l:List Ac):Prop:=∀ c∈l,0<=c.Cut
def GZ (b:Int):List Ac->Int
 | []=>0
 | d::l=>(if d.Block=b then (d.Put.length:Int)-d.Cut else 0)+GZ b l
theorem Vm (b:Int) (l m:List Ac):GZ b (l++m)=GZ b l+GZ b m:=by
 induction l with
 | nil=>simp [GZ]
 | cons d l ih=>simp only [List.cons_append,GZ,ih];omega
def mvC (k:Int) (c:Ac):Ac:={ Block:=c.Block,At:=c.At+k,Cut:=c.Cut,Put:=c.Put }
theorem Jj1 (c:Ac):mvC 0 c=c:=by unfold mvC;simp
def D0 (pre:List Ac):List Ac->List Ac
 | []=>[]
 | d::l=>mvC (GZ d.Block pre) d::D0 (pre++[d]) l
theorem SH (pre l:List Ac):(D0 pre l).length=l.length:=by
 induction l generalizing pre with
 | nil=>rfl
 | cons d l ih=>simp only [D0,List.length_cons,ih]
theorem YV (pre l m:List Ac):D0 pre (l++m)=D0 pre l++D0 (pre++l) m:=by
 induction l generalizing pre with
 | nil=>simp [D0]
 | cons d l ih=>simp only [List.cons_append,D0,ih,List.append_assoc,List.cons_append,List.nil_append]
theorem Jj2 {c d:Ac} {k j:Int} (h:c.Block=d.Block->k=j):frB (mvC k c) (mvC j d)=frB c d/\FD (mvC j d) (mvC k c)=FD d c:=by
 by_cases hb:c.Block=d.Block
 ·have:=h hb
  subst this
  unfold frB FD mvC
  simp only
  have e1:decide (d.At+k+d.Cut<=c.At+k)=decide (d.At+d.Cut<=c.At):=by rw [decide_eq_decide];omega
  have e2:decide (c.At+k+c.Cut<=d.At+k)=decide (c.At+c.Cut<=d.At):=by rw [decide_eq_decide];omega
  rw [e1,e2]
  exact ⟨rfl,rfl⟩
 ·have h1:(c.Block != d.Block)=true:=by simp [hb]
  have h2:(d.Block==c.Block)=false:=by simp;exact λ h=>hb h.symm
  unfold frB FD mvC
  simp only [h1,h2,Bool.true_or,Bool.false_and]
  exact ⟨trivial,trivial⟩
theorem WI (c:Ac) (hc:0<=c.Cut) (pre l:List Ac) (i:Nat) (hl:JkZ l) (h:∀ d∈l,frB c d=true/\Gm d c) :
  PA (mvC (GZ c.Block pre) c) (D0 pre l) i=(mvC (GZ c.Block (pre++l)) c,((i+l.length:Nat):Int),true):=by
 induction l generalizing pre i with
 | nil=>simp [D0,PA]
 | cons d l ih=>
  have hd:=h d (List.mem_cons_self ..)
  have hdc:=hl d (List.mem_cons_self ..)
  simp only [D0,PA]
  have e:=Jj2 (c:=c) (d:=d) (k:=GZ c.Block pre) (j:=GZ d.Block pre) (λ hb=>by rw [hb])
  rw [e.1,if_pos hd.1]
  have hsh:shC (mvC (GZ c.Block pre) c) (mvC (GZ d.Block pre) d)=mvC (GZ c.Block (pre++[d])) c:=by
   unfold shC
   rw [e.2]
   by_cases hb:d.Block=c.Block
   ·have:=Jbd hdc hc (by rw [Rn];exact hd.1) hd.2 hb
    rw [if_pos this.1,Vm]
    unfold mvC
    simp only [GZ,if_pos hb]
    congr 1
    omega
   ·have:FD d c=false:=by rw [Jbb];exact λ hh=>hb hh.1
    rw [if_neg (by rw [this];simp),Vm]
    simp [GZ,hb]
  rw [hsh]
  have:=ih (pre++[d]) (i+1) (λ x hx=>hl x (List.mem_cons_of_mem _ hx)) (λ x hx=>h x (List.mem_cons_of_mem _ hx))
  rw [this]
  simp only [List.append_assoc,List.cons_append,List.nil_append,List.length_cons]
  congr 3
  omega
end Go.AI
end
section
namespace Go.AI
def Okc (A:Int) (c:Ac):Prop:=-A<=c.At/\c.At<=A/\-1000<=c.Cut/\c.Cut<=1000/\c.Put.length<=1000
theorem Okc.mono {A B:Int} {c:Ac} (h:Okc A c) (hB:A<=B):Okc B c:=by unfold Okc at *;omega
theorem Okc.sh {A:Int} {c d:Ac} (h:Okc A c) {B:Int} (h':Okc B d):Okc (A+2000) (shC c d):=by
 unfold shC
 split
 ·unfold Okc at *;simp only;omega
 ·unfold Okc at *;omega
variable {A:Int} {c d:Ac}
theorem Om (n:Nat) (hA:A<=1000000000000) (h:Okc A c) (h':Okc A d):EU n c d=some (FD c d):=by
 unfold EU FD
 unfold Okc at h h'
 rw [CB (by omega) (by omega)]
 congr 2
 rw [decide_eq_decide];omega
theorem XA (n:Nat) (hA:A<=1000000000000) (h:Okc A c) (h':Okc A d):JU n c d=some (frB c d):=by
 unfold JU frB
 rw [Om n hA h h',Om n hA h' h]
 by_cases hb:c.Block=d.Block
 ·simp [hb]
 ·simp [hb]
theorem XB (n:Nat) (hA:A<=1000000000000) (h:Okc A c) (h':Okc A d):Du n c d=some (ovS c d):=by
 unfold Du ovS
 rw [XA n hA h h',Om n hA h' h]
 cases frB c d with
 | false=>rfl
 | true=>
  simp only [Jk3,Jla,Jlw,if_false,if_true]
  unfold shC
  have e:Ai .i64 c.At (AT .i64 ((d.Put.length:Nat):Int) d.Cut)=c.At+((d.Put.length:Int)-d.Cut):=by
   unfold Okc at h h'
   rw [CB (by omega) (by omega),DY (by omega) (by omega)]
  split
  ·rw [e];rfl
  ·rfl
theorem YW (c d:Ac) (l:List Ac) (i:Nat):PA c (d::l) i=if frB c d=true then PA (shC c d) l (i+1) else (noC,(i:Int),false):=rfl
theorem Vn {l:List Ac} {c:Ac} (hl:l.length<=1000) (hd:∀ d∈l,Okc 1000000000 d) (hc:Okc 1000000000 c):Ev (λ n=>HZ n c l) (PA c l 0):=by
 refine Tot.ev ?_
 refine Tot.bind (R:=λ y=>(match y with | .inl c'=>(c',((l.length:Nat):Int),true) | .inr r=>r)=PA c l 0) ?_ λ y hy=>by
  cases y with
  | inl c'=>exact Tot.pure hy
  | inr r=>exact Tot.pure hy
 refine Tot.upto l.length (λ i (x:Ac×Int)=>x.2=(i:Int)/\PA x.1 (l.drop i) i=PA c l 0/\Okc (1000000000+2000*i) x.1) ?_ ?_ _ ⟨rfl,by simp,by simpa using hc⟩
 ·rintro i ⟨c',x⟩ hi ⟨h1,h2,h3⟩
  simp only at h1 h2 h3
  subst h1
  unfold F3
  have hdi:=hd _ (Jk9 hi)
  rw [List.drop_eq_getElem_cons hi] at h2
  refine Tot.iteT (decide_eq_true (by omega)) (Tot.bindC (AG hi) (Tot.bindA (λ n=>XB n (by omega) h3 (hdi.mono (by omega))) ?_))
  rw [YW] at h2
  unfold ovS
  by_cases hf:frB c' l[i]=true
  ·rw [if_pos hf] at h2 ⊢
   refine Tot.iteF rfl (Tot.pure ⟨Aq (by omega),h2,?_⟩)
   have:=h3.sh hdi
   exact this.mono (by omega)
  ·rw [if_neg hf] at h2 ⊢
   exact Tot.iteT rfl (Tot.pure h2)
 ·rintro ⟨c',x⟩ ⟨h1,h2,h3⟩
  simp only at h1 h2 h3
  subst h1
  unfold F3
  refine Tot.iteF (decide_eq_false (by omega)) (Tot.pure ?_)
  rw [List.drop_of_length_le (by omega)] at h2
  exact h2
theorem Jec (n:Nat) (a b:Int):B1 n a b=some (if a<b then -1 else if b<a then 1 else 0):=by
 unfold B1 D9
 simp only [Jk3,bne_self_eq_false,Jlw,if_false,decide_eq_true_eq]
 by_cases h:a<b
 ·simp [h]
 ·by_cases h':b<a
  ·simp [h,h']
  ·simp [h,h']
theorem Jed (n:Nat) (a b:List UInt8):Cp n a b=some (if Op.bytesLess a b=true then -1 else if a=b then 0 else 1):=by
 unfold Cp CY
 simp only [Jk3,BEq.rfl,Jla,Jlw,if_false]
 by_cases h:Op.bytesLess a b=true
 ·simp [h]
 ·have h:Op.bytesLess a b=false:=by simpa using h
  by_cases h':a=b
  ·subst h'
   simp [h]
  ·simp [h,h']
def WJ (c d:Ac):Int:=
 if c.Block<d.Block then -1 else if d.Block<c.Block then 1 else if c.At<d.At then -1 else if d.At<c.At then 1 else if c.Cut<d.Cut then -1 else if d.Cut<c.Cut then 1
 else if Op.bytesLess c.Put d.Put=true then -1 else if c.Put=d.Put then 0 else 1
theorem WK (a b c d:Int):∀ n,5<=n->Hc n [a,b,c,d]=some (if a≠0 then a else if b≠0 then b else if c≠0 then c else d):=by
 intro n hn
 obtain ⟨m,rfl⟩:∃ m,n=m+5:=⟨n-5,by omega⟩
 unfold Hc
 by_cases ha:a=0<;>by_cases hb:b=0<;>by_cases hc:c=0<;>by_cases hd:d=0 <;>
  simp [whl,Gy,idx,ha,hb,hc,hd,show Ai .i64 0 1=1 from rfl,show Ai .i64 1 1=2 from rfl,show Ai .i64 2 1=3 from rfl,show Ai .i64 3 1=4 from rfl]
theorem Vo (c d:Ac):∀ n,5<=n->Gp n c d=some (WJ c d):=by
 intro n hn
 unfold Gp
 simp only [Jec,Jed,Jk3]
 rw [WK _ _ _ _ n hn]
 unfold WJ
 simp only [Jk3,Jlv]
 by_cases h1:c.Block<d.Block<;>by_cases h2:d.Block<c.Block<;>by_cases h3:c.At<d.At<;>by_cases h4:d.At<c.At<;>by_cases h5:c.Cut<d.Cut<;>by_cases h6:d.Cut<c.Cut<;>simp [h1,h2,h3,h4,h5,h6]
end Go.AI
end
section
namespace Go.AI
theorem Dm {ρ ζ:Type} {body:Nat->Int->Option (Int⊕(Unit⊕ρ))} {k:Nat->(Unit⊕ρ)->Option ζ} {r:ζ} (N:Nat) (h:∀ i,i<N->Ev (λ n=>body n (i:Int)) (.inl ((i+1:Nat):Int))) (hl:∀ n,body n (N:Int)=some (.inr (.inl ()))) (hk:∀ n,k n (.inl ())=some r):Ev (λ n=>(whl (body n) n 0).bind (k n)) r:=by
 refine Tot.ev (Tot.bind (R:=λ y=>y=.inl ()) ?_ λ y hy=>?_)
 ·refine Tot.upto N (λ i (x:Int)=>x=(i:Int)) (λ i x hi hx=>?_) (λ x hx=>?_) _ rfl
  ·subst hx
   exact (h i hi).tot rfl
  ·subst hx
   exact Tot.all hl rfl
 ·subst hy
  exact Tot.all hk rfl
theorem Jix {f:List Al} (h:f.length<=1000000000):Ev (λ n=>NJ n f f) true:=by
 refine Tot.ev (Tot.iteF (by simp) (Ev.tot (Dm f.length (λ i hi=>?_) (λ n=>?_) λ n=>rfl) rfl))
 ·unfold F4
  exact Tot.ev (Tot.iteT (decide_eq_true (by omega)) (Tot.bindC (AG hi) (Tot.bindC (AG hi) (Tot.iteF (by simp) (Tot.pure (by rw [Aq (by omega)]))))))
 ·unfold F4
  rw [if_neg (by simp)]
structure SzB (x:Af):Prop where
 rows:x.Rows.length<=1000000000
 row:∀ r∈x.Rows,r.length<=1000000000
 f:x.F.length<=1000000000
 pf:x.Pic.F.length<=1000000000
 pp:∀ g∈x.Pic.F,g.P.length<=1000000000
theorem Jbe {l:List (List (List UInt8))} (h:l.length<=1000000000) (h':∀ r∈l,r.length<=1000000000):Ev (λ n=>HF n l l) true:=by
 refine Tot.ev (Tot.iteF (by simp) (Ev.tot (Dm l.length (λ i hi=>?_) (λ n=>?_) λ n=>rfl) rfl))
 ·unfold Dh
  have hr:=h' _ (Jk9 hi)
  refine Tot.ev (Tot.iteT (decide_eq_true (by omega)) (Tot.bindC (AG hi) (Tot.bindC (AG hi) (Tot.iteF (by simp) (Ev.tot (Dm l[i].length (λ j hj=>?_) (λ n=>?_) λ n=>rfl) (by rw [Aq (by omega)]))))))
  ·unfold Dg
   exact Tot.ev (Tot.bindC (AG hi) (Tot.iteT (decide_eq_true (by omega)) (Tot.bindC (AG hi) (Tot.bindC (AG hj) (Tot.bindC (AG hi) (Tot.bindC (AG hj) (Tot.iteF (by simp) (Tot.pure (by rw [Aq (by omega)])))))))))
  ·unfold Dg
   rw [AG hi]
   simp
 ·unfold Dh
  rw [if_neg (by simp)]
theorem Vp {p:Ae} (h:p.F.length<=1000000000) (h':∀ g∈p.F,g.P.length<=1000000000):Ev (λ n=>EV n p p) true:=by
 refine Tot.ev (Tot.iteF (by simp) (Ev.tot (Dm p.F.length (λ i hi=>?_) (λ n=>?_) λ n=>rfl) rfl))
 ·unfold Cr
  have hr:=h' _ (Jk9 hi)
  refine Tot.ev (Tot.iteT (decide_eq_true (by omega)) (Tot.bindC (AG hi) (Tot.bindC (AG hi) (Tot.iteF (by simp) (Ev.tot (Dm p.F[i].P.length (λ j hj=>?_) (λ n=>?_) λ n=>rfl) (by rw [Aq (by omega)]))))))
  ·unfold Cq
   exact Tot.ev (Tot.iteT (decide_eq_true (by omega)) (Tot.bindC (AG hj) (Tot.bindC (AG hj) (Tot.iteF (by simp) (Tot.pure (by rw [Aq (by omega)]))))))
  ·unfold Cq
   rw [if_neg (by simp)]
 ·unfold Cr
  rw [if_neg (by simp)]
theorem YX {x:Af} (h:SzB x):Ev (λ n=>GC n x x) true:=
 Tot.ev (Tot.gE (by simp) (Jix h.f) (Tot.iteF (by simp) (Tot.bindE (Jbe h.rows h.row) (Tot.gE rfl (Vp h.pf h.pp) (Tot.pure rfl)))))
theorem Ro {b:List Af} (h:b.length<=1000000000) (h':∀ x∈b,SzB x):Ev (λ n=>EW n b b) true:=by
 refine Tot.ev (Tot.iteF (by simp) (Ev.tot (Dm b.length (λ i hi=>?_) (λ n=>?_) λ n=>rfl) rfl))
 ·unfold F5
  exact Tot.ev (Tot.iteT (decide_eq_true (by omega)) (Tot.bindC (AG hi) (Tot.bindC (AG hi) (Tot.bindE (YX (h' _ (Jk9 hi))) (Tot.iteF rfl (Tot.pure (by rw [Aq (by omega)])))))))
 ·unfold F5
  rw [if_neg (by simp)]
theorem Vq {l:List Ac} (h:l.length<=1000000000):Ev (λ n=>EX n l l) true:=by
 refine Tot.ev (Tot.iteF (by simp) (Ev.tot (Dm l.length (λ i hi=>?_) (λ n=>?_) λ n=>rfl) rfl))
 ·unfold Cs
  exact Tot.ev (Tot.iteT (decide_eq_true (by omega)) (Tot.bindC (AG hi) (Tot.bindC (AG hi) (Tot.iteF (by simp) (Tot.pure (by rw [Aq (by omega)]))))))
 ·unfold Cs
  rw [if_neg (by simp)]
theorem Vr {v:An} (h:v.Agreed.length<=1000000000) (h':v.Quarrels.length<=1000000000):Ev (λ n=>NK n v v) true:=by
 refine Tot.ev (Tot.bindE (Vq h) (Tot.iteF (by simp) (Ev.tot (Dm v.Quarrels.length (λ i hi=>?_) (λ n=>?_) λ n=>rfl) rfl)))
 ·unfold F6
  exact Tot.ev (Tot.iteT (decide_eq_true (by omega)) (Tot.bindC (AG hi) (Tot.bindC (AG hi) (Tot.iteF (by simp) (Tot.pure (by rw [Aq (by omega)]))))))
 ·unfold F6
  rw [if_neg (by simp)]
end Go.AI
end
section
namespace Go.AI
def scan {ρ:Type} (N:Nat) (stop:Nat->Option ρ):Unit⊕ρ:=match (List.range N).findSome? stop with
 | some r=>.inr r
 | none=>.inl ()
theorem XC {ρ:Type} {body:Nat->Int->Option (Int⊕(Unit⊕ρ))} (N:Nat) (stop:Nat->Option ρ)
  (h:∀ i,i<N->Ev (λ n=>body n (i:Int)) (match stop i with|some r=>.inr (.inr r)|none=>.inl ((i+1:Nat):Int)))
  (h2:Ev (λ n=>body n (N:Int)) (.inr (.inl ()))):Ev (λ n=>whl (body n) n 0) (AI.scan N stop):=by
 have key:∀ (k i:Nat),i+k=N->(List.range N).findSome? stop=((List.range k).map (i+·)).findSome? stop->∃ M c,∀ n fuel,M<=n->c<=fuel->whl (body n) fuel (i:Int)=some (AI.scan N stop):=by
  intro k
  induction k with
  | zero=>
   intro i hi hf
   have:i=N:=by omega
   subst this
   obtain ⟨M,hM⟩:=h2
   refine ⟨M,1,λ n fuel hn hfu=>?_⟩
   obtain ⟨fuel,rfl⟩:∃ f,fuel=f+1:=⟨fuel-1,by omega⟩
   have e:=hM n hn
   simp only at e
   simp only [AI.whl,e]
   unfold AI.scan
   rw [hf];rfl
  | succ k ih=>
   intro i hi hf
   obtain ⟨M,hM⟩:=h i (by omega)
   have hs:(List.range (k+1)).map (i+·)=i::(List.range k).map ((i+1)+·):=by
    rw [List.range_succ_eq_map]
    simp only [Jli,Nat.add_zero,List.map_map,List.cons.injEq,true_and]
    apply List.map_congr_left
    intro a _
    simp only [Function.comp];omega
   rw [hs,List.findSome?_cons] at hf
   cases hst:stop i with
   | some r=>
    rw [hst] at hf hM
    refine ⟨M,1,λ n fuel hn hfu=>?_⟩
    obtain ⟨fuel,rfl⟩:∃ f,fuel=f+1:=⟨fuel-1,by omega⟩
    have e:=hM n hn
    simp only at e
    simp only [AI.whl,e]
    unfold AI.scan
    rw [hf]
   | none=>
    rw [hst] at hf hM
    obtain ⟨M2,c,h3⟩:=ih (i+1) (by omega) hf
    refine ⟨max M M2,c+1,λ n fuel hn hfu=>?_⟩
    obtain ⟨fuel,rfl⟩:∃ f,fuel=f+1:=⟨fuel-1,by omega⟩
    have e:=hM n (by omega)
    simp only at e
    simp only [AI.whl,e]
    exact h3 n fuel (by omega) (by omega)
 obtain ⟨M,c,hh⟩:=key N 0 (by omega) (by simp)
 exact ⟨max M c,λ m hm=>hh m m (by omega) (by omega)⟩
theorem YY {ρ:Type} {N:Nat} {stop:Nat->Option ρ} (h:∀ i,i<N->stop i=none):scan N stop=.inl ():=by
 unfold scan
 rw [List.findSome?_eq_none_iff.2 λ i hi=>h i (List.mem_range.1 hi)]
theorem YZ {ρ:Type} {N:Nat} {stop:Nat->Option ρ} {i:Nat} (hi:i<N) (h:(stop i).isSome=true):∃ k r,k<N/\stop k=some r/\scan N stop=.inr r:=by
 unfold scan
 cases hf:(List.range N).findSome? stop with
 | none=>rw [List.findSome?_eq_none_iff.1 hf i (List.mem_range.2 hi)] at h;cases h
 | some r=>
  obtain ⟨k,hk,hr⟩:=List.exists_of_findSome?_eq_some hf
  exact ⟨k,r,List.mem_range.1 hk,hr,rfl⟩
def EE (b:UInt8):Int:=(b.toNat:Int)
def G0 (b:UInt8):Bool:=decide (D6 .u8 (EE b) 127>=32)&&decide (D6 .u8 (EE b) 127<=126)
def CC (b:UInt8):Bool:=D6 .u8 (EE b) 127==32
theorem EF {s:List UInt8} {i:Nat} {b:UInt8} (h:s[i]? = some b):IN s (i:Int)=some (EE b):=by
 have hi:=(List.getElem?_eq_some_iff.1 h).1
 unfold IN EE
 rw [if_pos (by omega),Jlu,h];rfl
theorem E7 {i n:Nat} (h:i<n):decide ((i:Int)<((n:Nat):Int))=true:=by simpa using h
theorem Da (n:Nat):decide (((n:Nat):Int)<((n:Nat):Int))=false:=by simp
def O7 (s:List UInt8):Int×Int:=match scan s.length (λ i=>if G0 (s.getD i 0) then none else some ((i:Int),(60:Int))) with
 | .inl _=>(((s.length:Nat):Int),0)
 | .inr p=>p
theorem BQ {α:Type} {l:List α} {i:Nat} {d:α} (h:i<l.length):l.getD i d=l[i]:=by
 rw [Jlt,Jlk h];rfl
theorem Jee {s:List UInt8} (hl:s.length<9223372036854775807):Ev (λ n=>MP n s) (O7 s):=by
 unfold MP O7
 refine Ev.bind (XC s.length (λ i=>if G0 (s.getD i 0) then none else some ((i:Int),(60:Int))) (λ i hi=>Ev.all λ n=>?_) (Ev.all λ n=>?_)) ?_
 ·unfold Hb
  have hg:s[i]? = some s[i]:=Jlk hi
  rw [if_pos (E7 hi),EF hg,BQ hi]
  have hc:FK n (EE s[i])=some (G0 s[i]):=rfl
  simp only [Jk3,hc]
  cases G0 s[i] with
  | true=>simp [Aq (show i<9223372036854775807 by omega)]
  | false=>simp
 ·unfold Hb
  rw [if_neg (by simp)]
 ·generalize scan s.length _=z;cases z<;>exact Ev.const
theorem Jbf {s:List UInt8} (hl:s.length<9223372036854775807):Ev (λ n=>MS n s) (O7 s):=by
 unfold MS O7
 refine Ev.bind (XC s.length (λ i=>if G0 (s.getD i 0) then none else some ((i:Int),(60:Int))) (λ i hi=>Ev.all λ n=>?_) (Ev.all λ n=>?_)) ?_
 ·unfold Hl
  have hg:s[i]? = some s[i]:=Jlk hi
  rw [if_pos (E7 hi),EF hg,BQ hi]
  have hc:HJ n (EE s[i])=some (G0 s[i]):=rfl
  simp only [Jk3,hc]
  cases G0 s[i] with
  | true=>simp [Aq (show i<9223372036854775807 by omega)]
  | false=>simp
 ·unfold Hl
  rw [if_neg (by simp)]
 ·generalize scan s.length _=z;cases z<;>exact Ev.const
theorem Vs {s:List UInt8} (h:s.all G0=true):O7 s=(((s.length:Nat):Int),0):=by
 unfold O7
 rw [YY λ i hi=>by rw [BQ hi,Jk7.1 h _ (Jk9 hi)];rfl]
theorem SI {s:List UInt8} (h:s.all G0=false):(O7 s).2=60:=by
 rw [List.all_eq_false] at h
 obtain ⟨b,hb,hc⟩:=h
 obtain ⟨i,hi,e⟩:=List.getElem_of_mem hb
 unfold O7
 obtain ⟨k,r,hk,hr,hs⟩:=YZ (stop:=λ i=>if G0 (s.getD i 0) then none else some ((i:Int),(60:Int))) hi (by
  rw [BQ hi,e];simp only [Bool.not_eq_true] at hc;rw [hc];rfl)
 rw [hs]
 simp only at hr ⊢
 split at hr
 ·cases hr
 ·cases hr;rfl
theorem Y0 {s:List UInt8} (hl:s.length<9223372036854775807):Ev (λ n=>IU n s) (s.all G0):=by
 unfold IU
 refine Ev.bind (Jbf hl) ?_
 cases h:s.all G0 with
 | true=>rw [Vs h];exact Ev.const
 | false=>rw [SI h];exact Ev.const
def I8 (b:Int):Int:=
 if (decide (97<=D6 .u8 b 127)&&decide (D6 .u8 b 127<=122))=true then 1
 else if (decide (65<=D6 .u8 b 127)&&decide (D6 .u8 b 127<=90))=true then 2
 else if (decide (48<=D6 .u8 b 127)&&decide (D6 .u8 b 127<=57))=true then 3
 else if (D6 .u8 b 127==32)=true then 4 else 5
theorem Jbg (n:Nat) (b:Int):KL n b=some (I8 b):=by
 unfold KL I8
 split
 ·rfl
 ·split
  ·rfl
  ·split
   ·rfl
   ·split<;>rfl
def G1:Bool->List UInt8->Bool
 | p,[]=>!p
 | p,b::s=>if CC b=true then (if p=true then false else G1 true s) else G1 false s
def clS (s:List UInt8):Bool:=decide (s.length<=400)&&(s.all G0&&G1 true s)
theorem SJ (p:Bool) (b:UInt8) (s:List UInt8):G1 p (b::s)=if CC b=true then (if p=true then false else G1 true s) else G1 false s:=rfl
theorem KQ {p:Bool} {b:UInt8} {s:List UInt8} (h:(CC b&&p)=false):G1 p (b::s)=G1 (CC b) s:=by
 rw [SJ]
 cases hb:CC b with
 | false=>simp
 | true=>
  rw [hb,Bool.true_and] at h
  simp [h]
theorem TR {p:Bool} {b:UInt8} {s:List UInt8} (h:(CC b&&p)=true):G1 p (b::s)=false:=by
 rw [Jll] at h
 rw [SJ]
 simp [h.1,h.2]
theorem On:∀ (s:List UInt8) (p:Bool),s≠[]->CC (s.getD (s.length-1) 0)=true->G1 p s=false
 | [],_,h,_=>absurd rfl h
 | [b],p,_,h=>by
  have hb:CC b=true:=h
  unfold G1
  rw [if_pos hb]
  cases p<;>rfl
 | b::c::s,p,_,h=>by
  have h':CC ((c::s).getD ((c::s).length-1) 0)=true:=h
  have e1:=On (c::s) true (by simp) h'
  have e2:=On (c::s) false (by simp) h'
  unfold G1
  split
  ·split
   ·rfl
   ·exact e1
  ·exact e2
theorem Rp (b:UInt8):(I8 (EE b)==4)=CC b:=by
 unfold I8 CC
 generalize D6 .u8 (EE b) 127=v
 by_cases h:v=32
 ·subst h;rfl
 ·have e:(v==32)=false:=by simpa using h
  rw [e]
  split
  ·rfl
  ·split
   ·rfl
   ·split
    ·rfl
    ·rfl
theorem SK (b:UInt8):I8 (EE b)≠0:=by
 unfold I8
 split
 ·decide
 ·split
  ·decide
  ·split
   ·decide
   ·split<;>decide
theorem XD {s:List UInt8} (h:clS s=true):1<=s.length/\s.length<=400:=by
 unfold clS at h
 simp only [Jll,decide_eq_true_eq] at h
 refine ⟨?_,h.1⟩
 cases s with
 | nil=>simp [G1] at h
 | cons=>simp
theorem Jbh (s:List UInt8) (hl:s.length<9223372036854775807):Ev (λ n=>HY n s) (clS s):=by
 refine Tot.ev (Tot.ite (λ h=>Tot.pure ?_) λ h=>?_)
 ·simp only [JlC,decide_eq_true_eq] at h
  unfold clS
  rcases h with h|h
  ·have:s=[]:=List.length_eq_zero_iff.1 (by omega)
   subst this;rfl
  ·rw [decide_eq_false (by omega)];rfl
 ·simp only [Jlj,decide_eq_false_iff_not] at h
  have h4:decide (s.length<=400)=true:=decide_eq_true (by omega)
  unfold clS
  rw [h4,Bool.true_and]
  refine Tot.bindE (Jee hl) ?_
  cases hc:s.all G0 with
  | false=>
   rw [SI hc]
   exact Tot.iteT rfl (Tot.pure rfl)
  | true=>
   rw [Vs hc]
   refine Tot.iteF rfl ?_
   rw [Bool.true_and]
   refine Tot.bind (R:=λ y=>(match y with | .inl l=>(l != 4) | .inr b=>b)=G1 true s) ?_ λ y hy=>by
    cases y with
    | inl l=>exact Tot.pure hy
    | inr b=>exact Tot.pure hy
   refine Tot.upto s.length (λ i (x:Int×Int)=>x.2=(i:Int)/\(x.1=0->i=0)/\G1 ((x.1==0)||(x.1==4)) (s.drop i)=G1 true s) ?_ ?_ _ ⟨rfl,λ _=>rfl,rfl⟩
   ·rintro i ⟨l,x⟩ hi ⟨h1,h2,h3⟩
    simp only at h1 h2 h3
    subst h1
    unfold FZ
    rw [List.drop_eq_getElem_cons hi] at h3
    refine Tot.iteT (decide_eq_true (by omega)) (Tot.bindC (EF (Jlk hi)) (Tot.bindA (λ n=>Jbg n _) ?_))
    rw [Rp]
    refine Tot.ite (λ hb=>Tot.pure ?_) λ hb=>Tot.pure ⟨Aq (by omega),λ h0=>absurd h0 (SK _),?_⟩
    ·show false=_
     rw [← h3,TR hb]
    ·rw [KQ hb] at h3
     rw [← h3]
     show G1 ((I8 (EE s[i])==0)||(I8 (EE s[i])==4)) (s.drop (i+1))=_
     rw [Rp,show (I8 (EE s[i])==0)=false by simpa using SK _,Bool.false_or]
   ·rintro ⟨l,x⟩ ⟨h1,h2,h3⟩
    simp only at h1 h2 h3
    subst h1
    unfold FZ
    refine Tot.iteF (decide_eq_false (by omega)) (Tot.pure ?_)
    rw [List.drop_of_length_le (Jlb _)] at h3
    show (l != 4)=_
    rw [← h3]
    have:(l==0)=false:=by
     rw [beq_eq_false_iff_ne]
     intro h0
     have:=h2 h0
     omega
    rw [this]
    rfl
theorem Nj (n:Nat) (b:UInt8):Gq n (EE b)=some (CC b):=rfl
theorem Iv (s:List UInt8) (hl:s.length<9223372036854775807):Ev (λ n=>E6 n s) (clS s):=by
 refine Tot.ev (Tot.bindE (Y0 hl) ?_)
 unfold clS
 cases hc:s.all G0 with
 | false=>
  refine Tot.gF rfl (Tot.gF rfl (Tot.gF rfl (Tot.gF rfl (Tot.iteT rfl (Tot.pure ?_)))))
  rw [Bool.false_and,Bool.and_false]
 | true=>
  rw [Bool.true_and]
  by_cases h0:s=[]
  ·subst h0
   exact Tot.gF rfl (Tot.gF rfl (Tot.gF rfl (Tot.gF rfl (Tot.iteT rfl (Tot.pure rfl)))))
  ·have hp:0<s.length:=List.length_pos_iff.2 h0
   have e0:(((s.length:Nat):Int)==0)=false:=by rw [beq_eq_false_iff_ne];omega
   rw [e0]
   by_cases h4:s.length<=400
   ·have e4:decide (((s.length:Nat):Int)>400)=false:=decide_eq_false (by omega)
    rw [e4,decide_eq_true h4,Bool.true_and]
    have ef:s.getD 0 0=s[0]:=BQ hp
    have g0:IN s 0=some (EE s[0]):=EF (i:=0) (Jlk hp)
    have hm:s.length-1<s.length:=by omega
    have g1:IN s (AT .i64 ((s.length:Nat):Int) 1)=some (EE s[s.length-1]):=by
     rw [CB (by omega) (by omega),show ((s.length:Nat):Int)-1=((s.length-1:Nat):Int) by omega]
     exact EF (Jlk hm)
    refine Tot.gE rfl (Ev.all λ n=>g0) (Tot.gE rfl (Ev.all λ n=>Nj n _) ?_)
    obtain ⟨b0,s',rfl⟩:∃ b s',s=b::s':=by cases s with|nil=>exact absurd rfl h0|cons b s'=>exact ⟨b,s',rfl⟩
    cases hb:CC (b0::s')[0] with
    | true=>
     refine Tot.gF rfl (Tot.gF rfl (Tot.iteT rfl (Tot.pure ?_)))
     exact (TR (by rw [Bool.and_true];exact hb)).symm
    | false=>
     refine Tot.gE rfl (Ev.all λ n=>g1) (Tot.gE rfl (Ev.all λ n=>Nj n _) ?_)
     cases hb1:CC (b0::s')[(b0::s').length-1] with
     | true=>
      refine Tot.iteT rfl (Tot.pure ?_)
      exact (On _ _ (by simp) (by rw [BQ hm];exact hb1)).symm
     | false=>
      refine Tot.iteF rfl ?_
      have hst:G1 true (b0::s')=G1 false s':=by
       have:=KQ (p:=true) (b:=b0) (s:=s') (by rw [Bool.and_true];exact hb)
       rw [this,show CC b0=false from hb]
      generalize hS:b0::s'=S at *
      refine Tot.bind (R:=λ y=>(match y with | .inl _=>true | .inr b=>b)=G1 true S) ?_ λ y hy=>by
       cases y with
       | inl l=>exact Tot.pure hy
       | inr b=>exact Tot.pure hy
      refine Tot.whl (λ k (x:Int)=>∃ i:Nat,x=(i:Int)/\1<=i/\i+k=S.length/\G1 (CC (S.getD (i-1) 0)) (S.drop i)=G1 true S) ?_ (S.length-1) _ ⟨1,rfl,by omega,by omega,?_⟩
      ·rintro k _ ⟨i,rfl,hi1,hik,h3⟩
       unfold IV
       rcases Jlc i S.length with hi|hi
       ·rw [List.drop_eq_getElem_cons hi] at h3
        have gp:IN S (AT .i64 (i:Int) 1)=some (EE (S.getD (i-1) 0)):=by
         rw [CB (by omega) (by omega),show (i:Int)-1=((i-1:Nat):Int) by omega,BQ (by omega)]
         exact EF (Jlk (by omega))
        refine Tot.iteT (decide_eq_true (by omega)) (Tot.bindC (EF (Jlk hi)) (Tot.bindA (λ n=>Nj n _) ?_))
        cases hsi:CC S[i] with
        | false=>
         rw [KQ (by rw [hsi];rfl),hsi] at h3
         refine Tot.gF rfl (Tot.gF rfl (Tot.iteF rfl (Tot.pure ⟨k-1,by omega,i+1,Aq (by omega),by omega,by omega,?_⟩)))
         rw [show i+1-1=i by omega,BQ hi,hsi];exact h3
        | true=>
         refine Tot.gE rfl (Ev.all λ n=>gp) (Tot.gE rfl (Ev.all λ n=>Nj n _) ?_)
         cases hsp:CC (S.getD (i-1) 0) with
         | true=>
          rw [TR (by rw [hsi,hsp];rfl)] at h3
          exact Tot.iteT rfl (Tot.pure h3)
         | false=>
          rw [KQ (by rw [hsi,hsp];rfl),hsi] at h3
          refine Tot.iteF rfl (Tot.pure ⟨k-1,by omega,i+1,Aq (by omega),by omega,by omega,?_⟩)
          rw [show i+1-1=i by omega,BQ hi,hsi];exact h3
       ·refine Tot.iteF (decide_eq_false (by omega)) (Tot.pure ?_)
        show true=_
        rw [← h3,List.drop_of_length_le hi]
        have:i=S.length:=by omega
        subst this
        rw [BQ hm,hb1];rfl
      ·rw [hst]
       subst hS
       show G1 (CC b0) s'=_
       rw [show CC b0=false from hb]
   ·have e4:decide (((s.length:Nat):Int)>400)=true:=decide_eq_true (by omega)
    rw [e4,decide_eq_false h4]
    exact Tot.gF rfl (Tot.gF rfl (Tot.gF rfl (Tot.gF rfl (Tot.iteT rfl (Tot.pure rfl)))))
end Go.AI
end
section
namespace Go.AI
def U8 (n:Int):Prop:=0<=n/\n<256
theorem u8w {n:Int} (h:U8 n):IntKind.i64.wrap n=n:=by unfold U8 at h;exact w64 (by omega) (by omega)
theorem Iw {x:Int} (h:x≠0):BH (!(x==0))=some ():=DZ (by simpa using h)
theorem Rq {l:List Int} (hl:l.length<=9223372036854775807) (hu:∀ x∈l,U8 x) {k:Nat} (hk:1<=k) (hk2:k<=100) {a:List UInt8} (ha:1<=a.length) (ha2:a.length<=100):Tot (λ n=>H1 n l (k:Int) a) (λ z=>z.length<=k):=by
 have e1:Ai .i64 ((a.length:Nat):Int) 1=((a.length+1:Nat):Int):=Aq (by omega)
 have e2:AT .i64 (k:Int) 1=((k-1:Nat):Int):=(CB (by omega) (by omega)).trans (by omega)
 refine Tot.bind (R:=λ z=>z.length<=k) ?_ λ z hz=>?_
 ·refine Tot.upto l.length (λ i (x:List UInt8×Int)=>x.2=(i:Int)/\x.1.length<=k) ?_ ?_ _ ⟨rfl,by simp⟩
  ·rintro i ⟨o,x⟩ hi ⟨h1,h2⟩
   simp only at h1 h2
   subst h1
   unfold F8
   refine Tot.ite (λ hb=>?_) λ hb=>Tot.pure h2
   rw [Jll,decide_eq_true_eq,decide_eq_true_eq] at hb
   simp only at hb
   have hlt:i<l.length:=by omega
   have hx:=hu _ (Jk9 hlt)
   rw [e1]
   refine Tot.bindC (AG hlt) (Tot.bindC (Iw (by omega)) ?_)
   rw [u8w hx]
   unfold U8 at hx
   obtain ⟨r1,r2,r3⟩:=BK (a:=l[i]) (m:=((a.length+1:Nat):Int)) (by omega) (by omega)
   refine Tot.ite (λ hr=>?_) λ hr=>?_
   ·rw [decide_eq_true_eq] at hr
    rw [CB (by omega) (by omega)]
    refine Tot.bindC (Iu (by omega) (by omega) (by omega)) (Tot.bindC (TP ?_) (Tot.pure ⟨Aq (by omega),?_⟩))
    ·simp only [List.length_drop,List.length_take];omega
    ·simp only [List.length_append,List.length_drop,List.length_take];omega
   ·rw [e2]
    by_cases h0:0<o.length
    ·have hg:IN o (AT .i64 ((o.length:Nat):Int) 1)=some (EE (o.getD (o.length-1) 0)):=by
      rw [CB (by omega) (by omega),show ((o.length:Nat):Int)-1=((o.length-1:Nat):Int) by omega,BQ (by omega)]
      exact EF (Jlk (by omega))
     refine Tot.guard (R:=λ _=>True) (λ _=>Tot.all (λ n=>hg) trivial) λ b _=>Tot.ite (λ hc=>?_) λ hc=>Tot.pure ⟨Aq (by omega),h2⟩
     refine Tot.bindC (TP (by simp;omega)) (Tot.pure ⟨Aq (by omega),?_⟩)
     simp only [Jll,decide_eq_true_eq] at hc
     simp only [List.length_append,List.length_singleton];omega
    ·have hf:decide (((o.length:Nat):Int)>0)=false:=decide_eq_false (by omega)
     rw [hf]
     exact Tot.gF rfl (Tot.iteF rfl (Tot.pure ⟨Aq (by omega),h2⟩))
  ·rintro ⟨o,x⟩ ⟨h1,h2⟩
   simp only at h1 h2
   subst h1
   unfold F8
   exact Tot.iteF (by rw [Bool.and_eq_false_iff,decide_eq_false_iff_not];left;omega) (Tot.pure h2)
 ·have hfin:∀ z':List UInt8,z'.length<=k->Tot (λ n=>Eb n a z') (λ z=>z.length<=k):=λ z' hz'=>by
   unfold Eb
   refine Tot.ite (λ _=>Tot.bindC (TQ (k:=1) (by omega)) (Tot.pure ?_)) λ _=>Tot.pure hz'
   simp only [List.length_take];omega
  by_cases h0:0<z.length
  ·have hg:IN z (AT .i64 ((z.length:Nat):Int) 1)=some (EE (z.getD (z.length-1) 0)):=by
    rw [CB (by omega) (by omega),show ((z.length:Nat):Int)-1=((z.length-1:Nat):Int) by omega,BQ (by omega)]
    exact EF (Jlk (by omega))
   refine Tot.gE (decide_eq_true (by omega)) (Ev.all λ n=>hg) (Tot.ite (λ _=>?_) λ _=>hfin z hz)
   rw [CB (by omega) (by omega),show ((z.length:Nat):Int)-1=((z.length-1:Nat):Int) by omega]
   refine Tot.bindC (TQ (by omega)) (hfin _ ?_)
   simp only [List.length_take];omega
  ·have hf:decide (((z.length:Nat):Int)>0)=false:=decide_eq_false (by omega)
   rw [hf]
   exact Tot.gF rfl (Tot.iteF rfl (hfin z hz))
def wdK (x:Af):Bool:=((x.Kind==1)||(x.Kind==2))||(x.Kind==4)
def CP (b:List Af) (i:Int):Af:=b.getD i.toNat default
def wdB (b:List Af) (i:Int):Bool:=(decide (0<=i)&&decide (i<((b.length:Nat):Int)))&&wdK (CP b i)
theorem KR {b:List Af} {i:Int}:wdB b i=true↔(0<=i/\i<(b.length:Int))/\wdK (CP b i)=true:=by unfold wdB;simp
theorem KT {b:List Af} {i:Int} (h:0<=i) (h':i<(b.length:Int)):idx b i=some (CP b i):=Ja9 h h'
theorem SL (n:Nat) (b:List Af) (i:Int):Fy n b i=some (wdB b i):=by
 unfold Fy wdB wdK
 by_cases h:0<=i/\i<(b.length:Int)
 ·have e1:decide (i>=0)=true:=decide_eq_true h.1
  have e2:decide (i<((b.length:Nat):Int))=true:=decide_eq_true h.2
  rw [e1,e2,KT h.1 h.2]
  generalize CP b i=x
  by_cases h1:x.Kind=1
  ·simp [h1]
  ·by_cases h2:x.Kind=2
   ·simp [h2]
   ·simp [h1,h2]
 ·have e:(decide (i>=0)&&decide (i<((b.length:Nat):Int)))=false:=by simp only [Bool.and_eq_false_iff,decide_eq_false_iff_not];omega
  rw [e]
  rfl
structure BkT (b:List Af):Prop where
 len:b.length<=100
 txt:∀ x∈b,x.Text.length<=400
theorem BkT.blk {b:List Af} (h:BkT b) (i:Int):(CP b i).Text.length<=400:=by
 unfold CP
 rw [Jlt]
 cases he:b[i.toNat]? with
 | none=>exact Nat.zero_le _
 | some x=>exact h.txt x (Jlm he)
structure RwC (x:A0):Prop where
 b:U8 x.Block
 a:U8 x.At
 c:U8 x.Cut
 l:x.Put.length<=9223372036854775807
 p:∀ y∈x.Put,U8 y
structure MdC (b:List Af) (c:Ac):Prop where
 bl:0<=c.Block/\c.Block<256
 at0:0<=c.At
 at1:c.At<=400
 cut0:0<=c.Cut
 cut1:c.Cut<=3
 put:c.Put.length<=4
 wd:(∃ i,wdB b i=true)->wdB b c.Block=true/\c.At+c.Cut<=((CP b c.Block).Text.length:Int)
theorem MdC.ok {b:List Af} {c:Ac} (h:MdC b c) {A:Int} (hA:400<=A):Okc A c:=by
 have:=h.at0;have:=h.at1;have:=h.cut0;have:=h.cut1;have:=h.put
 unfold Okc;omega
theorem Jbi {b:List Af} (hb:BkT b) {x:A0} (hx:RwC x) {a:List UInt8} (ha:1<=a.length) (ha2:a.length<=100):Tot (λ n=>NS n b x a) (MdC b):=by
 have hbl:=hb.len
 refine Tot.bind (R:=λ l=>(l.length<=100/\∀ i∈l,wdB b i=true)/\(l=[]->∀ i,wdB b i=false)) ?_ λ l hl=>?_
 ·refine Tot.upto b.length (λ i (y:List Int×Int)=>y.2=(i:Int)/\(y.1.length<=i/\∀ j∈y.1,wdB b j=true)/\(y.1=[]->∀ j:Nat,j<i->wdB b (j:Int)=false)) ?_ ?_ _ ⟨rfl,⟨by simp,by simp⟩,λ _ j hj=>by omega⟩
  ·rintro i ⟨l,y⟩ hi ⟨h1,h2,h3⟩
   simp only at h1 h2 h3
   subst h1
   unfold Gi
   refine Tot.iteT (decide_eq_true (by omega)) (Tot.bindA (λ n=>SL n b _) (Tot.ite (λ hw=>?_) λ hw=>Tot.pure ⟨Aq (by omega),⟨by have:=h2.1;show l.length<=i+1;omega,h2.2⟩,λ he j hj=>?_⟩))
   ·refine Tot.bindC (Bf (by simp;omega)) (Tot.pure ⟨Aq (by omega),⟨by simp;exact h2.1,λ j hj=>?_⟩,λ he=>?_⟩)
    ·rw [List.mem_append,List.mem_singleton] at hj
     rcases hj with hj|rfl
     ·exact h2.2 j hj
     ·exact hw
    ·simp at he
   ·rcases Nat.lt_succ_iff_lt_or_eq.1 hj with h|rfl
    ·exact h3 he j h
    ·exact hw
  ·rintro ⟨l,y⟩ ⟨h1,h2,h3⟩
   simp only at h1 h2 h3
   subst h1
   unfold Gi
   refine Tot.iteF (decide_eq_false (by omega)) (Tot.pure ⟨⟨by show l.length<=100;omega,h2.2⟩,λ he i=>?_⟩)
   by_cases hi:0<=i/\i<(b.length:Int)
   ·have:=h3 he i.toNat (by omega)
    rwa [show ((i.toNat:Nat):Int)=i by omega] at this
   ·rw [← Bool.not_eq_true,KR]
    exact λ h=>hi h.1
 ·have hu:=hx.b
  refine Tot.ite (λ he=>Tot.pure ?_) λ he=>?_
  ·rw [beq_iff_eq] at he
   have hn:l=[]:=List.length_eq_zero_iff.1 (by omega)
   have hw:=hl.2 hn
   refine ⟨?_,Int.le_refl 0,by show (0:Int)<=400;decide,Int.le_refl 0,by show (0:Int)<=3;decide,Nat.zero_le _,λ ⟨i,hi⟩=>?_⟩
   ·show 0<=IntKind.i64.wrap x.Block/\IntKind.i64.wrap x.Block<256
    rw [u8w hu];exact hu
   ·rw [hw i] at hi;cases hi
  ·rw [beq_eq_false_iff_ne] at he
   rw [u8w hu,u8w hx.a]
   have hlp:0<l.length:=by omega
   unfold U8 at hu
   obtain ⟨r1,r2,r3⟩:=BK (a:=x.Block) (m:=((l.length:Nat):Int)) (by omega) (by omega)
   have hmem:l.getD (Ah x.Block ((l.length:Nat):Int)).toNat default∈l:=by
    rw [Jlt,Jlk (by omega)]
    exact Jk9 _
   refine Tot.bindC (Iw (by omega)) (Tot.bindC (Ja9 r2 (by omega)) ?_)
   generalize hj:l.getD (Ah x.Block ((l.length:Nat):Int)).toNat default=j at hmem ⊢
   have hw:=hl.1.2 j hmem
   have hw':=KR.1 hw
   have ht:=hb.blk j
   refine Tot.bindC (KT hw'.1.1 hw'.1.2) ?_
   generalize hq:CP b j=q at *
   have e1:Ai .i64 ((q.Text.length:Nat):Int) 1=((q.Text.length+1:Nat):Int):=Aq (by omega)
   rw [e1]
   have ha':=hx.a
   unfold U8 at ha'
   obtain ⟨s1,s2,s3⟩:=BK (a:=x.At) (m:=((q.Text.length+1:Nat):Int)) (by omega) (by omega)
   generalize Ah x.At ((q.Text.length+1:Nat):Int)=A at s1 s2 s3 ⊢
   have e2:Ai .i64 (AT .i64 ((q.Text.length:Nat):Int) A) 1=((q.Text.length:Int)-A+1):=by
    rw [CB (by omega) (by omega),DY (by omega) (by omega)]
   rw [e2]
   have hc:=hx.c
   unfold U8 at hc
   obtain ⟨t1,t2,t3⟩:=BK (a:=x.Cut) (m:=4) (by omega) (by omega)
   rw [w64 (a:=Ah x.Cut 4) (by omega) (by omega)]
   obtain ⟨v1,v2,v3⟩:=BK (a:=Ah x.Cut 4) (m:=((q.Text.length:Int)-A+1)) (by omega) (by omega)
   have v4:Ah (Ah x.Cut 4) ((q.Text.length:Int)-A+1)<=Ah x.Cut 4:=by
    rcases Int.lt_or_le (Ah x.Cut 4) ((q.Text.length:Int)-A+1) with h|h
    ·rw [v1,Int.emod_eq_of_lt t2 h];exact Int.le_refl _
    ·omega
   generalize Ah (Ah x.Cut 4) ((q.Text.length:Int)-A+1)=C at v1 v2 v3 v4 ⊢
   have hfin:∀ P:List UInt8,P.length<=4->MdC b { Block:=j,At:=A,Cut:=C,Put:=P }:=λ P hP=>by
    refine ⟨?_,s2,?_,v2,?_,hP,λ _=>⟨hw,?_⟩⟩
    ·show 0<=j/\j<256;omega
    ·show A<=400;omega
    ·show C<=3;omega
    ·show A+C<=_
     simp only [hq];omega
   refine Tot.bindC (Iw (by omega)) (Tot.bindC (Iw (by omega)) (Tot.ite (λ _=>?_) λ _=>Tot.pure (hfin _ (Nat.zero_le _))))
   exact Tot.bind (Rq (k:=4) hx.l hx.p (by omega) (by omega) ha ha2) λ P hP=>Tot.pure (hfin P hP)
end Go.AI
end
section
namespace Go.AI
variable {α ε σ ρ ζ β:Type}
theorem Le.dem {S:α->Prop} {k k':α->Option ζ} (h:∀ a,Le (k a) (k' a)):Le (dem S k) (dem S k'):=by
 intro z hz
 have h1:=Jav hz
 have h0:∃ a,S a:=by
  unfold Go.AI.dem at hz
  split at hz
  ·rename_i hx;exact hx.choose_spec.1
  ·cases hz
 exact Jaw h0 λ a ha=>h a _ (h1 a ha)
theorem Le.sortC {c c':β->β->Option Int} (h:∀ x y,Le (c x y) (c' x y)) {xs:List β}:Le (sortC c xs) (sortC c' xs):=by
 intro z hz
 obtain ⟨hc,hz⟩:=QJ hz
 have e:c'=c:=by
  funext x y
  have:=hc.tot x y
  rw [Option.isSome_iff_exists] at this
  obtain ⟨n,hn⟩:=this
  rw [hn,h x y _ hn]
 rw [e]
 unfold Go.AI.sortC
 rw [if_pos hc];exact hz
end Go.AI
end
section
namespace Go.AI
theorem lr {α:Type} {x:Option α}:Le x x:=Le.refl x
theorem BW {n m} (_:n<=m):Le (Bj n) (Bj m):=lr
theorem FM {n m} (h:n<=m) (a b):Le (Ck n a b) (Ck m a b):=.ite (.ite lr (BW h)) (.ite (.ite lr (BW h)) (.ite (.ite lr (BW h)) (BW h)))
theorem BX {n m} (h:n<=m) (a b):Le (Bk n a b) (Bk m a b):=.ite (.ite lr (BW h)) (.ite (FM h _ _) (.ite (FM h _ _) (FM h _ _)))
theorem I9 {n m} (h:n<=m) (a):Le (Cd n a) (Cd m a):=.ite (.ite lr (BW h)) (.ite (.ite lr (BW h)) (.ite (BX h _ _) (.ite (BX h _ _) (.ite (BX h _ _) (.ite (BX h _ _) (.ite (BX h _ _) (.ite (BX h _ _) (BX h _ _))))))))
theorem Sa {n m} (h:n<=m) (a b c):Le (GD n a b c) (GD m a b c):=.ite (.bind (Le.ite (lr) (lr)) λ _=>.bind (Le.ite (I9 h _) (lr)) λ _=>.ite lr (.bind lr λ _=>.bind (I9 h _) λ _=>lr)) lr
theorem WL {n m} (h:n<=m) (a b):Le (KM n a b) (KM m a b):=.bind (Le.whl (λ _=>Sa h _ _ _) h _) λ y49=>by rcases y49 with _|_;exact lr;exact lr
theorem Ml {n m} (h:n<=m) (a b c d e):Le (Ce n a b c d e) (Ce m a b c d e):=.bind lr λ _=>.bind (I9 h _) λ _=>.ite (.bind lr λ _=>.bind (WL h _ _) λ _=>lr) lr
theorem PB {n m} (h:n<=m) (a b):Le (Di n a b) (Di m a b):=.bind (Le.whl (λ _=>Ml h _ _ _ _ _) h _) λ _=>lr
theorem PC {n m} (_:n<=m) {r r':((List Al)->Int->Option Int)} (hrec101_:∀ a0 a1,Le (r a0 a1) (r' a0 a1)) (a b c d):Le (CI n r a b c d) (CI m r' a b c d):=.ite (.bind lr λ _=>.bind (hrec101_ _ _) λ _=>lr) lr
theorem Rr {n m} (h:n<=m) {r r':((List Al)->Int->Option Int)} (hrec101_:∀ a0 a1,Le (r a0 a1) (r' a0 a1)) (a b):Le (BC n r a b) (BC m r' a b):=.bind (PB h _ _) λ _=>.bind (Le.whl (λ _=>PC h hrec101_ _ _ _ _) h _) λ _=>lr
theorem O8 {n m} (_:n<=m) (a):Le (H3 n a) (H3 m a):=lr
theorem Vt {n m} (h:n<=m) (a b):Le (GE n a b) (GE m a b):=.bind (O8 h _) λ _=>.bind (O8 h _) λ _=>lr
theorem FW {n m} (_:n<=m) (a b):Le (Cw n a b) (Cw m a b):=lr
theorem Li {n m} (h:n<=m) (a b c d e):Le (B2 n a b c d e) (B2 m a b c d e):=.ite (.bind lr λ _=>.bind lr λ _=>.bind (Vt h _ _) λ _=>.ite (FW h _ _) (FW h _ _)) lr
theorem Lj {n m} (h:n<=m) (a b c d):Le (B3 n a b c d) (B3 m a b c d):=.ite (.bind (Le.whl (λ _=>Li h _ _ _ _ _) h _) λ _=>lr) lr
theorem Oo {n m} (h:n<=m) (a b):Le (Bz n a b) (Bz m a b):=.bind (Le.whl (λ _=>Lj h _ _ _ _) h _) λ _=>lr
theorem Sb {n m} (_:n<=m) (a):Le (E5 n a) (E5 m a):=.bind lr λ _=>lr
theorem Hy {n m} (_:n<=m) (a b):Le (C7 n a b) (C7 m a b):=lr
theorem Nk {n m} (h:n<=m) (a b c d e):Le (Cy n a b c d e) (Cy m a b c d e):=.ite (.bind lr λ _=>.bind lr λ _=>.ite (.bind lr λ _=>Hy h _ _) (Hy h _ _)) lr
theorem Nl {n m} (h:n<=m) (a b c d):Le (Cz n a b c d) (Cz m a b c d):=.ite (.bind (Le.whl (λ _=>Nk h _ _ _ _ _) h _) λ _=>lr) lr
theorem KA {n m} (h:n<=m) (a b):Le (Cl n a b) (Cl m a b):=.bind (Sb h _) λ _=>.bind (Le.whl (λ _=>Nl h _ _ _ _) h _) λ _=>lr
theorem FX {n m} (_:n<=m) (a):Le (CA n a) (CA m a):=lr
theorem Lk {n m} (h:n<=m) (a b c d e f):Le (B4 n a b c d e f) (B4 m a b c d e f):=.ite (.bind (Le.ite (lr) (lr)) λ _=>.bind (Le.ite (lr) (lr)) λ _=>.bind (Le.ite (KA h _ _) (lr)) λ _=>.bind (Le.ite (lr) (lr)) λ _=>.bind (Le.ite (KA h _ _) (lr)) λ _=>.bind (Le.ite (Oo h _ _) (lr)) λ _=>lr) lr
theorem Ll {n m} (h:n<=m) {r r':(Ae->(List Aa)->(List (List Aa))->Option (List Aa))} (hrec98k1_:∀ a0 a1 a2,Le (r a0 a1 a2) (r' a0 a1 a2)) (a b c d):Le (BI n r a b c d) (BI m r' a b c d):=.bind lr λ _=>.ite (.bind (Le.whl (λ _=>Lk h _ _ _ _ _ _) h _) λ _=>.ite (FX h _) (.bind lr λ _=>.bind lr λ _=>.bind lr λ _=>.bind lr λ _=>.bind (hrec98k1_ _ _ _) λ _=>.ite lr (FX h _))) lr
theorem Mm {n m} (h:n<=m) {r r':(Ae->(List Aa)->(List (List Aa))->Option (List Aa))} (hrec98k1_:∀ a0 a1 a2,Le (r a0 a1 a2) (r' a0 a1 a2)) (a b c):Le (A4 n r a b c) (A4 m r' a b c):=.ite lr (.bind (Le.whl (λ _=>Ll h hrec98k1_ _ _ _ _) h _) λ y120=>by rcases y120 with _|_;exact lr;exact lr)
end Go.AI
end
section
namespace Go.AI
def DP (x:Al):Int:=(Cd 0 x).getD 0
theorem ar3 (x:Al) (b:Bool):∃ a,Ck 0 x b=some a/\-1<=a/\a<=16:=by
 unfold Ck Bj
 split
 ·split
  ·exact ⟨1,rfl,by decide⟩
  ·exact ⟨-1,rfl,by decide⟩
 ·split
  ·split
   ·rename_i h
    rw [Jll,decide_eq_true_eq,decide_eq_true_eq] at h
    refine ⟨_,rfl,?_⟩
    rw [DY (by omega) (by omega)];omega
   ·exact ⟨-1,rfl,by decide⟩
  ·split
   ·split
    ·rename_i h
     simp only [Jll,decide_eq_true_eq] at h
     obtain ⟨⟨⟨⟨h0,h1⟩,h2⟩,h3⟩,h4⟩:=h
     refine ⟨_,rfl,?_⟩
     generalize Dt .i64 x.N 8=q at *
     generalize Ah x.N 8=r at *
     have hq:q=1\/q=2\/q=3\/q=4:=by omega
     have hr:r=1\/r=2\/r=3\/r=4:=by omega
     rcases hq with rfl|rfl|rfl|rfl<;>rcases hr with rfl|rfl|rfl|rfl<;>decide
    ·exact ⟨-1,rfl,by decide⟩
   ·exact ⟨-1,rfl,by decide⟩
theorem ar2 (x:Al) (b:Bool):∃ a,Bk 0 x b=some a/\(-1<=a/\a<=16)/\(b=true->a=-1\/a=2):=by
 unfold Bk Bj
 split
 ·split
  ·exact ⟨2,rfl,by decide,λ _=>.inr rfl⟩
  ·exact ⟨-1,rfl,by decide,λ _=>.inl rfl⟩
 ·rename_i h
  split
  ·obtain ⟨a,h1,h2⟩:=ar3 x (x.Op==9);exact ⟨a,h1,h2,λ hb=>absurd hb h⟩
  ·split
   ·obtain ⟨a,h1,h2⟩:=ar3 x (x.Op==10);exact ⟨a,h1,h2,λ hb=>absurd hb h⟩
   ·obtain ⟨a,h1,h2⟩:=ar3 x (x.Op==11);exact ⟨a,h1,h2,λ hb=>absurd hb h⟩
theorem ar1 (x:Al):∃ a,Cd 0 x=some a/\(-1<=a/\a<=16)/\((x.Op=2\/x.Op=3\/x.Op=4\/x.Op=5)->a=-1\/a=2):=by
 have step:∀ k:Int,x.Op≠0->x.Op≠1->(x.Op=k\/¬(x.Op=2\/x.Op=3\/x.Op=4\/x.Op=5))->∃ a,Bk 0 x (x.Op==k)=some a/\(-1<=a/\a<=16)/\((x.Op=2\/x.Op=3\/x.Op=4\/x.Op=5)->a=-1\/a=2):=λ k _ _ hk=>by
  obtain ⟨a,h1,h2,h3⟩:=ar2 x (x.Op==k)
  refine ⟨a,h1,h2,λ h=>?_⟩
  rcases hk with hk|hk
  ·exact h3 (by simpa using hk)
  ·exact absurd h hk
 unfold Cd Bj
 by_cases h0:x.Op=0
 ·rw [if_pos (by simpa using h0)]
  split
  ·exact ⟨0,rfl,by decide,λ h=>by omega⟩
  ·exact ⟨-1,rfl,by decide,λ _=>.inl rfl⟩
 ·rw [if_neg (by simpa using h0)]
  by_cases h1:x.Op=1
  ·rw [if_pos (by simpa using h1)]
   split
   ·exact ⟨0,rfl,by decide,λ h=>by omega⟩
   ·exact ⟨-1,rfl,by decide,λ _=>.inl rfl⟩
  ·rw [if_neg (by simpa using h1)]
   by_cases h2:x.Op=2
   ·rw [if_pos (by simpa using h2)];exact step 2 h0 h1 (.inl h2)
   ·rw [if_neg (by simpa using h2)]
    by_cases h3:x.Op=3
    ·rw [if_pos (by simpa using h3)];exact step 3 h0 h1 (.inl h3)
    ·rw [if_neg (by simpa using h3)]
     by_cases h4:x.Op=4
     ·rw [if_pos (by simpa using h4)];exact step 4 h0 h1 (.inl h4)
     ·rw [if_neg (by simpa using h4)]
      by_cases h5:x.Op=5
      ·rw [if_pos (by simpa using h5)];exact step 5 h0 h1 (.inl h5)
      ·rw [if_neg (by simpa using h5)]
       have hn:¬(x.Op=2\/x.Op=3\/x.Op=4\/x.Op=5):=by omega
       split
       ·exact step 6 h0 h1 (.inr hn)
       ·split
        ·exact step 7 h0 h1 (.inr hn)
        ·exact step 8 h0 h1 (.inr hn)
theorem XE (n:Nat) (x:Al):Cd n x=some (DP x):=by
 obtain ⟨a,h1,_⟩:=ar1 x
 have e:Cd n x=Cd 0 x:=rfl
 unfold DP
 rw [e,h1];rfl
theorem XF (x:Al):-1<=DP x/\DP x<=16:=by
 obtain ⟨a,h1,h2,_⟩:=ar1 x
 unfold DP
 rw [h1];exact h2
theorem Jiy {x:Al} (h:x.Op=2\/x.Op=3\/x.Op=4\/x.Op=5) (h0:0<=DP x):DP x=2:=by
 obtain ⟨a,h1,_,h3⟩:=ar1 x
 unfold DP at h0 ⊢
 rw [h1] at h0 ⊢
 rcases h3 h with rfl|rfl
 ·exact absurd h0 (by decide)
 ·rfl
def enS:Nat->List Al->Option Nat
 | 0,_=>some 0
 | _+1,[]=>none
 | o+1,x::l=>if DP x<0 then none else (enS (o+(DP x).toNat) l).map (·+1)
theorem KU (o:Nat) (x:Al) (l:List Al):enS (o+1) (x::l)=if DP x<0 then none else (enS (o+(DP x).toNat) l).map (·+1):=rfl
theorem Nm (l:List Al):enS 0 l=some 0:=by cases l<;>rfl
theorem Jj3 {o:Nat} {l:List Al} {k:Nat} (h:enS o l=some k):k<=l.length:=by
 induction l generalizing o k with
 | nil=>
  cases o with
  | zero=>rw [Nm] at h;cases h;exact Jlb _
  | succ o=>cases h
 | cons x l ih=>
  cases o with
  | zero=>rw [Nm] at h;cases h;exact Nat.zero_le _
  | succ o=>
   rw [KU] at h
   split at h
   ·cases h
   ·rw [Jln] at h
    obtain ⟨j,hj,rfl⟩:=h
    have:=ih hj
    simp only [List.length_cons];omega
theorem Vu {a b:Nat} {l:List Al} {k:Nat} (h:enS (a+b) l=some k):∃ j,enS a l=some j/\(j<=k/\(0<a->0<j))/\enS b (l.drop j)=some (k-j):=by
 induction l generalizing a b k with
 | nil=>
  cases a with
  | zero=>exact ⟨0,rfl,⟨Nat.zero_le _,λ h=>h⟩,by simpa using h⟩
  | succ a=>rw [Nat.succ_add] at h;cases h
 | cons x l ih=>
  cases a with
  | zero=>exact ⟨0,Nm _,⟨Nat.zero_le _,λ h=>h⟩,by simpa using h⟩
  | succ a=>
   rw [Nat.succ_add,KU] at h
   split at h
   ·cases h
   ·rename_i hx
    rw [Jln] at h
    obtain ⟨m,hm,rfl⟩:=h
    rw [show a+b+(DP x).toNat=(a+(DP x).toNat)+b by omega] at hm
    obtain ⟨j,h1,h2,h3⟩:=ih hm
    refine ⟨j+1,?_,⟨by omega,λ _=>by omega⟩,?_⟩
    ·rw [KU,if_neg hx,h1];rfl
    ·rw [List.drop_succ_cons,h3];congr 1;omega
theorem Nn {f:List Al} {i:Nat} (h:i<f.length):idx f (i:Int)=some (f.getD i default):=C9 h
theorem Jbj {f:List Al} (hf:f.length<=1000000) {i:Nat} (hi:i<=f.length):Ev (λ n=>KM n f (i:Int)) (match enS 1 (f.drop i) with|some k=>((i+k:Nat):Int)|none=>-1):=by
 refine Tot.ev (Tot.bind (R:=λ y=>(match y with | .inl a=>a | .inr a=>a)=(match enS 1 (f.drop i) with|some k=>((i+k:Nat):Int)|none=>-1)) ?_ λ y hy=>by
  cases y with
  | inl a=>exact Tot.pure hy
  | inr a=>exact Tot.pure hy)
 refine Tot.whl (λ q (x:Int×Int)=>∃ j o:Nat,(x.1=(j:Int)/\x.2=(o:Int))/\(j<=f.length/\q=f.length-j)/\o<=1+16*j/\(match enS o (f.drop j) with|some k=>((j+k:Nat):Int)|none=>-1)=(match enS 1 (f.drop i) with|some k=>((i+k:Nat):Int)|none=>-1)) ?_ (f.length-i) _ ⟨i,1,⟨rfl,rfl⟩,⟨hi,rfl⟩,by omega,rfl⟩
 rintro q ⟨a,b⟩ ⟨j,o,⟨h1,h2⟩,⟨h3,rfl⟩,h4,h5⟩
 simp only at h1 h2
 subst h1 h2
 unfold GD
 cases o with
 | zero=>
  refine Tot.iteF rfl (Tot.pure ?_)
  rw [Nm] at h5
  exact h5
 | succ o=>
  refine Tot.iteT (decide_eq_true (by omega)) ?_
  have e1:decide ((j:Int)<0)=false:=decide_eq_false (by omega)
  rcases Jlc j f.length with hj|hj
  ·have e2:decide ((j:Int)>=((f.length:Nat):Int))=false:=decide_eq_false (by omega)
   rw [e1,e2]
   have hb:=XF (f.getD j default)
   refine Tot.gE rfl (Ev.all λ n=>Nn hj) (Tot.gE rfl (Ev.all λ n=>XE n _) ?_)
   rw [List.drop_eq_getElem_cons hj,KU,← BQ (d:=default) hj] at h5
   refine Tot.ite (λ h=>Tot.pure ?_) λ h=>?_
   ·have h:DP (f.getD j default)<0:=by simpa using h
    rw [if_pos h] at h5
    exact h5
   ·have h:0<=DP (f.getD j default):=by simpa using h
    rw [if_neg (by omega)] at h5
    refine Tot.bindC (Nn hj) (Tot.bindA (λ n=>XE n _) (Tot.pure ⟨f.length-(j+1),by omega,j+1,o+(DP (f.getD j default)).toNat,⟨Aq (by omega),?_⟩,⟨by omega,rfl⟩,by omega,?_⟩))
    ·show Ai .i64 ((o+1:Nat):Int) (AT .i64 (DP (f.getD j default)) 1)=_
     rw [CB (by omega) (by omega),DY (by omega) (by omega)];omega
    ·rw [← h5]
     cases enS (o+(DP (f.getD j default)).toNat) (f.drop (j+1)) with
     | none=>rfl
     | some k=>simp only [Option.map_some];congr 1;omega
  ·have e2:decide ((j:Int)>=((f.length:Nat):Int))=true:=decide_eq_true (by omega)
   rw [e1,e2]
   refine Tot.gF rfl (Tot.gF rfl (Tot.iteT rfl (Tot.pure ?_)))
   rw [List.drop_of_length_le hj] at h5
   exact h5
theorem XG {f:List Al} (h:enS 1 f=some f.length):∀ i,i<f.length->∃ o,enS (o+1) (f.drop i)=some (f.length-i)
 | 0,_=>⟨0,by simpa using h⟩
 | i+1,hi=>by
  obtain ⟨o,ho⟩:=XG h i (by omega)
  rw [List.drop_eq_getElem_cons (by omega),KU] at ho
  split at ho
  ·cases ho
  ·rw [Jln] at ho
   obtain ⟨m,hm,he⟩:=ho
   generalize ho':o+(DP f[i]).toNat=o' at hm
   cases o' with
   | zero=>rw [Nm] at hm;cases hm;omega
   | succ o'=>exact ⟨o',by rw [hm];congr 1;omega⟩
theorem XH {f:List Al} (h:enS 1 f=some f.length) {i:Nat} (hi:i<f.length):0<=DP (f.getD i default)/\∃ k,enS (DP (f.getD i default)).toNat (f.drop (i+1))=some k:=by
 obtain ⟨o,ho⟩:=XG h i hi
 rw [List.drop_eq_getElem_cons hi,KU,← BQ (d:=default) hi] at ho
 split at ho
 ·cases ho
 ·rw [Jln] at ho
  obtain ⟨m,hm,_⟩:=ho
  rw [Nat.add_comm] at hm
  obtain ⟨j,hj,_⟩:=Vu hm
  exact ⟨by omega,j,hj⟩
theorem Jbk {f:List Al} (hf:f.length<=1000000) (h:enS 1 f=some f.length) {i:Nat} (hi:i<f.length):Tot (λ n=>Di n f (i:Int)) (λ l=>(l.length:Int)=DP (f.getD i default)/\∀ v∈l,∃ j:Nat,v=(j:Int)/\i<j/\j<f.length):=by
 obtain ⟨h0,k0,hk0⟩:=XH h hi
 have hb:=XF (f.getD i default)
 refine Tot.bind (R:=λ l=>(l.length:Int)=DP (f.getD i default)/\∀ v∈l,∃ j:Nat,v=(j:Int)/\i<j/\j<f.length) ?_ λ l hl=>Tot.pure hl
 refine Tot.upto (DP (f.getD i default)).toNat (λ m (x:List Int×Int×Int)=>(x.2.2=(m:Int)/\x.1.length=m)/\(∀ v∈x.1,∃ j:Nat,v=(j:Int)/\i<j/\j<f.length)/\∃ j k:Nat,x.2.1=(j:Int)/\(i<j/\j<=f.length)/\enS ((DP (f.getD i default)).toNat-m) (f.drop j)=some k) ?_ ?_ _ ⟨⟨rfl,rfl⟩,by simp,i+1,k0,Aq (by omega),by omega,hk0⟩
 ·rintro m ⟨l,a,b⟩ hm ⟨⟨h1,h2⟩,h3,j,k,h4,h5,h6⟩
  simp only at h1 h2 h3 h4
  subst h1 h4
  unfold Ce
  have hs:(DP (f.getD i default)).toNat-m=1+((DP (f.getD i default)).toNat-(m+1)):=by omega
  rw [hs] at h6
  obtain ⟨q,q1,q2,q3⟩:=Vu h6
  have hlt:j<f.length:=by
   rcases Jlc j f.length with h|h
   ·exact h
   ·rw [List.drop_of_length_le h] at q1;cases q1
  have hle:=Jj3 q1
  rw [List.length_drop] at hle
  have he:=Jbj hf (i:=j) (by omega)
  rw [q1] at he
  refine Tot.bindC (Nn hi) (Tot.bindA (λ n=>XE n _) (Tot.iteT (decide_eq_true (show (m:Int)<DP (f.getD i default) by omega)) (Tot.bindC (Bf (by simp;omega)) (Tot.bindE he (Tot.pure ⟨⟨Aq (by omega),by simp;exact h2⟩,λ v hv=>?_,j+q,k-q,rfl,by omega,?_⟩)))))
  ·rw [List.mem_append,List.mem_singleton] at hv
   rcases hv with hv|rfl
   ·exact h3 v hv
   ·exact ⟨j,rfl,h5.1,hlt⟩
  ·rw [← List.drop_drop];exact q3
 ·rintro ⟨l,a,b⟩ ⟨⟨h1,h2⟩,h3,j,k,h4,h5,h6⟩
  simp only at h1 h2 h3 h4
  subst h1 h4
  unfold Ce
  refine Tot.bindC (Nn hi) (Tot.bindA (λ n=>XE n _) (Tot.iteF (decide_eq_false (show ¬(((DP (f.getD i default)).toNat:Nat):Int)<DP (f.getD i default) by omega)) (Tot.pure ⟨by show (l.length:Int)=_;omega,h3⟩)))
theorem TT (p:Int):Tot (λ n=>Cv n p) (λ _=>True):=by
 unfold Cv CZ
 refine Tot.ite (λ _=>Tot.pure trivial) λ _=>Tot.ite (λ _=>Tot.ite (λ _=>Tot.pure trivial) λ _=>Tot.ite (λ _=>Tot.pure trivial) λ _=>Tot.pure trivial) λ _=>Tot.ite (λ _=>Tot.pure trivial) λ _=>Tot.ite (λ _=>Tot.pure trivial) λ _=>Tot.pure trivial
theorem Jbl {f:List Al} (hf:f.length<=1000000) (h:enS 1 f=some f.length) {i:Nat} (hi:i<f.length):Tot (λ n=>NL n f (i:Int)) (λ _=>True):=by
 refine Tot.bind (Jbk hf h hi) λ l hl=>Tot.bindC (Nn hi) ?_
 have h0:=(XH h hi).1
 generalize hx:f.getD i default=x at *
 have gd:∀ k:Nat,k<l.length->∃ j:Nat,idx l (k:Int)=some (j:Int)/\j<f.length:=λ k hk=>by
  obtain ⟨j,h1,h2,h3⟩:=hl.2 _ (Jk9 hk)
  exact ⟨j,by rw [AG hk,h1],h3⟩
 have key:∀ b:Bool,(b=true->x.Op=2\/x.Op=3\/x.Op=4\/x.Op=5)->Tot (λ n=>CH n f (i:Int) l x b) (λ _=>True):=λ b hb=>by
  unfold CH F9
  refine Tot.ite (λ h1=>?_) λ _=>Tot.ite (λ h1=>?_) λ _=>Tot.pure trivial
  ·have ha:=Jiy (hb h1) h0
   have hll:l.length=2:=by omega
   obtain ⟨j0,g0,g0'⟩:=gd 0 (by omega)
   obtain ⟨j1,g1,g1'⟩:=gd 1 (by omega)
   refine Tot.bindC (Nn hi) (Tot.bind (TT _) λ r72 _=>Tot.bindC g0 (Tot.bindC (Nn g0') (Tot.bind (TT _) λ r73 _=>?_)))
   cases hd:decide (r73>=r72) with
   | false=>exact Tot.gF rfl (Tot.gF rfl (Tot.gF rfl (Tot.pure trivial)))
   | true=>exact Tot.gE rfl (Ev.all λ n=>g1) (Tot.gE rfl (Ev.all λ n=>Nn g1') (Tot.guard (R:=λ _=>True) (λ _=>TT _) λ _ _=>Tot.pure trivial))
  ·refine Tot.bind (R:=λ _=>True) ?_ λ y _=>by
    cases y with
    | inl _=>exact Tot.pure trivial
    | inr _=>exact Tot.pure trivial
   refine Tot.upto l.length (λ k (x:Int)=>x=(k:Int)) (λ k x hk hx=>?_) (λ x hx=>?_) _ rfl
   ·subst hx
    unfold Ga
    obtain ⟨j,g,g'⟩:=gd k hk
    refine Tot.iteT (decide_eq_true (by omega)) (Tot.bindC g (Tot.bindC (Nn g') (Tot.ite (λ _=>Tot.pure trivial) λ _=>Tot.pure (Aq ?_))))
    have:=XF x
    omega
   ·subst hx
    unfold Ga
    exact Tot.iteF (decide_eq_false (by omega)) (Tot.pure trivial)
 refine Tot.ite (λ h1=>key _ λ _=>?_) λ _=>Tot.ite (λ h1=>key _ λ _=>?_) λ _=>Tot.ite (λ h1=>key _ λ _=>?_) λ _=>key _ λ h1=>?_
 ·left;simpa using h1
 ·right;left;simpa using h1
 ·right;right;left;simpa using h1
 ·right;right;right;simpa using h1
theorem Jbm {f:List Al}:Tot (λ n=>MR n f) (λ b=>b=true->f.length<=200/\(0<f.length/\enS 1 f=some f.length)):=by
 unfold MR
 by_cases h0:f.length=0\/200<f.length
 ·have e:((((f.length:Nat):Int)==0)||(decide (((f.length:Nat):Int)>200)))=true:=by
   rw [JlC,beq_iff_eq,decide_eq_true_eq];omega
  rw [e]
  exact Tot.gF rfl (Tot.iteT rfl (Tot.pure λ h=>by cases h))
 ·have e:((((f.length:Nat):Int)==0)||(decide (((f.length:Nat):Int)>200)))=false:=by
   rw [Jlj,beq_eq_false_iff_ne,decide_eq_false_iff_not];omega
  rw [e]
  refine Tot.gE rfl (Jbj (f:=f) (i:=0) (by omega) (by omega)) (Tot.ite (λ _=>Tot.pure λ h=>by cases h) λ hb=>?_)
  rw [List.drop_zero,Bool.false_or,bne_eq_false_iff_eq] at hb
  have ht:enS 1 f=some f.length:=by
   cases he:enS 1 f with
   | none=>rw [he] at hb;simp only at hb;omega
   | some k=>rw [he] at hb;simp only at hb;congr 1;omega
  refine Tot.bind (R:=λ _=>True) ?_ λ y _=>by
   cases y with
   | inl _=>exact Tot.pure λ _=>⟨by omega,by omega,ht⟩
   | inr _=>exact Tot.pure λ _=>⟨by omega,by omega,ht⟩
  refine Tot.upto f.length (λ k (x:Int)=>x=(k:Int)) (λ k x hk hx=>?_) (λ x hx=>?_) _ rfl
  ·subst hx
   unfold Hg
   exact Tot.iteT (decide_eq_true (by omega)) (Tot.bind (Jbl (by omega) ht hk) λ b _=>Tot.ite (λ _=>Tot.pure trivial) λ _=>Tot.pure (Aq (by omega)))
  ·subst hx
   unfold Hg
   exact Tot.iteF (decide_eq_false (by omega)) (Tot.pure trivial)
theorem Jef {f:List Al} (hf:f.length<=200) (h:enS 1 f=some f.length):∀ (d i:Nat),i<f.length->f.length-i<=d->Tot (λ n=>JB (λ _ _=>none) (BC n) d f (i:Int)) (λ _=>True):=by
 intro d
 induction d with
 | zero=>intro i hi hd;omega
 | succ d ih=>
  intro i hi hd
  show Tot (λ n=>BC n (JB (λ _ _=>none) (BC n) d) f (i:Int)) _
  unfold BC
  refine Tot.bind (Jbk (by omega) h hi) λ l hl=>Tot.bind (R:=λ _=>True) ?_ λ _ _=>Tot.pure trivial
  have hb:=XF (f.getD i default)
  refine Tot.upto (body:=λ n (x:Int×Int)=>CI n (JB (λ _ _=>none) (BC n) d) f l x.1 x.2) l.length (λ k (x:Int×Int)=>x.2=(k:Int)) ?_ ?_ _ rfl
  ·rintro k ⟨a,b⟩ hk hx
   simp only at hx
   subst hx
   obtain ⟨j,h1,h2,h3⟩:=hl.2 _ (Jk9 hk)
   unfold CI
   refine Tot.iteT (decide_eq_true (by omega)) (Tot.bindC (AG hk) ?_)
   rw [h1]
   exact Tot.bind (ih j h3 (by omega)) λ r _=>Tot.pure (Aq (by omega))
  ·rintro ⟨a,b⟩ hx
   simp only at hx
   subst hx
   unfold CI
   exact Tot.iteF (decide_eq_false (by omega)) (Tot.pure trivial)
theorem Jbn (n:Nat):∀ (x y:Nat),x<=y->∀ a b,Le (JB (λ _ _=>none) (BC n) x a b) (JB (λ _ _=>none) (BC n) y a b):=by
 intro x
 induction x with
 | zero=>intro y _ _ _ z hz;cases hz
 | succ x ih=>
  intro y hy _ _
  cases y with
  | zero=>omega
  | succ y=>exact Rr (Jlb n) (ih y (by omega)) _ _
theorem SM (f:List Al):Tot (λ n=>EZ n f) (λ _=>True):=by
 unfold EZ
 refine Tot.guard (R:=λ b=>b=true->f.length<=200/\(0<f.length/\enS 1 f=some f.length)) (λ _=>Jbm) λ b hb=>?_
 refine Tot.guard (R:=λ _=>True) (λ hc=>?_) λ _ _=>Tot.pure trivial
 rw [Jll] at hc
 obtain ⟨h1,h2,h3⟩:=hb hc.1 hc.2
 obtain ⟨z,hz,N,hN⟩:=Jef h1 h3 f.length 0 h2 (by omega)
 have hd:Tot (λ n=>NM n f ((0:Nat):Int)) (λ _=>True):=⟨z,hz,max N f.length,λ m hm=>Jbn m f.length m (by omega) _ _ _ (hN m (by omega))⟩
 exact Tot.bind hd λ _ _=>Tot.pure trivial
end Go.AI
end
section
namespace Go.AI
def Nr (p:Aa):Prop:=(-1000<=p.X/\p.X<=1000)/\-1000<=p.Y/\p.Y<=1000
theorem Jeg {a b:Int} (A B:Int) (h1:-A<=a) (h2:a<=A) (h3:-B<=b) (h4:b<=B):-(A*B)<=a*b/\a*b<=A*B:=by
 have hA:a.natAbs<=A.toNat:=by omega
 have hB:b.natAbs<=B.toNat:=by omega
 have h:=Nat.mul_le_mul hA hB
 rw [← Int.natAbs_mul] at h
 have e:((A.toNat*B.toNat:Nat):Int)=A*B:=by
  rw [Int.natCast_mul,Int.toNat_of_nonneg (by omega),Int.toNat_of_nonneg (by omega)]
 omega
theorem Y1 (P:List Aa) {i:Nat} (h:i<P.length):P.getD i default∈P:=by
 rw [Jlt,Jlk h]
 exact Jk9 _
def Mn (a b:Aa):Nat:=max (a.X-b.X).natAbs (a.Y-b.Y).natAbs
def btw (a b:Int) (k n:Nat):Int:=(2*(a*n+k*(b-a))+n) / (2*n)
def ptL (a b:Aa) (k:Nat):Aa:=⟨btw a.X b.X k (Mn a b),btw a.Y b.Y k (Mn a b)⟩
def KB (a b:Aa):List Aa:=if Mn a b=0 then [a] else (List.range (Mn a b+1)).map (ptL a b)
theorem TU {a b:Aa} (ha:Nr a) (hb:Nr b):Mn a b<=2000:=by
 unfold Mn;unfold Nr at ha hb;omega
theorem Y2 {a d:Int} (hd:0<d):(if decide (Ah a d<0)=true then a.tdiv d-1 else a.tdiv d)=a / d:=by
 unfold Ah
 have h1:=Int.mul_tdiv_add_tmod a d
 have h2:=Int.mul_ediv_add_emod a d
 have h3:=Int.emod_nonneg a (show d≠0 by omega)
 have h4:=Int.emod_lt_of_pos a hd
 rcases Int.lt_or_le a 0 with ha|ha
 ·have h5:a.tmod d<=0:=by
   have:=Int.tmod_nonneg d (a:=-a) (by omega)
   rw [Int.neg_tmod] at this
   omega
  have h6:-d<a.tmod d:=by
   have:=Int.lt_tmod_of_pos a hd
   omega
  split
  ·rename_i h
   have h:=of_decide_eq_true h
   refine Eq.symm (Int.ediv_eq_iff_of_pos hd |>.2 ?_)
   have:d*(a.tdiv d-1)=d*a.tdiv d-d:=by rw [Int.mul_sub,Int.mul_one]
   constructor
   ·rw [Int.mul_comm];omega
   ·rw [Int.mul_comm];omega
  ·rename_i h
   have h:¬a.tmod d<0:=λ hh=>h (decide_eq_true hh)
   refine Eq.symm (Int.ediv_eq_iff_of_pos hd |>.2 ?_)
   constructor
   ·rw [Int.mul_comm];omega
   ·rw [Int.mul_comm];omega
 ·have h5:=Int.tmod_nonneg d ha
  rw [if_neg (by simpa using h5)]
  exact Int.tdiv_eq_ediv_of_nonneg ha
theorem Jiz {a b:Int} {k n:Nat} (ha:-1000<=a) (ha':a<=1000) (hb:-1000<=b) (hb':b<=1000) (hk:k<=2000) (hn:n<=2000) :
  (BS .i64 a n=a*n/\AT .i64 b a=b-a/\BS .i64 k (b-a)=k*(b-a)/\Ai .i64 (a*n) (k*(b-a))=a*n+k*(b-a) /\
  BS .i64 2 (a*n+k*(b-a))=2*(a*n+k*(b-a))/\Ai .i64 (2*(a*n+k*(b-a))) n=2*(a*n+k*(b-a))+n/\BS .i64 2 n=2*n) /\
  -20000000<=2*(a*n+k*(b-a))+n/\2*(a*n+k*(b-a))+n<=20000000:=by
 have h1:=Jeg (a:=a) (b:=n) 1000 2000 ha ha' (by omega) (by omega)
 have h2:=Jeg (a:=k) (b:=b-a) 2000 2000 (by omega) (by omega) (by omega) (by omega)
 exact ⟨⟨FV (by omega) (by omega),CB (by omega) (by omega),FV (by omega) (by omega),DY (by omega) (by omega),FV (by omega) (by omega),DY (by omega) (by omega),FV (by omega) (by omega)⟩,by omega,by omega⟩
theorem JiA {a d:Int} (h:-20000000<=a) (h':a<=20000000):-20000000<=a.tdiv d/\a.tdiv d<=20000000:=by
 have:=Int.natAbs_tdiv_le_natAbs a d
 omega
theorem Vv (m:Nat) {a b:Int} {k n:Nat} (ha:-1000<=a) (ha':a<=1000) (hb:-1000<=b) (hb':b<=1000) (hk:k<=2000) (hn:n<=2000) (h0:0<n) :
  GG m (Ai .i64 (BS .i64 2 (Ai .i64 (BS .i64 a n) (BS .i64 k (AT .i64 b a)))) n) (BS .i64 2 n)=some (btw a b k n):=by
 obtain ⟨⟨e1,e2,e3,e4,e5,e6,e7⟩,l1,l2⟩:=Jiz ha ha' hb hb' hk hn
 unfold GG Fd btw
 rw [e1,e2,e3,e4,e5,e6,e7]
 have hz:(!(2*(n:Int)==0))=true:=by simp;omega
 rw [hz]
 have q:=JiA (d:=2*n) l1 l2
 have e8:Dt .i64 (2*(a*n+k*(b-a))+n) (2*n)=(2*(a*n+k*(b-a))+n).tdiv (2*n):=w64 (by omega) (by omega)
 rw [e8,CB (by omega) (by omega)]
 have:=Y2 (a:=2*(a*n+k*(b-a))+n) (d:=2*n) (by omega)
 rw [← this]
 simp only [Jba,Jk3]
 split<;>rfl
theorem Jbo (m:Nat) {a b:Aa} (ha:Nr a) (hb:Nr b):GE m a b=some ((Mn a b:Nat):Int):=by
 unfold Nr at ha hb
 unfold GE H3 Mn
 simp only [Jk3]
 rw [CB (a:=a.X) (by omega) (by omega),CB (a:=a.Y) (by omega) (by omega)]
 unfold Jfg
 rw [w64 (a:=0-(a.X-b.X)) (by omega) (by omega),w64 (a:=0-(a.Y-b.Y)) (by omega) (by omega)]
 congr 1
 split<;>split<;>split<;>omega
theorem Rs {α:Type} (f:Nat->α) (i:Nat):(List.range (i+1)).map f=(List.range i).map f++[f i]:=by
 rw [List.range_succ,List.map_append];rfl
theorem Y3 {a b:Aa} (ha:Nr a) (hb:Nr b):Ev (λ n=>NN n a b) (KB a b):=by
 have hf:=TU ha hb
 have ha':=ha
 have hb':=hb
 unfold Nr at ha' hb'
 refine Tot.ev (Tot.bindA (λ n=>Jbo n ha hb) ?_)
 unfold KB
 by_cases h0:Mn a b=0
 ·rw [if_pos h0,h0]
  exact Tot.iteT rfl (Tot.pure rfl)
 ·rw [if_neg h0]
  refine Tot.iteF (by simpa using h0) ?_
  refine Tot.bind (R:=λ y=>y=(List.range (Mn a b+1)).map (ptL a b)) (Tot.upto (Mn a b+1) (λ i (x:List Aa×Int)=>x.2=(i:Int)/\x.1=(List.range i).map (ptL a b)) ?_ ?_ _ ⟨rfl,rfl⟩) λ y hy=>Tot.pure hy
  ·rintro i ⟨l,k⟩ hi ⟨hk,hl⟩
   simp only at hk hl
   subst hk hl
   unfold Ge
   refine Tot.iteT (decide_eq_true (by omega)) (Tot.bindA (λ n=>Vv n (by omega) (by omega) (by omega) (by omega) (by omega) hf (by omega)) (Tot.bindA (λ n=>Vv n (by omega) (by omega) (by omega) (by omega) (by omega) hf (by omega)) (Tot.bindC (Bf ?_) (Tot.pure ⟨Aq (by omega),?_⟩))))
   ·simp;omega
   ·rw [Rs];rfl
  ·rintro ⟨l,k⟩ ⟨hk,hl⟩
   simp only at hk hl
   subst hk hl
   unfold Ge
   exact Tot.iteF (decide_eq_false (by omega)) (Tot.pure rfl)
theorem Jbp {a b p:Aa}:p∈KB a b↔(Mn a b=0/\p=a)\/(Mn a b≠0/\∃ k,k<=Mn a b/\p=ptL a b k):=by
 unfold KB
 split
 ·rename_i h;simp [h]
 ·rename_i h
  simp only [Jle,List.mem_range,h,false_and,false_or,ne_eq,not_false_eq_true,true_and]
  constructor
  ·rintro ⟨k,hk,rfl⟩;exact ⟨k,by omega,rfl⟩
  ·rintro ⟨k,hk,rfl⟩;exact ⟨k,by omega,rfl⟩
theorem Jbq {a b m:Int} {k n:Nat} (h:0<n) (hk:k<=n) (ha:m<=a) (hb:m<=b):m<=btw a b k n:=by
 unfold btw
 rw [Int.le_ediv_iff_mul_le (by omega)]
 have e:a*n+k*(b-a)=a*(n-k:Nat)+k*b:=by
  have:((n-k:Nat):Int)=n-k:=by omega
  rw [this,Int.mul_sub,Int.mul_sub,Int.mul_comm (k:Int) a];omega
 rw [e]
 have h1:m*(n-k:Nat)<=a*(n-k:Nat):=Int.mul_le_mul_of_nonneg_right ha (by omega)
 have h2:k*m<=k*b:=Int.mul_le_mul_of_nonneg_left hb (by omega)
 have h3:m*(2*(n:Int))=2*(m*(n-k:Nat)+k*m):=by
  have:((n-k:Nat):Int)=n-k:=by omega
  rw [this,Int.mul_sub,Int.mul_comm (k:Int) m,Int.sub_add_cancel,← Int.mul_assoc,Int.mul_comm m 2,Int.mul_assoc]
 omega
theorem Jbr {a b m:Int} {k n:Nat} (h:0<n) (hk:k<=n) (ha:a<=m) (hb:b<=m):btw a b k n<=m:=by
 unfold btw
 have:(2*(a*n+k*(b-a))+n) / (2*(n:Int))<m+1:=by
  rw [Int.ediv_lt_iff_lt_mul (by omega)]
  have e:a*n+k*(b-a)=a*(n-k:Nat)+k*b:=by
   have:((n-k:Nat):Int)=n-k:=by omega
   rw [this,Int.mul_sub,Int.mul_sub,Int.mul_comm (k:Int) a];omega
  rw [e]
  have h1:a*(n-k:Nat)<=m*(n-k:Nat):=Int.mul_le_mul_of_nonneg_right ha (by omega)
  have h2:k*b<=k*m:=Int.mul_le_mul_of_nonneg_left hb (by omega)
  have h3:m*(2*(n:Int))=2*(m*(n-k:Nat)+k*m):=by
   have:((n-k:Nat):Int)=n-k:=by omega
   rw [this,Int.mul_sub,Int.mul_comm (k:Int) m,Int.sub_add_cancel,← Int.mul_assoc,Int.mul_comm m 2,Int.mul_assoc]
  rw [Int.add_mul,h3]
  omega
 omega
theorem Vw (a b:Aa):(KB a b).length=Mn a b+1:=by
 unfold KB
 split
 ·rename_i h;rw [h];rfl
 ·simp
def In (m n:Aa) (p:Aa):Prop:=(m.X<=p.X/\p.X<=n.X)/\m.Y<=p.Y/\p.Y<=n.Y
theorem Jeh {a b p m n:Aa} (h:p∈KB a b) (ha:In m n a) (hb:In m n b):In m n p:=by
 rw [Jbp] at h
 rcases h with ⟨h,rfl⟩|⟨h,k,hk,rfl⟩
 ·exact ha
 ·exact ⟨⟨Jbq (by omega) hk ha.1.1 hb.1.1,Jbr (by omega) hk ha.1.2 hb.1.2⟩,Jbq (by omega) hk ha.2.1 hb.2.1,Jbr (by omega) hk ha.2.2 hb.2.2⟩
end Go.AI
end
