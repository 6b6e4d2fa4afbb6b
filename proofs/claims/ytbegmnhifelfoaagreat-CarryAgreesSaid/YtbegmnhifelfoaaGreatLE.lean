/- Part 5 of 6 of the proof: lemmas about the model and the program's functions, with no condition beyond those that each states. -/
import Derived.Test.YtbegmnhifelfoaaGreatLD
import Derived.ChangeArms
import Derived.WalkKit
import Derived.ProofKit
import Derived.OpenShut
import Derived.Carry
import Derived.WideKeyArgs
import Derived.ChangeSame
import Derived.KernelRfl
section
namespace Go.AI
open Go.Proofs
set_option maxRecDepth 10000
variable {n:Nat}
section
variable (p0_:(List Am)) (p1_:Int) (i_9:Int) (open_1:Int) (i_10:Int)
def Jh0:St:=⟨(0,.d (.sl (p0_.map AE)))::(1,.d (.int .i64 p1_))::[],[]⟩
def Jh1:St:=⟨(0,.d (.sl (p0_.map AE)))::(1,.d (.int .i64 i_9))::(5,.d (.int .i64 open_1))::[],[]⟩
def Jh2:St:=⟨(1,.d (.int .i64 i_10))::[],[]⟩
def Uw:(Int⊕Int)->Ex->St->Prop:=xS (xX 0 0 (λ (y:Int)=>Jh2 y)) (xR ty Tryz.f99 (λ (y:Int)=>.d (.int .i64 y)))
def NG:(Int×Int)->St:=(λ (x:(Int×Int))=>Jh1 p0_ x.1 x.2)
variable {p0_ p1_ i_9 open_1 i_10}
theorem Me (x:(Int×Int)) (z:((Int×Int)⊕(Int⊕Int))) (H:GZ n p0_ x.1 x.2=some z):WP (cxk 35 0) (Aw Tryz.f99) [1,1,0,0,0] (Au 0 (NG p0_) (Uw) z) (NG p0_ x):=by
 obtain ⟨i_9,open_1⟩:=x
 refine sq (sr (ck 2 (en (cn H (λ H=>?_) (λ H=>?_)))))
 ·refine sk (qz (bk 1 (sq (sr (ck 5 (sE (g:=(!(decide (i_9<0)))) (λ hg=>Av AE p0_) (gc 1 (!(decide (i_9<0))) (pO (ck 3 (bx H λ x41 h156 H=>sE (λ hg=>Ak AE (Ba h156 hg)) (gc 1 (!((decide (i_9<0))||(decide (i_9>=((p0_.length:Nat):Int))))) (bx H λ r67 h157 H=>cG false (leZ) rfl (λ hg=>Jx (Ba h157 hg)) (Or.inl rfl) (BW (λ hh=>hh) (C9)) rfl (gc 1 (!((decide (i_9<0))||(decide (i_9>=((p0_.length:Nat):Int))))) (pO (en (cn H (λ H=>?_) (λ H=>?_)))))))))))))))))
  ·exact sr (ck 1 (en (re (qr (qR (by cases H;exact ro rfl rd))))))
  ·exact sk (qz (sr (ck 3 (bx H λ x42 h158 H=>sp (Ak AE h158) (ck 1 (bx H λ r68 h159 H=>ca false (Jx h159) (ck 3 (en (rz (ck 3 (ae (qN (by cases H;exact og (sg [0,1,5]))))))))))))))
 ·exact ex 0 (qx (by cases H;exact xo rfl (sg [1])))
theorem R0 {z} (H:Ln n p0_ p1_=some z):Aq Tryz.prog 99 [.d (.sl (p0_.map AE)),.d (.int .i64 p1_)] (.d (.int .i64 z)):=by
 refine fO 35 (Jh0 p0_ p1_) Tryz.func99 (sr (ck 1 (en (sr (ck 1 (en (sq (bk 0 (bx H λ y49 h160 H=>?_)))))))))
 rcases y49 with y50|y51
 ·exact lX Me h160 (sg [0,1,5]) rfl λ s hE35=>qH (qs (hE35) (sr (ck 2 (en (re (by cases H;exact pr rd))))))
 ·exact lR Me h160 (sg [0,1,5]) rfl λ s hE36=>qR (qr (by cases H;exact pr hE36))
end
section
variable (p0_:(List Am)) (p1_:Int) (out_5:(List Int)) (at_1:Int) (k_7:Int) (out_6:(List Int))
def JdV:St:=⟨(0,.d (.sl (p0_.map AE)))::(1,.d (.int .i64 p1_))::[],[]⟩
def JdW:St:=⟨(0,.d (.sl (p0_.map AE)))::(1,.d (.int .i64 p1_))::(5,.osl 0 1 0 (out_5.length))::(6,.d (.int .i64 at_1))::(7,.d (.int .i64 k_7))::[],[some (.arr 1 (out_5.map A6))]⟩
def JdX:St:=⟨(5,.osl 0 1 0 (out_6.length))::[],[some (.arr 1 (out_6.map A6))]⟩
def NH:(List Int)->Ex->St->Prop:=xX 0 0 (λ (y:(List Int))=>JdX y)
def HP:((List Int)×Int×Int)->St:=(λ (x:((List Int)×Int×Int))=>JdW p0_ p1_ x.1 x.2.1 x.2.2)
variable {p0_ p1_ out_5 at_1 k_7 out_6}
theorem MK (x:((List Int)×Int×Int)) (z:(((List Int)×Int×Int)⊕(List Int))) (H:Ch n p0_ p1_ x.1 x.2.1 x.2.2=some z):WP (cxk 28 0) (Aw Tryz.f112) [1,1,0,1,0,0] (Au 0 (HP p0_ p1_) (NH) z) (HP p0_ p1_ x):=by
 obtain ⟨out_5,at_1,k_7⟩:=x
 refine sq (sr (ck 3 (bx H λ x43 h161 H=>sp (Ak AE h161) (ck 1 (bx H λ r69 h162 H=>ca false (Jx h162) (ck 1 (en (cn H (λ H=>?_) (λ H=>?_)))))))))
 ·exact sk (qz (sq (bk 1 (sr (ck 3 (bx H λ l14 h163 H=>sp (A3 A6 0 1 h163) (ck 1 (en (rz (ck 2 (bx H λ r70 h164 H=>ca false (R0 h164) (ck 1 (ae (qN (qz (rz (ck 3 (ae (by cases H;exact og (sg [0,1,5,6,7]))))))))))))))))))))
 ·exact ex 0 (qx (by cases H;exact xo rfl (sg [5])))
theorem JO {z} (H:Dn n p0_ p1_=some z):Aq Tryz.prog 112 [.d (.sl (p0_.map AE)),.d (.int .i64 p1_)] (.own 1 (z.map A6)):=by
 exact fO 28 (JdV p0_ p1_) Tryz.func112 (sr (ck 1 (en (sr (ck 5 (en (sq (sr (ck 1 (en (bk 0 (bx H λ y52 h165 H=>lX MK h165 (sg [0,1,5,6,7]) rfl λ s hE37=>qH (qs (hE37) (sr (ck 2 (en (re (by cases H;exact pr (rO (v:=.osl 0 1 0 (z.length)) [0] (ao vo))))))))))))))))))))
end
section
variable (p0_:Int) (x_13:Bool)
def JdY:St:=⟨(0,.d (.int .i64 p0_))::[],[]⟩
def JdZ:St:=⟨(3,.d (.int .i64 p0_))::(6,.d (.bool x_13))::[],[]⟩
variable {p0_ x_13}
theorem EN {z} (H:CC n p0_=some z):Aq Tryz.prog 113 [.d (.int .i64 p0_)] (.d (.int .i64 z)):=by
 refine fO 11 (JdY p0_) Tryz.func113 (sr (ck 1 (en (sq (sr (ck 1 (en (bk 0 (sr (ck 2 (en (cn H (λ H=>?_) (λ H=>?_)))))))))))))
 ·exact sr (ck 1 (en (re (qR (qr (by cases H;exact pr rd))))))
 ·refine sj (λ (x:Bool)=>JdZ p0_ x) (λ (x:Bool)=>C4 n p0_ x) z ?_ (λ hFR9_Precedence_J1=>?_)
  ·intro x_13 H
   refine cn H (λ H=>?_) (λ H=>?_)
   ·exact sr (ck 1 (en (re (qR (qr (by cases H;exact pr rd))))))
   ·refine sr (ck 2 (en (cn H (λ H=>?_) (λ H=>?_))))
    ·exact sr (ck 1 (en (re (qR (qr (by cases H;exact pr rd))))))
    ·exact sk (qN (qz (sr (ck 1 (en (re (by cases H;exact pr rd)))))))
  refine sr (ck 2 (en (cn H (λ H=>?_) (λ H=>?_))))
  ·exact sk (qs (sg [3,6]) (hFR9_Precedence_J1 (p0_==2) H))
  ·exact rz (ck 2 (ae (qs (sg [3,6]) (hFR9_Precedence_J1 (p0_==3) H))))
end
section
variable (p0_:(List Am)) (p1_:Int) (r71:(List Int)) (x44:Am) (x_14:Bool) (k_8:Int)
def Jd0:St:=⟨(0,.d (.sl (p0_.map AE)))::(1,.d (.int .i64 p1_))::[],[]⟩
def Jd1:St:=⟨[],[]⟩
def Jd2:St:=⟨(0,.d (.sl (p0_.map AE)))::(1,.d (.int .i64 p1_))::(5,.d (.sl (r71.map A6)))::(15,.d (.int .i64 x44.Op))::(16,.d (.bool x_14))::[],[]⟩
def Jd3:St:=⟨(0,.d (.sl (p0_.map AE)))::(5,.d (.sl (r71.map A6)))::(7,.d (.int .i64 k_8))::[],[]⟩
def Jd4:St:=⟨[],[]⟩
def R1:(Unit⊕Bool)->Ex->St->Prop:=xS (xX 0 1 (λ (y:Unit)=>Jd4)) (xR ty Tryz.f100 (λ (y:Bool)=>.d (.bool y)))
def KK:Int->St:=(λ (x:Int)=>Jd3 p0_ r71 x)
variable {p0_ p1_ r71 x44 x_14 k_8}
theorem JP (x:Int) (z:(Int⊕(Unit⊕Bool))) (H:Gx n p0_ r71 x=some z):WP (cxk 66 0) (Aw Tryz.f100) [1,1,0,1,0,1,1,1,0,1,0,0] (Au 0 (KK p0_ r71) (R1) z) (KK p0_ r71 x):=by
 revert H
 generalize x=k_8
 intro H
 refine sq (sr (ck 2 (sp (Av A6 r71) (ck 1 (en (cn H (λ H=>?_) (λ H=>?_)))))))
 ·refine sk (qz (sq (bk 2 (sr (ck 3 (bx H λ x50 h176 H=>sp (Ak A6 h176) (ck 1 (bx H λ x51 h177 H=>sp (Ak AE h177) (ck 3 (en (cn H (λ H=>?_) (λ H=>?_))))))))))))
  ·exact sr (ck 1 (en (re (qR (qr (by cases H;exact ro rfl rd))))))
  ·exact sk (qN (qz (rz (ck 3 (ae (by cases H;exact og (sg [0,5,7])))))))
 ·exact ex 1 (qx (by cases H;exact xo rfl (sg [])))
theorem Ux {z} (H:OF n p0_ p1_=some z):Aq Tryz.prog 100 [.d (.sl (p0_.map AE)),.d (.int .i64 p1_)] (.d (.bool z)):=by
 refine fO 66 (Jd0 p0_ p1_) Tryz.func100 (sr (ck 1 (en (sr (ck 2 (bx H λ r71 h166 H=>ca false (JO h166) (ck 1 (en (sj (λ (x:Unit)=>Jd1) (λ (x:Unit)=>Gw n) z ?_ (λ hFR9_sound_J1=>?_))))))))))
 ·intro _ H
  exact sr (ck 1 (en (re (by cases H;exact pr rd))))
 refine sr (ck 2 (bx H λ x44 h167 H=>sp (Ak AE h167) (ck 2 (en (bk 0 (sj (λ (x:Bool)=>Jd2 p0_ p1_ r71 x44 x) (λ (x:Bool)=>CN n p0_ p1_ r71 x44 x) z ?_ (λ hFR9_sound_J2=>?_)))))))
 ·intro x_14 H
  refine cn H (λ H=>?_) (λ H=>?_)
  ·exact sr (ck 2 (bx H λ x45 h168 H=>sp (Ak AE h168) (ck 2 (bx H λ r72 h169 H=>ca false (EN h169) (ck 1 (en (sr (ck 2 (bx H λ x46 h170 H=>sp (Ak A6 h170) (ck 1 (bx H λ x47 h171 H=>sp (Ak AE h171) (ck 2 (bx H λ r73 h172 H=>ca false (EN h172) (ck 5 (bx H λ x48 h173 H=>sE (λ hg=>Ak A6 (Ba h173 hg)) (gc 1 (decide (r73>=r72)) (bx H λ x49 h174 H=>sE (λ hg=>Ak AE (Ba h174 hg)) (gc 2 (decide (r73>=r72)) (bx H λ r74 h175 H=>cG false (leZ) rfl (λ hg=>EN (Ba h175 hg)) (Or.inl rfl) (BW (λ hh=>hh) (C9)) rfl (ck 1 (gc 1 (decide (r73>=r72)) (pA (ck 1 (en (re (qR (qr (by cases H;exact pr rd))))))))))))))))))))))))))))
  ·refine sr (ck 2 (en (cn H (λ H=>?_) (λ H=>?_))))
   ·refine sr (ck 1 (en (bk 1 (bx H λ y53 h178 H=>?_))))
    rcases y53 with y54|y55
    ·exact lX JP h178 (sg [0,5,7]) rfl λ s hE38=>qH (qN (qs (tr (hE38) (sg [])) (hFR9_sound_J1 () H)))
    ·exact lR JP h178 (sg [0,5,7]) rfl λ s hE39=>qR (qR (qr (by cases H;exact pr hE39)))
   ·exact sk (qN (qs (sg []) (hFR9_sound_J1 () H)))
 refine sr (ck 2 (en (cn H (λ H=>?_) (λ H=>?_))))
 ·exact sk (qs (sg [0,1,5,15,16]) (hFR9_sound_J2 (x44.Op==2) H))
 ·refine sr (ck 2 (en (cn H (λ H=>?_) (λ H=>?_))))
  ·exact sk (qs (sg [0,1,5,15,16]) (hFR9_sound_J2 (x44.Op==3) H))
  ·refine sr (ck 2 (en (cn H (λ H=>?_) (λ H=>?_))))
   ·exact sk (qs (sg [0,1,5,15,16]) (hFR9_sound_J2 (x44.Op==4) H))
   ·exact rz (ck 2 (ae (qs (sg [0,1,5,15,16]) (hFR9_sound_J2 (x44.Op==5) H))))
end
section
variable (p0_:(List Am)) (i_11:Int)
def Jh3:St:=⟨(0,.d (.sl (p0_.map AE)))::[],[]⟩
def Jh4:St:=⟨(0,.d (.sl (p0_.map AE)))::(3,.d (.int .i64 i_11))::[],[]⟩
def Jh5:St:=⟨[],[]⟩
def SW:(Unit⊕Bool)->Ex->St->Prop:=xS (xX 0 0 (λ (y:Unit)=>Jh5)) (xR ty Tryz.f85 (λ (y:Bool)=>.d (.bool y)))
def Mf:Int->St:=(λ (x:Int)=>Jh4 p0_ x)
variable {p0_ i_11}
theorem KL (x:Int) (z:(Int⊕(Unit⊕Bool))) (H:HF n p0_ x=some z):WP (cxk 29 0) (Aw Tryz.f85) [1,1,0,1,0,0] (Au 0 (Mf p0_) (SW) z) (Mf p0_ x):=by
 revert H
 generalize x=i_11
 intro H
 refine sq (sr (ck 2 (sp (Av AE p0_) (ck 1 (en (cn H (λ H=>?_) (λ H=>?_)))))))
 ·refine sk (qz (sq (bk 1 (sr (ck 2 (bx H λ r76 h180 H=>ca false (Ux h180) (ck 1 (en (cn H (λ H=>?_) (λ H=>?_))))))))))
  ·exact sr (ck 1 (en (re (qR (qr (by cases H;exact ro rfl rd))))))
  ·exact sk (qN (qz (rz (ck 3 (ae (by cases H;exact og (sg [0,3])))))))
 ·exact ex 0 (qx (by cases H;exact xo rfl (sg [])))
theorem Wf {z} (H:Nz n p0_=some z):Aq Tryz.prog 85 [.d (.sl (p0_.map AE))] (.d (.bool z)):=by
 refine fO 29 (Jh3 p0_) Tryz.func85 (sr (ck 1 (en (sq (sr (ck 1 (sp (Av AE p0_) (ck 3 (sE (g:=(!(((p0_.length:Nat):Int)==0))) (λ hg=>Av AE p0_) (gc 1 (!(((p0_.length:Nat):Int)==0)) (pO (ck 2 (bx H λ r75 h179 H=>cG false (leZ) rfl (λ hg=>R0 (Ba h179 hg)) (Or.inl rfl) (BW (λ hh=>hh) (C9)) rfl (ck 1 (sE (g:=(!((((p0_.length:Nat):Int)==0)||(decide (((p0_.length:Nat):Int)>200))))) (λ hg=>Av AE p0_) (gc 1 (!((((p0_.length:Nat):Int)==0)||(decide (((p0_.length:Nat):Int)>200)))) (pO (en (cn H (λ H=>?_) (λ H=>?_))))))))))))))))))))
 ·exact sr (ck 1 (en (re (qr (by cases H;exact pr rd)))))
 ·refine sk (qz (sq (sr (ck 1 (en (bk 0 (bx H λ y56 h181 H=>?_)))))))
  rcases y56 with y57|y58
  ·exact lX KL h181 (sg [0,3]) rfl λ s hE40=>qH (qs (hE40) (sr (ck 1 (en (re (by cases H;exact pr rd))))))
  ·exact lR KL h181 (sg [0,3]) rfl λ s hE41=>qR (qr (by cases H;exact pr hE41))
end
section
variable (p0_:(List Am)) (p1_:Int) (r78:(List Int)) (out_7:Int) (k_9:Int) (out_8:Int) (rec101_:((List Am)->Int->Option Int))
def Jd5:St:=⟨(0,.d (.sl (p0_.map AE)))::(1,.d (.int .i64 p1_))::[],[]⟩
def Jd6:St:=⟨(0,.d (.sl (p0_.map AE)))::(5,.d (.int .i64 out_7))::(6,.d (.sl (r78.map A6)))::(7,.d (.int .i64 k_9))::[],[]⟩
def Jd7:St:=⟨(5,.d (.int .i64 out_8))::[],[]⟩
def R2:Int->Ex->St->Prop:=xX 0 0 (λ (y:Int)=>Jd7 y)
def KM:(Int×Int)->St:=(λ (x:(Int×Int))=>Jd6 p0_ r78 x.1 x.2)
variable {p0_ p1_ r78 out_7 k_9 out_8 rec101_}
theorem P7 (hrec101_:∀ {p0_:(List Am)} {p1_:Int} {z:Int},rec101_ p0_ p1_=some z->Aq Tryz.prog 101 [.d (.sl (p0_.map AE)),.d (.int .i64 p1_)] (.d (.int .i64 z))) (x:(Int×Int)) (z:((Int×Int)⊕Int)) (H:CO n rec101_ p0_ r78 x.1 x.2=some z):WP (cxk 27 0) (Aw Tryz.f101) [1,1,0,1,0,0] (Au 0 (KM p0_ r78) (R2) z) (KM p0_ r78 x):=by
 obtain ⟨out_7,k_9⟩:=x
 refine sq (sr (ck 2 (sp (Av A6 r78) (ck 1 (en (cn H (λ H=>?_) (λ H=>?_)))))))
 ·exact sk (qz (sq (bk 1 (rz (ck 4 (bx H λ x52 h184 H=>sp (Ak A6 h184) (ck 1 (bx H λ r79 h185 H=>ca false (hrec101_ h185) (ck 2 (ae (qN (qz (rz (ck 3 (ae (by cases H;exact og (sg [0,5,6,7])))))))))))))))))
 ·exact ex 0 (qx (by cases H;exact xo rfl (sg [5])))
theorem R3 {z} (hrec101_:∀ {p0_:(List Am)} {p1_:Int} {z:Int},rec101_ p0_ p1_=some z->Aq Tryz.prog 101 [.d (.sl (p0_.map AE)),.d (.int .i64 p1_)] (.d (.int .i64 z))) (H:BG n rec101_ p0_ p1_=some z):Aq Tryz.prog 101 [.d (.sl (p0_.map AE)),.d (.int .i64 p1_)] (.d (.int .i64 z)):=by
 exact fO 27 (Jd5 p0_ p1_) Tryz.func101 (sr (ck 1 (en (sr (ck 2 (bx H λ r78 h183 H=>ca false (JO h183) (ck 2 (en (sq (sr (ck 1 (en (bk 0 (bx H λ y59 h186 H=>lX (P7 hrec101_) h186 (sg [0,5,6,7]) rfl λ s hE42=>qH (qs (hE42) (sr (ck 3 (en (re (by cases H;exact pr rd))))))))))))))))))))
end
section
variable (p0_:(List Am)) (p1_:Int)
variable {p0_ p1_}
theorem Uy {z} (H:OG n p0_ p1_=some z):Aq Tryz.prog 101 [.d (.sl (p0_.map AE)),.d (.int .i64 p1_)] (.d (.int .i64 z)):=by
  have key:∀ (d:Nat) {p0_:(List Am)} {p1_:Int} {z:Int},J3 (λ _ _=>none) (BG n) d p0_ p1_=some z->Aq Tryz.prog 101 [.d (.sl (p0_.map AE)),.d (.int .i64 p1_)] (.d (.int .i64 z)):=by
    intro d
    induction d with
    | zero=>intro _ _ _ H;cases H
    | succ d ih=>intro _ _ _ H;exact R3 (λ h=>ih h) H
  exact key n H
end
section
variable (p0_:(List Am))
def Jh6:St:=⟨(0,.d (.sl (p0_.map AE)))::[],[]⟩
variable {p0_}
theorem Uz {z} (H:TB n p0_=some z):Aq Tryz.prog 86 [.d (.sl (p0_.map AE))] (.d (.int .i64 z)):=by
 exact fO 5 (Jh6 p0_) Tryz.func86 (sr (ck 1 (en (sr (ck 1 (bx H λ r80 h187 H=>ca true (Uy h187) (ck 1 (en (re (by cases H;exact pr rd))))))))))
end
section
variable (p0_:(List Am))
def Jh7:St:=⟨(0,.d (.sl (p0_.map AE)))::[],[]⟩
variable {p0_}
theorem NI {z} (H:Fg n p0_=some z):Aq Tryz.prog 66 [.d (.sl (p0_.map AE))] (.d (.bool z)):=by
 exact fO 15 (Jh7 p0_) Tryz.func66 (sr (ck 1 (en (sr (ck 1 (sp (Av AE p0_) (ck 3 (bx H λ r81 h188 H=>cG false (leZ) rfl (λ hg=>Wf (Ba h188 hg)) (Or.inl rfl) (BW (λ hh=>hh) (C9)) rfl (pA (ck 2 (bx H λ r82 h189 H=>cG false (leZ) rfl (λ hg=>Uz (Ba h189 hg)) (Or.inl rfl) (BW (λ hh=>hh) (C9)) rfl (gc 1 ((decide (((p0_.length:Nat):Int)<=60))&&r81) (pA (ck 1 (en (re (by cases H;exact pr rd)))))))))))))))))
end
section
variable (p0_:RH) (out_9:(List Am)) (n_1:Int) (out_10:(List Am)) (i_12:Int) (out_11:(List Am)) (out_12:(List Am)) (k_10:(CB Int))
def Jh8:St:=⟨(0,.agg [.d (.int .u8 p0_.Kind),.d (.int .u8 p0_.N),.d (.sl (p0_.L.map (Bc eU8)))])::[],[]⟩
def Jh9:St:=⟨(1,.ptr 0 0)::(3,.osl 1 2 0 (out_9.length))::(4,.d (.int .i64 n_1))::[],[some (.box (ZM p0_)),some (.arr 2 (out_9.map AE))]⟩
def Jia:St:=⟨(1,.ptr 0 0)::(3,.osl 1 2 0 (out_10.length))::(4,.d (.int .i64 n_1))::(7,.d (.int .i64 i_12))::[],[some (.box (ZM p0_)),some (.arr 2 (out_10.map AE))]⟩
def Jib:St:=⟨(1,.ptr 0 0)::(3,.osl 1 2 0 (out_11.length))::[],[some (.box (ZM p0_)),some (.arr 2 (out_11.map AE))]⟩
def Jic:St:=⟨(1,.ptr 0 0)::(3,.osl 1 2 0 (out_12.length))::(4,.d (.int .i64 n_1))::(7,.d (.int .i64 i_12))::[],[some (.box (ZM p0_)),some (.arr 2 (out_12.map AE))]⟩
def Jid:St:=⟨(1,.ptr 0 0)::(3,.osl 1 2 0 (out_10.length))::(4,.d (.int .i64 n_1))::(7,.d (.int .i64 i_12))::(8,.ptr 2 0)::[],[some (.box (ZM p0_)),some (.arr 2 (out_10.map AE)),some (.box [.d (.int .u8 k_10.a0),.d (.int .u8 k_10.a1)])]⟩
def R4:(List Am)->Ex->St->Prop:=xX 0 1 (λ (y:(List Am))=>Jib p0_ y)
def KN:((List Am)×Int)->St:=(λ (x:((List Am)×Int))=>Jia p0_ n_1 x.1 x.2)
variable {p0_ out_9 n_1 out_10 i_12 out_11 out_12 k_10}
theorem P8 (x:((List Am)×Int)) (z:(((List Am)×Int)⊕(List Am))) (H:Gy n p0_ n_1 x.1 x.2=some z):WP (cxk 102 0) (Aw Tryz.f61) [1,1,1,0,1,0,0] (Au 0 (KN p0_ n_1) (R4 p0_) z) (KN p0_ n_1 x):=by
 obtain ⟨out_10,i_12⟩:=x
 refine sq (sr (ck 3 (en (cn H (λ H=>?_) (λ H=>?_)))))
 ·refine sk (qz (sj (λ (x:(List Am))=>Jic p0_ n_1 i_12 x) (λ (x:(List Am))=>Jm n i_12 x) z ?_ (λ hFR11_Made_J2=>?_)))
  ·intro out_12 H
   exact rz (ck 3 (ae (by cases H;exact og (sg [1,3,4,7]))))
  refine bk 2 (sr (ck 3 (en (sj (λ (x:(CB Int))=>Jid p0_ n_1 out_10 i_12 x) (λ (x:(CB Int))=>En n p0_ out_10 i_12 x) z ?_ (λ hFR11_Made_J3=>?_)))))
  ·intro k_10 H
   refine sr (ck 4 (en (cn H (λ H=>?_) (λ H=>?_))))
   ·exact rz (ck 10 (bx H λ l15 h190 H=>sp (A3 AE 1 2 h190) (ck 1 (ae (qN (qs (sg [1,3,4,7]) (hFR11_Made_J2 l15 H)))))))
   ·exact rz (ck 5 (bx H λ r83 h191 H=>ca false (If h191) (bx H λ l16 h192 H=>sp (XE AE 1 2 h192) (ck 1 (ae (qN (qs (sg [1,3,4,7]) (hFR11_Made_J2 l16 H))))))))
  refine sr (ck 3 (sp (Av (Bc eU8) p0_.L) (ck 1 (en (cn H (λ H=>?_) (λ H=>?_))))))
  ·exact rz (ck 3 (bx H λ x53 h193 H=>sp (Ak (Bc eU8) h193) (ck 2 (ae (qs (sg [1,3,4,7,8]) (hFR11_Made_J3 x53 H))))))
  ·exact sk (qs (sg [1,3,4,7,8]) (hFR11_Made_J3 ({ a0:=0,a1:=0 }:(CB Int)) H))
 ·exact ex 1 (qx (by cases H;exact xo rfl (sg [1,3])))
theorem UA {z} (H:Lp n p0_=some z):Aq Tryz.prog 61 [.agg (ZM p0_)] (.own 2 (z.map AE)):=by
 refine fO 102 (Jh8 p0_) Tryz.func61 (sr (ck 2 (en (sr (ck 4 (en (sj (λ (x:((List Am)×Int))=>Jh9 p0_ x.1 x.2) (λ (x:((List Am)×Int))=>Do n p0_ x.1 x.2) z ?_ (λ hFR11_Made_J1=>?_))))))))
 ·rintro ⟨out_9,n_1⟩ H
  refine sq (sr (ck 1 (en (bk 1 (bx H λ y60 h194 H=>lX P8 h194 (sg [1,3,4,7]) rfl λ s hE43=>qH (qs (hE43) (sr (ck 1 (bx H λ r84 h195 H=>cb (ks:=[1]) (obl:=[(0+List.length y60,List.length (y60.map AE))]) false (leK leM (leZ)) (CJ Ga rfl) (NI h195) (Or.inr trivial) rfl (ck 1 (en (sq (sr (ck 2 (en (cn H (λ H=>?_) (λ H=>?_)))))))))))))))))
  ·exact sr (ck 2 (bx H λ r85 h196 H=>cl [List.length r85] (If h196) (ck 1 (en (re (qr (by cases H;exact pr (rO (v:=.osl 2 2 0 (z.length)) [2] (ao vo)))))))))
  ·exact sk (qz (sr (ck 2 (en (re (by cases H;exact pr (rO (v:=.osl 1 2 0 (z.length)) [1] (ao vo))))))))
 refine sr (ck 3 (en (bk 0 (sr (ck 2 (en (cn H (λ H=>?_) (λ H=>?_))))))))
 ·exact sr (ck 6 (en (rz (ck 5 (ae (qN (qs (sg [1,3,4]) (hFR11_Made_J1 ([({ Op:=12,N:=AU .i64 (Ai .i64 3 (IntKind.i64.wrap (Al p0_.N 4))) 1 }:Am)],(Ai .i64 3 (IntKind.i64.wrap (Al p0_.N 4)))) H))))))))
 ·refine sr (ck 2 (en (cn H (λ H=>?_) (λ H=>?_))))
  ·exact sr (ck 13 (en (sr (ck 4 (en (rz (ck 7 (ae (qN (qs (sg [1,3,4]) (hFR11_Made_J1 ([({ Op:=13,N:=Ai .i64 (BV .i64 8 (Ai .i64 1 (IntKind.i64.wrap (Al p0_.N 4)))) (Ai .i64 1 (IntKind.i64.wrap (Al (Dv .u8 p0_.N 4) 4))) }:Am)],(BV .i64 (Ai .i64 1 (IntKind.i64.wrap (Al p0_.N 4))) (Ai .i64 1 (IntKind.i64.wrap (Al (Dv .u8 p0_.N 4) 4))))) H)))))))))))
  ·refine sr (ck 2 (en (cn H (λ H=>?_) (λ H=>?_))))
   ·exact sr (ck 5 (bx H λ r86 h197 H=>cl [List.length r86] (If h197) (ck 1 (en (re (qR (qr (by cases H;exact pr (rO (v:=.osl 2 2 0 (z.length)) [2] (ao vo))))))))))
   ·exact sk (qN (qs (sg [1,3,4]) (hFR11_Made_J1 ([({ Op:=6,N:=0 }:Am)],2) H)))
end
section
variable (p0_:(Wc Int)) (p1_:Int) (p2_:Int) (out_13:(List Aa)) (out_14:(List Aa))
def Jie:St:=⟨(0,.agg [.d (.int .u8 p0_.a0),.d (.int .u8 p0_.a1),.d (.int .u8 p0_.a2),.d (.int .u8 p0_.a3),.d (.int .u8 p0_.a4),.d (.int .u8 p0_.a5)])::(1,.d (.int .i64 p1_))::(2,.d (.int .i64 p2_))::[],[]⟩
def Jif:St:=⟨(6,.ptr 0 0)::(15,.d (.int .i64 (Ai .i64 1 (IntKind.i64.wrap (Al p0_.a0 3)))))::(17,.osl 1 2 0 (out_13.length))::[],[some (.box [.d (.int .i64 0),.d (.int .i64 0),.osl 2 2 0 (List.length ([]:List Aa))]),some (.arr 2 (out_13.map Ac)),some (.arr 2 (List.map Ac ([]:List Aa)))]⟩
def Jig:St:=⟨(6,.ptr 0 0)::(15,.d (.int .i64 (Ai .i64 1 (IntKind.i64.wrap (Al p0_.a0 3)))))::(16,.d (.int .i64 (IntKind.i64.wrap (Al (Dv .u8 p0_.a0 3) 4))))::(18,.osl 1 2 0 (out_14.length))::[],[some (.box [.d (.int .i64 0),.d (.int .i64 0),.osl 2 2 0 (List.length ([]:List Aa))]),some (.arr 2 (out_14.map Ac)),some (.arr 2 (List.map Ac ([]:List Aa)))]⟩
variable {p0_ p1_ p2_ out_13 out_14}
theorem P9 {z} (H:Gz n p0_ p1_ p2_=some z):Aq Tryz.prog 82 [.agg [.d (.int .u8 p0_.a0),.d (.int .u8 p0_.a1),.d (.int .u8 p0_.a2),.d (.int .u8 p0_.a3),.d (.int .u8 p0_.a4),.d (.int .u8 p0_.a5)],.d (.int .i64 p1_),.d (.int .i64 p2_)] (.agg [.d (.int .i64 z.Kind),.d (.int .i64 z.Texture),.own 2 (z.P.map Ac)]):=by
 refine fO 111 (Jie p0_ p1_ p2_) Tryz.func82 (sr (ck 2 (en (sr (ck 4 (bx H λ gd2 h198 H=>so (DB h198) (ck 4 (bx H λ gd3 h199 H=>so (DB h199) (ck 14 (en (sr (ck 14 (en (sr (ck 10 (en (sr (ck 12 (en (sq (sr (ck 2 (en (cn H (λ H=>?_) (λ H=>?_)))))))))))))))))))))))))
 ·exact sr (ck 5 (en (re (qr (by cases H;exact pr (rO (v:=.agg [.d (.int .i64 (Ai .i64 1 (IntKind.i64.wrap (Al p0_.a0 3)))),.d (.int .i64 0),.osl 4 2 0 (List.length [({ X:=Al (IntKind.i64.wrap p0_.a1) p1_,Y:=Al (IntKind.i64.wrap p0_.a2) p2_ }:Aa)])]) [4] (a1 (c1 vd (c1 vd (c1 vo (c0)))))))))))
 ·refine sk (qz (sq (sr (ck 2 (en (cn H (λ H=>?_) (λ H=>?_)))))))
  ·refine sr (ck 4 (en (sj (λ (x:(List Aa))=>Jif p0_ x) (λ (x:(List Aa))=>DM n p0_ x) z ?_ (λ hFR14_feature_J1=>?_))))
   ·intro out_13 H
    exact sr (ck 4 (en (re (qr (by cases H;exact pr (rO (v:=.agg [.d (.int .i64 (Ai .i64 1 (IntKind.i64.wrap (Al p0_.a0 3)))),.d (.int .i64 0),.osl 1 2 0 (out_13.length)]) [1] (a1 (c1 vd (c1 vd (c1 vo (c0)))))))))))
   refine sr (ck 4 (en (cn H (λ H=>?_) (λ H=>?_))))
   ·exact rz (ck 5 (bx H λ l17 h200 H=>sp (A3 Ac 4 2 h200) (ck 1 (ae (qs (tr (Bz 1 2 2 (by kernel_rfl)) (sg [6,15,17])) (hFR14_feature_J1 l17 H))))))
   ·exact sk (qs (tr (Bz 1 2 2 (by kernel_rfl)) (sg [6,15,17])) (hFR14_feature_J1 [({ X:=Al (IntKind.i64.wrap p0_.a1) p1_,Y:=Al (IntKind.i64.wrap p0_.a2) p2_ }:Aa),({ X:=(if AU .i64 p1_ 1<Ai .i64 (Al (IntKind.i64.wrap p0_.a1) p1_) (Ai .i64 1 (Al (IntKind.i64.wrap p0_.a3) 8)) then AU .i64 p1_ 1 else Ai .i64 (Al (IntKind.i64.wrap p0_.a1) p1_) (Ai .i64 1 (Al (IntKind.i64.wrap p0_.a3) 8))),Y:=(if AU .i64 p2_ 1<Ai .i64 (Al (IntKind.i64.wrap p0_.a2) p2_) (Ai .i64 1 (Al (IntKind.i64.wrap p0_.a4) 8)) then AU .i64 p2_ 1 else Ai .i64 (Al (IntKind.i64.wrap p0_.a2) p2_) (Ai .i64 1 (Al (IntKind.i64.wrap p0_.a4) 8))) }:Aa)] H))
  ·refine sk (qz (sr (ck 7 (en (sj (λ (x:(List Aa))=>Jig p0_ x) (λ (x:(List Aa))=>DN n p0_ x) z ?_ (λ hFR14_feature_J2=>?_))))))
   ·intro out_14 H
    exact sr (ck 5 (en (re (by cases H;exact pr (rO (v:=.agg [.d (.int .i64 (Ai .i64 1 (IntKind.i64.wrap (Al p0_.a0 3)))),.d (.int .i64 (IntKind.i64.wrap (Al (Dv .u8 p0_.a0 3) 4))),.osl 1 2 0 (out_14.length)]) [1] (a1 (c1 vd (c1 vd (c1 vo (c0))))))))))
   refine sr (ck 4 (en (cn H (λ H=>?_) (λ H=>?_))))
   ·exact rz (ck 5 (bx H λ l18 h201 H=>sp (A3 Ac 4 2 h201) (ck 1 (ae (qs (tr (Bz 1 2 2 (by kernel_rfl)) (sg [6,15,16,18])) (hFR14_feature_J2 l18 H))))))
   ·exact sk (qs (tr (Bz 1 2 2 (by kernel_rfl)) (sg [6,15,16,18])) (hFR14_feature_J2 [({ X:=Al (IntKind.i64.wrap p0_.a1) p1_,Y:=Al (IntKind.i64.wrap p0_.a2) p2_ }:Aa),({ X:=(if AU .i64 p1_ 1<Ai .i64 (Al (IntKind.i64.wrap p0_.a1) p1_) (Ai .i64 1 (Al (IntKind.i64.wrap p0_.a3) 8)) then AU .i64 p1_ 1 else Ai .i64 (Al (IntKind.i64.wrap p0_.a1) p1_) (Ai .i64 1 (Al (IntKind.i64.wrap p0_.a3) 8))),Y:=Al (IntKind.i64.wrap p0_.a2) p2_ }:Aa),({ X:=(if AU .i64 p1_ 1<Ai .i64 (Al (IntKind.i64.wrap p0_.a1) p1_) (Ai .i64 1 (Al (IntKind.i64.wrap p0_.a3) 8)) then AU .i64 p1_ 1 else Ai .i64 (Al (IntKind.i64.wrap p0_.a1) p1_) (Ai .i64 1 (Al (IntKind.i64.wrap p0_.a3) 8))),Y:=(if AU .i64 p2_ 1<Ai .i64 (Al (IntKind.i64.wrap p0_.a2) p2_) (Ai .i64 1 (Al (IntKind.i64.wrap p0_.a4) 8)) then AU .i64 p2_ 1 else Ai .i64 (Al (IntKind.i64.wrap p0_.a2) p2_) (Ai .i64 1 (Al (IntKind.i64.wrap p0_.a4) 8))) }:Aa)] H))
end
section
variable (p0_:Br) (p_1:Af) (i_13:Int) (p_2:Af) (p_3:Af)
def Jih:St:=⟨(0,.agg [.d (.int .u8 p0_.W),.d (.int .u8 p0_.H),.d (.int .u8 p0_.Gap),.d (.sl (p0_.F.map (JH eU8)))])::[],[]⟩
def Jii:St:=⟨(1,.ptr 0 0)::(2,.ptr 1 0)::(3,.ptr 2 0)::(4,.d (.int .i64 i_13))::[],[some (.box (JI p0_)),some (.box [.d (.int .i64 0),.d (.int .i64 0),.d (.int .i64 0),.osl 3 3 0 (List.length ([]:List Ax))]),some (.box (MG p_1 (.osl 4 3 0 (p_1.F.length)))),some (.arr 3 (List.map As ([]:List Ax))),some (.arr 3 (p_1.F.map As))]⟩
def Jij:St:=⟨(2,.ptr 0 0)::(3,.ptr 1 0)::[],[some (.box [.d (.int .i64 0),.d (.int .i64 0),.d (.int .i64 0),.osl 2 3 0 (List.length ([]:List Ax))]),some (.box (MG p_2 (.osl 3 3 0 (p_2.F.length)))),some (.arr 3 (List.map As ([]:List Ax))),some (.arr 3 (p_2.F.map As))]⟩
def R5:Af->Ex->St->Prop:=xX 0 0 (λ (y:Af)=>Jij y)
def KO:(Af×Int)->St:=(λ (x:(Af×Int))=>Jii p0_ x.1 x.2)
def Jik:St:=⟨(2,.ptr 0 0)::(3,.ptr 1 0)::[],[some (.box [.d (.int .i64 0),.d (.int .i64 0),.d (.int .i64 0),.osl 2 3 0 (List.length ([]:List Ax))]),some (.box (MG p_3 (.osl 3 3 0 (p_3.F.length)))),some (.arr 3 (List.map As ([]:List Ax))),some (.arr 3 (p_3.F.map As))]⟩
variable {p0_ p_1 i_13 p_2 p_3}
theorem Qa (x:(Af×Int)) (z:((Af×Int)⊕Af)) (H:GA n p0_ x.1 x.2=some z):WP (cxk 59 0) (Aw Tryz.f62) [1,1,0,1,0,0] (Au 0 (KO p0_) (R5) z) (KO p0_ x):=by
 obtain ⟨p_1,i_13⟩:=x
 refine sq (sr (ck 3 (sp (Av (JH eU8) p0_.F) (ck 3 (gc 1 (decide (i_13<((p0_.F.length:Nat):Int))) (pA (en (cn H (λ H=>?_) (λ H=>?_)))))))))
 ·exact sk (qz (sq (bk 1 (rz (ck 5 (bx H λ x54 h202 H=>sp (Ak (JH eU8) h202) (ck 5 (bx H λ r87 h203 H=>ca false (P9 h203) (ck 1 (bx H λ l19 h204 H=>sp (A3 As 4 3 h204) (ck 2 (ae (qN (qz (rz (ck 3 (ae (by cases H;exact og (sg [1,2,3,4])))))))))))))))))))
 ·exact ex 0 (qx (by cases H;exact xo rfl (sg [2,3])))
theorem UB {z} (H:Lq n p0_=some z):Aq Tryz.prog 62 [.agg (JI p0_)] (.agg [.d (.int .i64 z.W),.d (.int .i64 z.H),.d (.int .i64 z.Gap),.own 3 (z.F.map As)]):=by
 refine fO 59 (Jih p0_) Tryz.func62 (sr (ck 2 (en (sr (ck 20 (en (sq (sr (ck 1 (en (bk 0 (bx H λ y61 h205 H=>lX Qa h205 (tr (tr (Bz 1 3 3 (by kernel_rfl)) (Bz 2 3 3 (by kernel_rfl))) (sg [1,2,3,4])) rfl λ s hE44=>qH (qs (hE44) (sj (λ (x:Af)=>Jik x) (λ (x:Af)=>Jn n x) z ?_ (λ hFR14_Made_J1=>?_)))))))))))))))
 ·intro p_3 H
  exact sr (ck 2 (en (re (by cases H;exact pr (rO (v:=.agg [.d (.int .i64 z.W),.d (.int .i64 z.H),.d (.int .i64 z.Gap),.osl 3 3 0 (z.F.length)]) [3] (a1 (c1 vd (c1 vd (c1 vd (c1 vo (c0)))))))))))
 refine sr (ck 4 (en (cn H (λ H=>?_) (λ H=>?_))))
 ·exact rz (ck 1 (sF (ck 4 (ae (qs (sg [2,3]) (hFR14_Made_J1 ({ W:=y61.W,H:=y61.H,Gap:=y61.Gap,F:=[({ Kind:=1,Texture:=0,P:=[({ X:=1,Y:=1 }:Aa)] }:Ax)] }:Af) H))))))
 ·exact sk (qs (sg [2,3]) (hFR14_Made_J1 y61 H))
end
section
variable (p0_:Ax) (i_14:Int)
def Jd8:St:=⟨(0,.agg [.d (.int .i64 p0_.Kind),.d (.int .i64 p0_.Texture),.d (.sl (p0_.P.map Ac))])::[],[]⟩
def Jd9:St:=⟨(1,.ptr 0 0)::(3,.d (.int .i64 ((p0_.P.length:Nat):Int)))::(4,.d (.int .i64 i_14))::[],[some (.box (DF p0_))]⟩
def Jea:St:=⟨(1,.ptr 0 0)::(3,.d (.int .i64 ((p0_.P.length:Nat):Int)))::[],[some (.box (DF p0_))]⟩
def Qb:(Unit⊕Bool)->Ex->St->Prop:=xS (xX 0 0 (λ (y:Unit)=>Jea p0_)) (xR ty Tryz.f103 (λ (y:Bool)=>.d (.bool y)))
def JQ:Int->St:=(λ (x:Int)=>Jd9 p0_ x)
variable {p0_ i_14}
theorem IG (x:Int) (z:(Int⊕(Unit⊕Bool))) (H:Ft n p0_ x=some z):WP (cxk 73 0) (Aw Tryz.f103) [1,1,0,1,0,0] (Au 0 (JQ p0_) (Qb p0_) z) (JQ p0_ x):=by
 revert H
 generalize x=i_14
 intro H
 refine sq (sr (ck 3 (en (cn H (λ H=>?_) (λ H=>?_)))))
 ·refine sk (qz (sq (bk 1 (sr (ck 3 (bx H λ x55 h206 H=>sp (Ak Ac h206) (ck 3 (en (sr (ck 5 (gc 2 (!(decide (x55.X<0))) (pO (ck 2 (gc 2 (!((decide (x55.X<0))||(decide (x55.Y<0)))) (pO (ck 2 (gc 2 (!(((decide (x55.X<0))||(decide (x55.Y<0)))||(decide (x55.X>=60)))) (pO (en (cn H (λ H=>?_) (λ H=>?_)))))))))))))))))))))
  ·exact sr (ck 1 (en (re (qR (qr (by cases H;exact ro rfl rd))))))
  ·exact sk (qN (qz (rz (ck 3 (ae (by cases H;exact og (sg [1,3,4])))))))
 ·exact ex 0 (qx (by cases H;exact xo rfl (sg [1,3])))
theorem SX {z} (H:MB n p0_=some z):Aq Tryz.prog 103 [.agg (DF p0_)] (.d (.bool z)):=by
 refine fO 73 (Jd8 p0_) Tryz.func103 (sr (ck 2 (en (sr (ck 2 (sp (Av Ac p0_.P) (ck 1 (en (sq (sr (ck 1 (en (bk 0 (bx H λ y62 h207 H=>?_))))))))))))))
 rcases y62 with y63|y64
 ·refine lX IG h207 (sg [1,3,4]) rfl λ s hE45=>qH (qs (hE45) (sq (sr (ck 2 (en (cn H (λ H=>?_) (λ H=>?_)))))))
  ·exact sr (ck 1 (en (re (qr (by cases H;exact pr rd)))))
  ·refine sk (qz (sq (sr (ck 2 (en (bk 2 (sr (ck 2 (en (cn H (λ H=>?_) (λ H=>?_)))))))))))
   ·exact sr (ck 4 (gc 2 (((p0_.P.length:Nat):Int)==1) (pA (ck 1 (en (re (qR (qr (by cases H;exact pr rd)))))))))
   ·refine sr (ck 2 (en (cn H (λ H=>?_) (λ H=>?_))))
    ·exact sr (ck 4 (gc 2 (decide (((p0_.P.length:Nat):Int)>=2)) (pA (ck 1 (en (re (qR (qr (by cases H;exact pr rd)))))))))
    ·refine sr (ck 2 (en (cn H (λ H=>?_) (λ H=>?_))))
     ·exact sr (ck 4 (gc 2 (decide (((p0_.P.length:Nat):Int)>=3)) (pA (ck 2 (gc 2 ((decide (((p0_.P.length:Nat):Int)>=3))&&(decide (p0_.Texture>=0))) (pA (ck 1 (en (re (qR (qr (by cases H;exact pr rd))))))))))))
     ·exact sk (qN (qz (sr (ck 1 (en (re (by cases H;exact pr rd)))))))
 ·exact lR IG h207 (sg [1,3,4]) rfl λ s hE46=>qR (qr (by cases H;exact pr hE46))
end
section
variable (p0_:(List Aa)) (p1_:Int)
def Jeb:St:=⟨(0,.d (.sl (p0_.map Ac)))::(1,.d (.int .i64 p1_))::[],[]⟩
variable {p0_ p1_}
theorem NJ {z} (H:Iz n p0_ p1_=some z):Aq Tryz.prog 121 [.d (.sl (p0_.map Ac)),.d (.int .i64 p1_)] (.tup [.agg [.d (.int .i64 z.1.X),.d (.int .i64 z.1.Y)],.agg [.d (.int .i64 z.2.X),.d (.int .i64 z.2.Y)]]):=by
 exact fO 18 (Jeb p0_ p1_) Tryz.func121 (sr (ck 2 (en (sr (ck 2 (bx H λ x56 h208 H=>sp (Ak Ac h208) (ck 5 (sp (Av Ac p0_) (bx H λ gd4 h209 H=>so (DB h209) (bx H λ x57 h210 H=>sp (Ak Ac h210) (ck 3 (en (re (by cases H;exact pr rdT))))))))))))))
end
section
variable (p0_:Int)
def Jec:St:=⟨(0,.d (.int .i64 p0_))::[],[]⟩
variable {p0_}
theorem PV {z} (H:IA n p0_=some z):Aq Tryz.prog 125 [.d (.int .i64 p0_)] (.d (.int .i64 z)):=by
 exact fO 7 (Jec p0_) Tryz.func125 (sr (ck 1 (en (sr (ck 5 (en (re (by cases H;exact pr rd))))))))
end
section
variable (p0_:Aa) (p1_:Aa)
def Jed:St:=⟨(0,.agg [.d (.int .i64 p0_.X),.d (.int .i64 p0_.Y)])::(1,.agg [.d (.int .i64 p1_.X),.d (.int .i64 p1_.Y)])::[],[]⟩
variable {p0_ p1_}
theorem PW {z} (H:G0 n p0_ p1_=some z):Aq Tryz.prog 118 [.agg [.d (.int .i64 p0_.X),.d (.int .i64 p0_.Y)],.agg [.d (.int .i64 p1_.X),.d (.int .i64 p1_.Y)]] (.d (.int .i64 z)):=by
 exact fO 18 (Jed p0_ p1_) Tryz.func118 (sr (ck 3 (en (sr (ck 5 (bx H λ r88 h211 H=>ca false (PV h211) (ck 5 (bx H λ r89 h212 H=>ca false (PV h212) (ck 2 (en (re (by cases H;exact pr rd))))))))))))
end
section
variable (p0_:Int) (p1_:Int) (q_1:Int)
def Jee:St:=⟨(0,.d (.int .i64 p0_))::(1,.d (.int .i64 p1_))::[],[]⟩
def Jef:St:=⟨(5,.d (.int .i64 q_1))::[],[]⟩
variable {p0_ p1_ q_1}
theorem Mg {z} (H:G1 n p0_ p1_=some z):Aq Tryz.prog 126 [.d (.int .i64 p0_),.d (.int .i64 p1_)] (.d (.int .i64 z)):=by
 refine fO 16 (Jee p0_ p1_) Tryz.func126 (sr (ck 1 (en (sr (ck 2 (bx H λ gd5 h213 H=>so (DB h213) (ck 1 (en (sj (λ (x:Int)=>Jef x) (λ (x:Int)=>Fu n x) z ?_ (λ hFR12_floor_J1=>?_))))))))))
 ·intro q_1 H
  exact sr (ck 2 (en (re (by cases H;exact pr rd))))
 refine sr (ck 2 (bx H λ gd6 h214 H=>so (DB h214) (ck 1 (en (cn H (λ H=>?_) (λ H=>?_))))))
 ·exact rz (ck 3 (ae (qs (sg [5]) (hFR12_floor_J1 (AU .i64 (Dv .i64 p0_ p1_) 1) H))))
 ·exact sk (qs (sg [5]) (hFR12_floor_J1 (Dv .i64 p0_ p1_) H))
end
section
variable (p0_:Aa) (p1_:Aa) (r90:Int) (out_15:(List Aa)) (k_11:Int) (out_16:(List Aa))
def Jeg:St:=⟨(0,.agg [.d (.int .i64 p0_.X),.d (.int .i64 p0_.Y)])::(1,.agg [.d (.int .i64 p1_.X),.d (.int .i64 p1_.Y)])::[],[]⟩
def Jeh:St:=⟨(2,.ptr 0 0)::(3,.ptr 1 0)::(5,.d (.int .i64 r90))::(6,.osl 2 2 0 (out_15.length))::(7,.d (.int .i64 k_11))::[],[some (.box [.d (.int .i64 p0_.X),.d (.int .i64 p0_.Y)]),some (.box [.d (.int .i64 p1_.X),.d (.int .i64 p1_.Y)]),some (.arr 2 (out_15.map Ac))]⟩
def Jei:St:=⟨(6,.osl 0 2 0 (out_16.length))::[],[some (.arr 2 (out_16.map Ac))]⟩
def R6:(List Aa)->Ex->St->Prop:=xX 0 0 (λ (y:(List Aa))=>Jei y)
def KP:((List Aa)×Int)->St:=(λ (x:((List Aa)×Int))=>Jeh p0_ p1_ r90 x.1 x.2)
variable {p0_ p1_ r90 out_15 k_11 out_16}
theorem Qc (x:((List Aa)×Int)) (z:(((List Aa)×Int)⊕(List Aa))) (H:GB n p0_ p1_ r90 x.1 x.2=some z):WP (cxk 66 0) (Aw Tryz.f122) [1,1,1,0,1,0,0] (Au 0 (KP p0_ p1_ r90) (R6) z) (KP p0_ p1_ r90 x):=by
 obtain ⟨out_15,k_11⟩:=x
 refine sq (sr (ck 3 (en (cn H (λ H=>?_) (λ H=>?_)))))
 ·exact sk (qz (sq (bk 1 (sr (ck 17 (bx H λ r91 h216 H=>ca false (Mg h216) (ck 1 (en (sr (ck 17 (bx H λ r92 h217 H=>ca false (Mg h217) (ck 1 (en (rz (ck 5 (bx H λ l20 h218 H=>sp (A3 Ac 2 2 h218) (ck 1 (ae (qN (qz (rz (ck 3 (ae (by cases H;exact og (sg [2,3,5,6,7])))))))))))))))))))))))))
 ·exact ex 0 (qx (by cases H;exact xo rfl (sg [6])))
theorem UC {z} (H:OH n p0_ p1_=some z):Aq Tryz.prog 122 [.agg [.d (.int .i64 p0_.X),.d (.int .i64 p0_.Y)],.agg [.d (.int .i64 p1_.X),.d (.int .i64 p1_.Y)]] (.own 2 (z.map Ac)):=by
 refine fO 66 (Jeg p0_ p1_) Tryz.func122 (sr (ck 3 (en (sr (ck 2 (bx H λ r90 h215 H=>ca false (PW h215) (ck 3 (en (sq (sr (ck 2 (en (cn H (λ H=>?_) (λ H=>?_))))))))))))))
 ·exact sr (ck 3 (en (re (qr (by cases H;exact pr (rO (v:=.osl 3 2 0 (List.length [p0_])) [3] (ao vo)))))))
 ·exact sk (qz (sq (sr (ck 1 (en (bk 0 (bx H λ y65 h219 H=>lX Qc h219 (sg [2,3,5,6,7]) rfl λ s hE47=>qH (qs (hE47) (sr (ck 2 (en (re (by cases H;exact pr (rO (v:=.osl 0 2 0 (z.length)) [0] (ao vo)))))))))))))))
end
section
variable (p0_:(List Aa)) (p1_:Int) (out_17:(List Aa)) (i_15:Int) (out_18:(List Aa))
def Jej:St:=⟨(0,.d (.sl (p0_.map Ac)))::(1,.d (.int .i64 p1_))::[],[]⟩
def Jek:St:=⟨(0,.d (.sl (p0_.map Ac)))::(1,.d (.int .i64 p1_))::(5,.osl 0 2 0 (out_17.length))::(6,.d (.int .i64 i_15))::[],[some (.arr 2 (out_17.map Ac))]⟩
def Jel:St:=⟨(5,.osl 0 2 0 (out_18.length))::[],[some (.arr 2 (out_18.map Ac))]⟩
def Qd:(List Aa)->Ex->St->Prop:=xX 0 0 (λ (y:(List Aa))=>Jel y)
def JR:((List Aa)×Int)->St:=(λ (x:((List Aa)×Int))=>Jek p0_ p1_ x.1 x.2)
variable {p0_ p1_ out_17 i_15 out_18}
theorem OU (x:((List Aa)×Int)) (z:(((List Aa)×Int)⊕(List Aa))) (H:Fv n p0_ p1_ x.1 x.2=some z):WP (cxk 27 0) (Aw Tryz.f115) [1,1,0,1,0,0] (Au 0 (JR p0_ p1_) (Qd) z) (JR p0_ p1_ x):=by
 obtain ⟨out_17,i_15⟩:=x
 refine sq (sr (ck 3 (en (cn H (λ H=>?_) (λ H=>?_)))))
 ·exact sk (qz (sq (bk 1 (sr (ck 2 (bx H λ r93 h220 H=>ca false (NJ h220) (ck 7 (en (rz (ck 3 (bx H λ r94 h221 H=>ca false (UC h221) (bx H λ l21 h222 H=>sp (XE Ac 0 2 h222) (ck 1 (ae (qN (qz (rz (ck 3 (ae (by cases H;exact og (sg [0,1,5,6])))))))))))))))))))))
 ·exact ex 0 (qx (by cases H;exact xo rfl (sg [5])))
theorem Mh {z} (H:Jo n p0_ p1_=some z):Aq Tryz.prog 115 [.d (.sl (p0_.map Ac)),.d (.int .i64 p1_)] (.own 2 (z.map Ac)):=by
 exact fO 27 (Jej p0_ p1_) Tryz.func115 (sr (ck 1 (en (sr (ck 2 (en (sq (sr (ck 1 (en (bk 0 (bx H λ y66 h223 H=>lX OU h223 (sg [0,1,5,6]) rfl λ s hE48=>qH (qs (hE48) (sr (ck 2 (en (re (by cases H;exact pr (rO (v:=.osl 0 2 0 (z.length)) [0] (ao vo))))))))))))))))))))
end
section
variable (p0_:(List Aa)) (there_1:(List (List Bool))) (i_16:Int) (there_2:(List (List Bool))) (there_3:(List (List Bool))) (y67:(List (List Bool))) (out_19:(List Aa)) (y_1:Int) (out_20:(List Aa)) (out_21:(List Aa)) (x_15:Int) (out_22:(List Aa)) (out_23:(List Aa))
def Jem:St:=⟨(0,.d (.sl (p0_.map Ac)))::[],[]⟩
def Jen:St:=⟨(0,.d (.sl (p0_.map Ac)))::(3,.eptr 0 60 0 0)::(4,.d (.int .i64 i_16))::[],[some (.arr 60 (List.map (List.map D.bool) there_1))]⟩
def Jeo:St:=⟨(3,.eptr 0 60 0 0)::[],[some (.arr 60 (List.map (List.map D.bool) there_2))]⟩
def Jep:St:=⟨(0,.d (.sl (p0_.map Ac)))::(3,.eptr 0 60 0 0)::(4,.d (.int .i64 i_16))::[],[some (.arr 60 (List.map (List.map D.bool) there_3))]⟩
def OW:(List (List Bool))->Ex->St->Prop:=xX 0 0 (λ (y:(List (List Bool)))=>Jeo y)
def IH:((List (List Bool))×Int)->St:=(λ (x:((List (List Bool))×Int))=>Jen p0_ x.1 x.2)
def Jeq:St:=⟨(3,.eptr 0 60 0 0)::(6,.osl 1 2 0 (out_19.length))::(7,.d (.int .i64 y_1))::[],[some (.arr 60 (List.map (List.map D.bool) y67)),some (.arr 2 (out_19.map Ac))]⟩
def Jer:St:=⟨(6,.osl 0 2 0 (out_20.length))::[],[some (.arr 2 (out_20.map Ac))]⟩
def Jes:St:=⟨(3,.eptr 0 60 0 0)::(6,.osl 1 2 0 (out_21.length))::(7,.d (.int .i64 y_1))::(8,.d (.int .i64 x_15))::[],[some (.arr 60 (List.map (List.map D.bool) y67)),some (.arr 2 (out_21.map Ac))]⟩
def Jet:St:=⟨(3,.eptr 0 60 0 0)::(6,.osl 1 2 0 (out_22.length))::(7,.d (.int .i64 y_1))::[],[some (.arr 60 (List.map (List.map D.bool) y67)),some (.arr 2 (out_22.map Ac))]⟩
def Jeu:St:=⟨(3,.eptr 0 60 0 0)::(6,.osl 1 2 0 (out_23.length))::(7,.d (.int .i64 y_1))::(8,.d (.int .i64 x_15))::[],[some (.arr 60 (List.map (List.map D.bool) y67)),some (.arr 2 (out_23.map Ac))]⟩
def OX:(List Aa)->Ex->St->Prop:=xX 0 4 (λ (y:(List Aa))=>Jet y67 y_1 y)
def II:((List Aa)×Int)->St:=(λ (x:((List Aa)×Int))=>Jes y67 y_1 x.1 x.2)
def OY:(List Aa)->Ex->St->Prop:=xX 0 2 (λ (y:(List Aa))=>Jer y)
def IJ:((List Aa)×Int)->St:=(λ (x:((List Aa)×Int))=>Jeq y67 x.1 x.2)
variable {p0_ there_1 i_16 there_2 there_3 y67 out_19 y_1 out_20 out_21 x_15 out_22 out_23}
theorem NK (x:((List (List Bool))×Int)) (z:(((List (List Bool))×Int)⊕(List (List Bool)))) (H:Ep n p0_ x.1 x.2=some z):WP (cxk 65 0) (Aw Tryz.f114) [1,1,0,1,0,0] (Au 0 (IH p0_) (OW) z) (IH p0_ x):=by
 obtain ⟨there_1,i_16⟩:=x
 refine sq (sr (ck 2 (sp (Av Ac p0_) (ck 1 (en (cn H (λ H=>?_) (λ H=>?_)))))))
 ·refine sk (qz (sj (λ (x:(List (List Bool)))=>Jep p0_ i_16 x) (λ (x:(List (List Bool)))=>Eo n i_16 x) z ?_ (λ hFR13_sorted_J1=>?_)))
  ·intro there_3 H
   exact rz (ck 3 (ae (by cases H;exact og (sg [0,3,4]))))
  refine bk 1 (sr (ck 2 (bx H λ x58 h224 H=>sp (Ak Ac h224) (ck 3 (en (sr (ck 5 (gc 2 (decide (x58.X>=0)) (pA (ck 2 (gc 2 ((decide (x58.X>=0))&&(decide (x58.Y>=0))) (pA (ck 2 (gc 2 (((decide (x58.X>=0))&&(decide (x58.Y>=0)))&&(decide (x58.X<60))) (pA (en (cn H (λ H=>?_) (λ H=>?_))))))))))))))))))
  ·exact rz (ck 4 (bx H λ gd7 h225 H=>sp (Ys 0 60 0 60 (j:=0) h225) (bx H λ gd8 h226 H=>sp (Yv 0 60 60 1 (0+Int.toNat x58.Y) 0 h226) (bx H λ l22 h227 H=>JlN D.bool 0 60 (ty 4) h227 (of_decide_eq_true (Ll h226)).2 (ae (qN (qs (sg [0,3,4]) (hFR13_sorted_J1 l22 H))))))))
  ·exact sk (qN (qs (sg [0,3,4]) (hFR13_sorted_J1 there_1 H)))
 ·exact ex 0 (qx (by cases H;exact xo rfl (sg [3])))
theorem NL (x:((List Aa)×Int)) (z:(((List Aa)×Int)⊕(List Aa))) (H:Es n y67 y_1 x.1 x.2=some z):WP (cxk 65 0) (Aw Tryz.f114) [1,1,1,1,0,1,0,0,1,0,0,1,0,0] (Au 0 (II y67 y_1) (OX y67 y_1) z) (II y67 y_1 x):=by
 obtain ⟨out_21,x_15⟩:=x
 refine sq (sr (ck 2 (en (cn H (λ H=>?_) (λ H=>?_)))))
 ·refine sk (qz (sj (λ (x:(List Aa))=>Jeu y67 y_1 x_15 x) (λ (x:(List Aa))=>Er n x_15 x) z ?_ (λ hFR13_sorted_J2=>?_)))
  ·intro out_23 H
   exact rz (ck 3 (ae (by cases H;exact og (sg [3,6,7,8]))))
  refine bk 5 (sr (ck 2 (bx H λ gd9 h229 H=>sp (Ys 0 60 0 60 (j:=0) h229) (bx H λ gd10 h230 H=>sp (Yv 0 60 60 1 (0+Int.toNat y_1) 0 h230) (bx H λ x59 h231 H=>sp (JgJ D.bool 0 60 (ty 4) h231) (en (cn H (λ H=>?_) (λ H=>?_))))))))
  ·exact rz (ck 5 (bx H λ l23 h232 H=>sp (A3 Ac 1 2 h232) (ck 1 (ae (qN (qs (sg [3,6,7,8]) (hFR13_sorted_J2 l23 H)))))))
  ·exact sk (qN (qs (sg [3,6,7,8]) (hFR13_sorted_J2 out_21 H)))
 ·exact ex 4 (qx (by cases H;exact xo rfl (sg [3,6,7])))
theorem NM (x:((List Aa)×Int)) (z:(((List Aa)×Int)⊕(List Aa))) (H:Et n y67 x.1 x.2=some z):WP (cxk 65 0) (Aw Tryz.f114) [1,1,1,1,0,1,0,0] (Au 0 (IJ y67) (OY) z) (IJ y67 x):=by
 obtain ⟨out_19,y_1⟩:=x
 refine sq (sr (ck 2 (en (cn H (λ H=>?_) (λ H=>?_)))))
 ·exact sk (qz (sq (bk 3 (sr (ck 1 (en (bk 4 (bx H λ y68 h233 H=>lX NL h233 (sg [3,6,7,8]) rfl λ s hE50=>qH (qN (qs (hE50) (rz (ck 3 (ae (by cases H;exact og (sg [3,6,7])))))))))))))))
 ·exact ex 2 (qx (by cases H;exact xo rfl (sg [6])))
theorem KQ {z} (H:HG n p0_=some z):Aq Tryz.prog 114 [.d (.sl (p0_.map Ac))] (.own 2 (z.map Ac)):=by
 exact fO 65 (Jem p0_) Tryz.func114 (sr (ck 1 (en (sr (ck 2 (sp (Jbv (D.bool false) 3600 0 (ty 186)) (en (sq (sq (rg (tr (JdK D.bool false 3600 60 60 0 (by kernel_rfl) (by kernel_rfl)) (Jkx 3 0 60 (by kernel_rfl))) (ck 1 (en (bk 0 (bx H λ y67 h228 H=>lX NK h228 (sg [0,3,4]) rfl λ s hE49=>qH (qs (hE49) (sr (ck 2 (en (sq (sr (ck 1 (en (bk 2 (bx H λ y69 h234 H=>lX NM h234 (sg [3,6,7]) rfl λ s hE51=>qH (qs (hE51) (sr (ck 2 (en (re (by cases H;exact pr (rO (v:=.osl 0 2 0 (z.length)) [0] (ao vo))))))))))))))))))))))))))))))))
end
section
variable (p0_:Int) (p1_:Aa)
def Jev:St:=⟨(0,.d (.int .i64 p0_))::(1,.agg [.d (.int .i64 p1_.X),.d (.int .i64 p1_.Y)])::[],[]⟩
variable {p0_ p1_}
theorem Qe {z} (H:GC n p0_ p1_=some z):Aq Tryz.prog 116 [.d (.int .i64 p0_),.agg [.d (.int .i64 p1_.X),.d (.int .i64 p1_.Y)]] (.d (.bool z)):=by
 exact fO 30 (Jev p0_ p1_) Tryz.func116 (sr (ck 2 (en (sr (ck 4 (gc 2 (!(p0_==3)) (ck 1 (gc 3 ((!(p0_==3))&&(p0_==2)) (pG (g:=(!(p0_==3))) (v:=.d (.bool ((p0_==2)&&((Al p1_.Y 2)==0)))) (λ hg=>CX (c:=.gv (!(p0_==3)) (.d (.bool (p0_==2)))) (a:=.gv ((!(p0_==3))&&(p0_==2)) (.d (.bool ((Al p1_.Y 2)==0)))) (b:=.d (.bool false)) rfl rfl rfl ((λ hh=>hh) hg) (λ ht=>by rw [(λ hh=>hh) hg,ht];rfl) trivial) (pO (ck 2 (gc 2 (!((p0_==3)||((p0_==2)&&((Al p1_.Y 2)==0)))) (ck 1 (gc 1 ((!((p0_==3)||((p0_==2)&&((Al p1_.Y 2)==0))))&&(p0_==1)) (ck 1 (gc 4 ((!((p0_==3)||((p0_==2)&&((Al p1_.Y 2)==0))))&&(p0_==1)) (pG (g:=(!((p0_==3)||((p0_==2)&&((Al p1_.Y 2)==0))))) (v:=.d (.bool ((p0_==1)&&((Al (Ai .i64 p1_.X p1_.Y) 2)==0)))) (λ hg=>CX (c:=.gv (!((p0_==3)||((p0_==2)&&((Al p1_.Y 2)==0)))) (.d (.bool (p0_==1)))) (a:=.gv ((!((p0_==3)||((p0_==2)&&((Al p1_.Y 2)==0))))&&(p0_==1)) (.d (.bool ((Al (Ai .i64 p1_.X p1_.Y) 2)==0)))) (b:=.d (.bool false)) rfl rfl rfl ((λ hh=>hh) hg) (λ ht=>by rw [(λ hh=>hh) hg,ht];rfl) trivial) (pO (ck 1 (en (re (by cases H;exact pr rd))))))))))))))))))))))
end
section
variable (p0_:Aa) (p1_:Aa) (p2_:Aa)
def Jew:St:=⟨(0,.agg [.d (.int .i64 p0_.X),.d (.int .i64 p0_.Y)])::(1,.agg [.d (.int .i64 p1_.X),.d (.int .i64 p1_.Y)])::(2,.agg [.d (.int .i64 p2_.X),.d (.int .i64 p2_.Y)])::[],[]⟩
variable {p0_ p1_ p2_}
theorem UD {z} (H:OI n p0_ p1_ p2_=some z):Aq Tryz.prog 127 [.agg [.d (.int .i64 p0_.X),.d (.int .i64 p0_.Y)],.agg [.d (.int .i64 p1_.X),.d (.int .i64 p1_.Y)],.agg [.d (.int .i64 p2_.X),.d (.int .i64 p2_.Y)]] (.d (.int .i64 z)):=by
 exact fO 30 (Jew p0_ p1_ p2_) Tryz.func127 (sr (ck 4 (en (sr (ck 24 (en (re (by cases H;exact pr rd))))))))
end
section
variable (p0_:Aa) (p1_:Aa) (p2_:Aa)
def Jex:St:=⟨(0,.agg [.d (.int .i64 p0_.X),.d (.int .i64 p0_.Y)])::(1,.agg [.d (.int .i64 p1_.X),.d (.int .i64 p1_.Y)])::(2,.agg [.d (.int .i64 p2_.X),.d (.int .i64 p2_.Y)])::[],[]⟩
variable {p0_ p1_ p2_}
theorem XL {z} (H:QE n p0_ p1_ p2_=some z):Aq Tryz.prog 123 [.agg [.d (.int .i64 p0_.X),.d (.int .i64 p0_.Y)],.agg [.d (.int .i64 p1_.X),.d (.int .i64 p1_.Y)],.agg [.d (.int .i64 p2_.X),.d (.int .i64 p2_.Y)]] (.d (.bool z)):=by
 exact fO 52 (Jex p0_ p1_ p2_) Tryz.func123 (sr (ck 4 (en (sr (ck 3 (bx H λ r95 h235 H=>ca false (UD h235) (ck 3 (gc 1 (r95==0) (ck 1 (gc 1 (r95==0) (ck 1 (gc 3 (r95==0) (pA (ck 2 (gc 1 ((r95==0)&&(decide (p2_.X>=(if p1_.X<p0_.X then p1_.X else p0_.X)))) (ck 1 (gc 1 ((r95==0)&&(decide (p2_.X>=(if p1_.X<p0_.X then p1_.X else p0_.X)))) (ck 1 (gc 3 ((r95==0)&&(decide (p2_.X>=(if p1_.X<p0_.X then p1_.X else p0_.X)))) (pA (ck 2 (gc 1 (((r95==0)&&(decide (p2_.X>=(if p1_.X<p0_.X then p1_.X else p0_.X))))&&(decide (p2_.X<=(if p1_.X>p0_.X then p1_.X else p0_.X)))) (ck 1 (gc 1 (((r95==0)&&(decide (p2_.X>=(if p1_.X<p0_.X then p1_.X else p0_.X))))&&(decide (p2_.X<=(if p1_.X>p0_.X then p1_.X else p0_.X)))) (ck 1 (gc 3 (((r95==0)&&(decide (p2_.X>=(if p1_.X<p0_.X then p1_.X else p0_.X))))&&(decide (p2_.X<=(if p1_.X>p0_.X then p1_.X else p0_.X)))) (pA (ck 2 (gc 1 ((((r95==0)&&(decide (p2_.X>=(if p1_.X<p0_.X then p1_.X else p0_.X))))&&(decide (p2_.X<=(if p1_.X>p0_.X then p1_.X else p0_.X))))&&(decide (p2_.Y>=(if p1_.Y<p0_.Y then p1_.Y else p0_.Y)))) (ck 1 (gc 1 ((((r95==0)&&(decide (p2_.X>=(if p1_.X<p0_.X then p1_.X else p0_.X))))&&(decide (p2_.X<=(if p1_.X>p0_.X then p1_.X else p0_.X))))&&(decide (p2_.Y>=(if p1_.Y<p0_.Y then p1_.Y else p0_.Y)))) (ck 1 (gc 3 ((((r95==0)&&(decide (p2_.X>=(if p1_.X<p0_.X then p1_.X else p0_.X))))&&(decide (p2_.X<=(if p1_.X>p0_.X then p1_.X else p0_.X))))&&(decide (p2_.Y>=(if p1_.Y<p0_.Y then p1_.Y else p0_.Y)))) (pA (ck 1 (en (re (by cases H;exact pr rd))))))))))))))))))))))))))))))))))))))
end
section
variable (p0_:Aa) (p1_:Aa) (p2_:Aa)
def Jey:St:=⟨(0,.agg [.d (.int .i64 p0_.X),.d (.int .i64 p0_.Y)])::(1,.agg [.d (.int .i64 p1_.X),.d (.int .i64 p1_.Y)])::(2,.agg [.d (.int .i64 p2_.X),.d (.int .i64 p2_.Y)])::[],[]⟩
variable {p0_ p1_ p2_}
theorem R7 {z} (H:HH n p0_ p1_ p2_=some z):Aq Tryz.prog 124 [.agg [.d (.int .i64 p0_.X),.d (.int .i64 p0_.Y)],.agg [.d (.int .i64 p1_.X),.d (.int .i64 p1_.Y)],.agg [.d (.int .i64 p2_.X),.d (.int .i64 p2_.Y)]] (.d (.bool z)):=by
 refine fO 53 (Jey p0_ p1_ p2_) Tryz.func124 (sr (ck 4 (en (sq (sr (ck 11 (en (cn H (λ H=>?_) (λ H=>?_)))))))))
 ·exact sr (ck 1 (en (re (qr (by cases H;exact pr rd)))))
 ·refine sk (qz (sr (ck 12 (en (sr (ck 12 (en (sq (sr (ck 5 (en (cn H (λ H=>?_) (λ H=>?_)))))))))))))
  ·exact sr (ck 4 (en (re (qr (by cases H;exact pr rd)))))
  ·exact sk (qz (sr (ck 4 (en (re (by cases H;exact pr rd))))))
end
section
variable (p0_:(List Aa)) (p1_:Aa) (odd_1:Bool) (i_17:Int) (odd_2:Bool) (odd_3:Bool)
def Jez:St:=⟨(0,.d (.sl (p0_.map Ac)))::(1,.agg [.d (.int .i64 p1_.X),.d (.int .i64 p1_.Y)])::[],[]⟩
def JeA:St:=⟨(0,.d (.sl (p0_.map Ac)))::(3,.ptr 0 0)::(5,.d (.bool odd_1))::(6,.d (.int .i64 i_17))::[],[some (.box [.d (.int .i64 p1_.X),.d (.int .i64 p1_.Y)])]⟩
def JeB:St:=⟨(5,.d (.bool odd_2))::[],[]⟩
def JeC:St:=⟨(0,.d (.sl (p0_.map Ac)))::(3,.ptr 0 0)::(5,.d (.bool odd_3))::(6,.d (.int .i64 i_17))::[],[some (.box [.d (.int .i64 p1_.X),.d (.int .i64 p1_.Y)])]⟩
def OZ:(Bool⊕Bool)->Ex->St->Prop:=xS (xX 0 0 (λ (y:Bool)=>JeB y)) (xR ty Tryz.f117 (λ (y:Bool)=>.d (.bool y)))
def IK:(Bool×Int)->St:=(λ (x:(Bool×Int))=>JeA p0_ p1_ x.1 x.2)
variable {p0_ p1_ odd_1 i_17 odd_2 odd_3}
theorem HQ (x:(Bool×Int)) (z:((Bool×Int)⊕(Bool⊕Bool))) (H:Ew n p0_ p1_ x.1 x.2=some z):WP (cxk 32 0) (Aw Tryz.f117) [1,1,0,1,0,0] (Au 0 (IK p0_ p1_) (OZ) z) (IK p0_ p1_ x):=by
 obtain ⟨odd_1,i_17⟩:=x
 refine sq (sr (ck 2 (sp (Av Ac p0_) (ck 1 (en (cn H (λ H=>?_) (λ H=>?_)))))))
 ·refine sk (qz (sj (λ (x:Bool)=>JeC p0_ p1_ i_17 x) (λ (x:Bool)=>Eu n i_17 x) z ?_ (λ hFR13_Inside_J1=>?_)))
  ·intro odd_3 H
   exact rz (ck 3 (ae (by cases H;exact og (sg [0,3,5,6]))))
  refine bk 1 (sr (ck 2 (bx H λ r96 h236 H=>ca false (NJ h236) (ck 7 (en (sq (sr (ck 3 (bx H λ r97 h237 H=>ca false (XL h237) (en (cn H (λ H=>?_) (λ H=>?_))))))))))))
  ·exact sr (ck 1 (en (re (qr (qR (qr (by cases H;exact ro rfl rd)))))))
  ·refine sk (qz (sr (ck 3 (bx H λ r98 h238 H=>ca false (R7 h238) (en (cn H (λ H=>?_) (λ H=>?_)))))))
   ·exact rz (ck 3 (ae (qN (qs (sg [0,3,5,6]) (hFR13_Inside_J1 (!odd_1) H)))))
   ·exact sk (qN (qs (sg [0,3,5,6]) (hFR13_Inside_J1 odd_1 H)))
 ·exact ex 0 (qx (by cases H;exact xo rfl (sg [5])))
theorem R8 {z} (H:Kw n p0_ p1_=some z):Aq Tryz.prog 117 [.d (.sl (p0_.map Ac)),.agg [.d (.int .i64 p1_.X),.d (.int .i64 p1_.Y)]] (.d (.bool z)):=by
 refine fO 32 (Jez p0_ p1_) Tryz.func117 (sr (ck 2 (en (sr (ck 1 (en (sq (sr (ck 1 (en (bk 0 (bx H λ y70 h239 H=>?_))))))))))))
 rcases y70 with y71|y72
 ·exact lX HQ h239 (sg [0,3,5,6]) rfl λ s hE52=>qH (qs (hE52) (sr (ck 2 (en (re (by cases H;exact pr rd))))))
 ·exact lR HQ h239 (sg [0,3,5,6]) rfl λ s hE53=>qR (qr (by cases H;exact pr hE53))
end
section
variable (p0_:Ax) (out_24:(List Aa)) (y_2:Int) (out_25:(List Aa)) (out_26:(List Aa)) (x_16:Int) (out_27:(List Aa)) (out_28:(List Aa))
def JeD:St:=⟨(0,.agg [.d (.int .i64 p0_.Kind),.d (.int .i64 p0_.Texture),.d (.sl (p0_.P.map Ac))])::[],[]⟩
def JeE:St:=⟨(1,.ptr 0 0)::(3,.osl 1 2 0 (out_24.length))::(4,.d (.int .i64 y_2))::[],[some (.box (DF p0_)),some (.arr 2 (out_24.map Ac))]⟩
def JeF:St:=⟨(3,.osl 0 2 0 (out_25.length))::[],[some (.arr 2 (out_25.map Ac))]⟩
def JeG:St:=⟨(1,.ptr 0 0)::(3,.osl 1 2 0 (out_26.length))::(4,.d (.int .i64 y_2))::(5,.d (.int .i64 x_16))::[],[some (.box (DF p0_)),some (.arr 2 (out_26.map Ac))]⟩
def JeH:St:=⟨(1,.ptr 0 0)::(3,.osl 1 2 0 (out_27.length))::(4,.d (.int .i64 y_2))::[],[some (.box (DF p0_)),some (.arr 2 (out_27.map Ac))]⟩
def JeI:St:=⟨(1,.ptr 0 0)::(3,.osl 1 2 0 (out_28.length))::(4,.d (.int .i64 y_2))::(5,.d (.int .i64 x_16))::[],[some (.box (DF p0_)),some (.arr 2 (out_28.map Ac))]⟩
def O2:(List Aa)->Ex->St->Prop:=xX 0 3 (λ (y:(List Aa))=>JeH p0_ y_2 y)
def IL:((List Aa)×Int)->St:=(λ (x:((List Aa)×Int))=>JeG p0_ y_2 x.1 x.2)
def O3:(List Aa)->Ex->St->Prop:=xX 0 1 (λ (y:(List Aa))=>JeF y)
def IM:((List Aa)×Int)->St:=(λ (x:((List Aa)×Int))=>JeE p0_ x.1 x.2)
variable {p0_ out_24 y_2 out_25 out_26 x_16 out_27 out_28}
theorem NN (x:((List Aa)×Int)) (z:(((List Aa)×Int)⊕(List Aa))) (H:Ez n p0_ y_2 x.1 x.2=some z):WP (cxk 56 0) (Aw Tryz.f105) [1,1,1,0,1,0,0,1,0,0,1,0,0] (Au 0 (IL p0_ y_2) (O2 p0_ y_2) z) (IL p0_ y_2 x):=by
 obtain ⟨out_26,x_16⟩:=x
 refine sq (sr (ck 2 (en (cn H (λ H=>?_) (λ H=>?_)))))
 ·refine sk (qz (sj (λ (x:(List Aa))=>JeI p0_ y_2 x_16 x) (λ (x:(List Aa))=>Ey n x_16 x) z ?_ (λ hFR13_Points_J1=>?_)))
  ·intro out_28 H
   exact rz (ck 3 (ae (by cases H;exact og (sg [1,3,4,5]))))
  refine bk 4 (sr (ck 5 (en (sr (ck 3 (bx H λ r102 h243 H=>ca false (Qe h243) (ck 2 (gc 1 r102 (ck 1 (bx H λ r103 h244 H=>cG false (leZ) rfl (λ hg=>R8 (Ba h244 hg)) (Or.inl rfl) (BW (λ hh=>hh) (BW (λ hh=>hh) (C9))) rfl (pA (en (cn H (λ H=>?_) (λ H=>?_))))))))))))))
  ·exact rz (ck 3 (bx H λ l24 h245 H=>sp (A3 Ac 1 2 h245) (ck 1 (ae (qN (qs (sg [1,3,4,5]) (hFR13_Points_J1 l24 H)))))))
  ·exact sk (qN (qs (sg [1,3,4,5]) (hFR13_Points_J1 out_26 H)))
 ·exact ex 3 (qx (by cases H;exact xo rfl (sg [1,3,4])))
theorem NO (x:((List Aa)×Int)) (z:(((List Aa)×Int)⊕(List Aa))) (H:EA n p0_ x.1 x.2=some z):WP (cxk 56 0) (Aw Tryz.f105) [1,1,1,0,1,0,0] (Au 0 (IM p0_) (O3) z) (IM p0_ x):=by
 obtain ⟨out_24,y_2⟩:=x
 refine sq (sr (ck 2 (en (cn H (λ H=>?_) (λ H=>?_)))))
 ·exact sk (qz (sq (bk 2 (sr (ck 1 (en (bk 3 (bx H λ y73 h246 H=>lX NN h246 (sg [1,3,4,5]) rfl λ s hE54=>qH (qN (qs (hE54) (rz (ck 3 (ae (by cases H;exact og (sg [1,3,4])))))))))))))))
 ·exact ex 1 (qx (by cases H;exact xo rfl (sg [3])))
theorem KR {z} (H:Dd n p0_=some z):Aq Tryz.prog 105 [.agg (DF p0_)] (.d (.sl (z.map Ac))):=by
 refine fO 56 (JeD p0_) Tryz.func105 (sr (ck 2 (en (sq (sr (ck 2 (en (bk 0 (sr (ck 2 (en (cn H (λ H=>?_) (λ H=>?_)))))))))))))
 ·exact sr (ck 3 (en (re (qR (qr (by cases H;exact pr rd))))))
 ·refine sr (ck 2 (en (cn H (λ H=>?_) (λ H=>?_))))
  ·exact sr (ck 4 (sp (Av Ac p0_.P) (ck 1 (bx H λ r99 h240 H=>ca false (Mh h240) (bx H λ r100 h241 H=>cl [List.length r100] (KQ h241) (ck 1 (ae (qs (fz (enc:=Ac) (xs:=r100) 2 1 2) (re (qR (qr (by cases H;exact pr rd))))))))))))
  ·exact sk (qN (qz (sr (ck 4 (sp (Av Ac p0_.P) (bx H λ r101 h242 H=>cl [List.length r101] (Mh h242) (ck 1 (en (sq (sr (ck 1 (en (bk 1 (bx H λ y74 h247 H=>lX NO h247 (sg [1,3,4]) rfl λ s hE55=>qH (qs (hE55) (sr (ck 1 (bx H λ r104 h248 H=>cb (ks:=[0]) (obl:=[(0+List.length y74,List.length (y74.map Ac))]) (ls:=[List.length r104]) true (leK leM (leZ)) (CJ Ga rfl) (KQ h248) (Or.inr (ZA λ _=>rfl)) (JlI rfl) (ck 1 (ae (qs (fz (enc:=Ac) (xs:=r104) 2 1 2) (re (by cases H;exact pr rd)))))))))))))))))))))))
end
section
variable (p0_:(List Aa)) (p1_:Int) (p2_:Int) (i_18:Int)
def JeJ:St:=⟨(0,.d (.sl (p0_.map Ac)))::(1,.d (.int .i64 p1_))::(2,.d (.int .i64 p2_))::[],[]⟩
def JeK:St:=⟨(0,.d (.sl (p0_.map Ac)))::(1,.d (.int .i64 p1_))::(2,.d (.int .i64 p2_))::(7,.d (.int .i64 i_18))::[],[]⟩
def JeL:St:=⟨[],[]⟩
def O4:(Unit⊕Bool)->Ex->St->Prop:=xS (xX 0 0 (λ (y:Unit)=>JeL)) (xR ty Tryz.f104 (λ (y:Bool)=>.d (.bool y)))
def IN:Int->St:=(λ (x:Int)=>JeK p0_ p1_ p2_ x)
variable {p0_ p1_ p2_ i_18}
theorem HR (x:Int) (z:(Int⊕(Unit⊕Bool))) (H:EB n p0_ p1_ p2_ x=some z):WP (cxk 46 0) (Aw Tryz.f104) [1,0,1,0,0] (Au 0 (IN p0_ p1_ p2_) (O4) z) (IN p0_ p1_ p2_ x):=by
 revert H
 generalize x=i_18
 intro H
 refine sq (sr (ck 2 (sp (Av Ac p0_) (ck 1 (en (cn H (λ H=>?_) (λ H=>?_)))))))
 ·refine sk (qz (sq (bk 1 (sr (ck 2 (bx H λ x60 h249 H=>sp (Ak Ac h249) (ck 6 (bx H λ x61 h250 H=>sE (λ hg=>Ak Ac (Ba h250 hg)) (gc 2 (!(decide (x60.X<0))) (ck 1 (gc 1 (!(decide (x60.X<0))) (pO (ck 3 (bx H λ x62 h251 H=>sE (λ hg=>Ak Ac (Ba h251 hg)) (gc 3 (!((decide (x60.X<0))||(decide (x61.X>=p1_)))) (pO (ck 3 (bx H λ x63 h252 H=>sE (λ hg=>Ak Ac (Ba h252 hg)) (gc 2 (!(((decide (x60.X<0))||(decide (x61.X>=p1_)))||(decide (x62.Y<0)))) (ck 1 (gc 1 (!(((decide (x60.X<0))||(decide (x61.X>=p1_)))||(decide (x62.Y<0)))) (pO (en (cn H (λ H=>?_) (λ H=>?_)))))))))))))))))))))))))
  ·exact sr (ck 1 (en (re (qR (qr (by cases H;exact ro rfl rd))))))
  ·exact sk (qN (qz (rz (ck 3 (ae (by cases H;exact og (sg [0,1,2,7])))))))
 ·exact ex 0 (qx (by cases H;exact xo rfl (sg [])))
theorem R9 {z} (H:Kx n p0_ p1_ p2_=some z):Aq Tryz.prog 104 [.d (.sl (p0_.map Ac)),.d (.int .i64 p1_),.d (.int .i64 p2_)] (.d (.bool z)):=by
 refine fO 46 (JeJ p0_ p1_ p2_) Tryz.func104 (sr (ck 1 (en (sq (sr (ck 1 (en (bk 0 (bx H λ y75 h253 H=>?_)))))))))
 rcases y75 with y76|y77
 ·exact lX HR h253 (sg [0,1,2,7]) rfl λ s hE56=>qH (qs (hE56) (sr (ck 1 (en (re (by cases H;exact pr rd))))))
 ·exact lR HR h253 (sg [0,1,2,7]) rfl λ s hE57=>qR (qr (by cases H;exact pr hE57))
end
section
variable (p0_:Af) (i_19:Int)
def Jil:St:=⟨(0,.agg [.d (.int .i64 p0_.W),.d (.int .i64 p0_.H),.d (.int .i64 p0_.Gap),.d (.sl (p0_.F.map As))])::[],[]⟩
def Jim:St:=⟨(1,.ptr 0 0)::(3,.d (.int .i64 i_19))::[],[some (.box (AH p0_))]⟩
def Jin:St:=⟨[],[]⟩
def Qf:(Unit⊕Bool)->Ex->St->Prop:=xS (xX 0 0 (λ (y:Unit)=>Jin)) (xR ty Tryz.f93 (λ (y:Bool)=>.d (.bool y)))
def JS:Int->St:=(λ (x:Int)=>Jim p0_ x)
variable {p0_ i_19}
theorem IP (x:Int) (z:(Int⊕(Unit⊕Bool))) (H:Fw n p0_ x=some z):WP (cxk 86 0) (Aw Tryz.f93) [1,1,0,1,0,0] (Au 0 (JS p0_) (Qf) z) (JS p0_ x):=by
 revert H
 generalize x=i_19
 intro H
 refine sq (sr (ck 3 (sp (Av As p0_.F) (ck 1 (en (cn H (λ H=>?_) (λ H=>?_)))))))
 ·refine sk (qz (sq (bk 1 (sr (ck 3 (bx H λ x64 h254 H=>sp (Ak As h254) (ck 1 (bx H λ r105 h255 H=>ca false (SX h255) (ck 1 (en (sr (ck 4 (gc 1 (!(!r105)) (ck 1 (bx H λ x65 h256 H=>sE (λ hg=>Ak As (Ba h256 hg)) (gc 1 (!(!r105)) (bx H λ r106 h257 H=>cG false (leZ) rfl (λ hg=>KR (Ba h257 hg)) (Or.inl rfl) (BW (λ hh=>hh) (C9)) rfl (ck 1 (gc 1 (!(!r105)) (ck 1 (gc 1 (!(!r105)) (bx H λ r107 h258 H=>cG false (leZ) rfl (λ hg=>R9 (Ba h258 hg)) (Or.inl rfl) (BW (λ hh=>hh) (BW (λ hh=>hh) (BW (λ hh=>hh) (C9)))) rfl (gc 1 (!(!r105)) (pO (en (cn H (λ H=>?_) (λ H=>?_)))))))))))))))))))))))))))
  ·exact sr (ck 1 (en (re (qR (qr (by cases H;exact ro rfl rd))))))
  ·exact sk (qN (qz (rz (ck 3 (ae (by cases H;exact og (sg [1,3])))))))
 ·exact ex 0 (qx (by cases H;exact xo rfl (sg [])))
theorem Mi {z} (H:Fh n p0_=some z):Aq Tryz.prog 93 [.agg (AH p0_)] (.d (.bool z)):=by
 refine fO 86 (Jil p0_) Tryz.func93 (sr (ck 2 (en (sq (sr (ck 5 (gc 2 (!(decide (p0_.W<4))) (pO (ck 2 (gc 3 (!((decide (p0_.W<4))||(decide (p0_.W>60)))) (pO (ck 2 (gc 2 (!(((decide (p0_.W<4))||(decide (p0_.W>60)))||((Al p0_.W 2) != 0))) (pO (ck 2 (gc 2 (!((((decide (p0_.W<4))||(decide (p0_.W>60)))||((Al p0_.W 2) != 0))||(decide (p0_.H<3)))) (pO (ck 2 (gc 3 (!(((((decide (p0_.W<4))||(decide (p0_.W>60)))||((Al p0_.W 2) != 0))||(decide (p0_.H<3)))||(decide (p0_.H>60)))) (pO (ck 2 (gc 2 (!((((((decide (p0_.W<4))||(decide (p0_.W>60)))||((Al p0_.W 2) != 0))||(decide (p0_.H<3)))||(decide (p0_.H>60)))||((Al p0_.H 3) != 0))) (pO (ck 2 (gc 2 (!(((((((decide (p0_.W<4))||(decide (p0_.W>60)))||((Al p0_.W 2) != 0))||(decide (p0_.H<3)))||(decide (p0_.H>60)))||((Al p0_.H 3) != 0))||(decide (p0_.Gap<2)))) (pO (ck 2 (gc 1 (!((((((((decide (p0_.W<4))||(decide (p0_.W>60)))||((Al p0_.W 2) != 0))||(decide (p0_.H<3)))||(decide (p0_.H>60)))||((Al p0_.H 3) != 0))||(decide (p0_.Gap<2)))||(decide (p0_.Gap>6)))) (sE (g:=(!((((((((decide (p0_.W<4))||(decide (p0_.W>60)))||((Al p0_.W 2) != 0))||(decide (p0_.H<3)))||(decide (p0_.H>60)))||((Al p0_.H 3) != 0))||(decide (p0_.Gap<2)))||(decide (p0_.Gap>6))))) (λ hg=>Av As p0_.F) (gc 1 (!((((((((decide (p0_.W<4))||(decide (p0_.W>60)))||((Al p0_.W 2) != 0))||(decide (p0_.H<3)))||(decide (p0_.H>60)))||((Al p0_.H 3) != 0))||(decide (p0_.Gap<2)))||(decide (p0_.Gap>6)))) (pO (ck 2 (gc 1 (!(((((((((decide (p0_.W<4))||(decide (p0_.W>60)))||((Al p0_.W 2) != 0))||(decide (p0_.H<3)))||(decide (p0_.H>60)))||((Al p0_.H 3) != 0))||(decide (p0_.Gap<2)))||(decide (p0_.Gap>6)))||(decide (((p0_.F.length:Nat):Int)<1)))) (sE (g:=(!(((((((((decide (p0_.W<4))||(decide (p0_.W>60)))||((Al p0_.W 2) != 0))||(decide (p0_.H<3)))||(decide (p0_.H>60)))||((Al p0_.H 3) != 0))||(decide (p0_.Gap<2)))||(decide (p0_.Gap>6)))||(decide (((p0_.F.length:Nat):Int)<1))))) (λ hg=>Av As p0_.F) (gc 1 (!(((((((((decide (p0_.W<4))||(decide (p0_.W>60)))||((Al p0_.W 2) != 0))||(decide (p0_.H<3)))||(decide (p0_.H>60)))||((Al p0_.H 3) != 0))||(decide (p0_.Gap<2)))||(decide (p0_.Gap>6)))||(decide (((p0_.F.length:Nat):Int)<1)))) (pO (en (cn H (λ H=>?_) (λ H=>?_)))))))))))))))))))))))))))))))))))))))
 ·exact sr (ck 1 (en (re (qr (by cases H;exact pr rd)))))
 ·refine sk (qz (sq (sr (ck 1 (en (bk 0 (bx H λ y78 h259 H=>?_)))))))
  rcases y78 with y79|y80
  ·exact lX IP h259 (sg [1,3]) rfl λ s hE58=>qH (qs (hE58) (sr (ck 1 (en (re (by cases H;exact pr rd))))))
  ·exact lR IP h259 (sg [1,3]) rfl λ s hE59=>qR (qr (by cases H;exact pr hE59))
end
section
variable (p0_:Af) (out_29:(List (List Aa))) (i_20:Int) (out_30:(List (List Aa)))
def Jio:St:=⟨(0,.agg [.d (.int .i64 p0_.W),.d (.int .i64 p0_.H),.d (.int .i64 p0_.Gap),.d (.sl (p0_.F.map As))])::[],[]⟩
def Jip:St:=⟨(1,.ptr 0 0)::(3,.osl 1 1 0 (out_29.length))::(4,.d (.int .i64 i_20))::[],[some (.box (AH p0_)),some (.arr 1 (out_29.map (eL Ac)))]⟩
def Jiq:St:=⟨(3,.osl 0 1 0 (out_30.length))::[],[some (.arr 1 (out_30.map (eL Ac)))]⟩
def O5:(List (List Aa))->Ex->St->Prop:=xX 0 0 (λ (y:(List (List Aa)))=>Jiq y)
def IQ:((List (List Aa))×Int)->St:=(λ (x:((List (List Aa))×Int))=>Jip p0_ x.1 x.2)
variable {p0_ out_29 i_20 out_30}
theorem NP (x:((List (List Aa))×Int)) (z:(((List (List Aa))×Int)⊕(List (List Aa)))) (H:EC n p0_ x.1 x.2=some z):WP (cxk 23 0) (Aw Tryz.f94) [1,1,0,1,0,0] (Au 0 (IQ p0_) (O5) z) (IQ p0_ x):=by
 obtain ⟨out_29,i_20⟩:=x
 refine sq (sr (ck 3 (sp (Av As p0_.F) (ck 1 (en (cn H (λ H=>?_) (λ H=>?_)))))))
 ·exact sk (qz (sq (bk 1 (rz (ck 4 (bx H λ x66 h260 H=>sp (Ak As h260) (ck 1 (bx H λ r108 h261 H=>ca false (KR h261) (ck 1 (bx H λ l25 h262 H=>sp (A3 (eL Ac) 1 1 h262) (ck 1 (ae (qN (qz (rz (ck 3 (ae (by cases H;exact og (sg [1,3,4])))))))))))))))))))
 ·exact ex 0 (qx (by cases H;exact xo rfl (sg [3])))
theorem G9 {z} (H:FO n p0_=some z):Aq Tryz.prog 94 [.agg (AH p0_)] (.own 1 (z.map (eL Ac))):=by
 exact fO 23 (Jio p0_) Tryz.func94 (sr (ck 2 (en (sr (ck 2 (en (sq (sr (ck 1 (en (bk 0 (bx H λ y81 h263 H=>lX NP h263 (sg [1,3,4]) rfl λ s hE60=>qH (qs (hE60) (sr (ck 2 (en (re (by cases H;exact pr (rO (v:=.osl 0 1 0 (z.length)) [0] (ao vo))))))))))))))))))))
end
section
variable (p0_:(List Aa)) (p1_:(List Aa)) (out_31:Int) (i_21:Int) (out_32:Int) (out_33:Int) (k_12:Int) (out_34:Int) (out_35:Int)
def JeM:St:=⟨(0,.d (.sl (p0_.map Ac)))::(1,.d (.sl (p1_.map Ac)))::[],[]⟩
def JeN:St:=⟨(0,.d (.sl (p0_.map Ac)))::(1,.d (.sl (p1_.map Ac)))::(5,.d (.int .i64 out_31))::(6,.d (.int .i64 i_21))::[],[]⟩
def JeO:St:=⟨(5,.d (.int .i64 out_32))::[],[]⟩
def JeP:St:=⟨(0,.d (.sl (p0_.map Ac)))::(1,.d (.sl (p1_.map Ac)))::(5,.d (.int .i64 out_33))::(6,.d (.int .i64 i_21))::(7,.d (.int .i64 k_12))::[],[]⟩
def JeQ:St:=⟨(0,.d (.sl (p0_.map Ac)))::(1,.d (.sl (p1_.map Ac)))::(5,.d (.int .i64 out_34))::(6,.d (.int .i64 i_21))::[],[]⟩
def JeR:St:=⟨(0,.d (.sl (p0_.map Ac)))::(1,.d (.sl (p1_.map Ac)))::(5,.d (.int .i64 out_35))::(6,.d (.int .i64 i_21))::(7,.d (.int .i64 k_12))::[],[]⟩
def ML:Int->Ex->St->Prop:=xX 0 2 (λ (y:Int)=>JeQ p0_ p1_ i_21 y)
def Ha:(Int×Int)->St:=(λ (x:(Int×Int))=>JeP p0_ p1_ i_21 x.1 x.2)
def MM:Int->Ex->St->Prop:=xX 0 0 (λ (y:Int)=>JeO y)
def Hb:(Int×Int)->St:=(λ (x:(Int×Int))=>JeN p0_ p1_ x.1 x.2)
variable {p0_ p1_ out_31 i_21 out_32 out_33 k_12 out_34 out_35}
theorem LG (x:(Int×Int)) (z:((Int×Int)⊕Int)) (H:B7 n p0_ p1_ i_21 x.1 x.2=some z):WP (cxk 39 0) (Aw Tryz.f106) [1,1,0,1,0,0,1,0,0,1,0,0] (Au 0 (Ha p0_ p1_ i_21) (ML p0_ p1_ i_21) z) (Ha p0_ p1_ i_21 x):=by
 obtain ⟨out_33,k_12⟩:=x
 refine sq (sr (ck 2 (sp (Av Ac p1_) (ck 1 (en (cn H (λ H=>?_) (λ H=>?_)))))))
 ·refine sk (qz (sj (λ (x:Int)=>JeR p0_ p1_ i_21 k_12 x) (λ (x:Int)=>CD n k_12 x) z ?_ (λ hFR12_Distance_J1=>?_)))
  ·intro out_35 H
   exact rz (ck 3 (ae (by cases H;exact og (sg [0,1,5,6,7]))))
  refine bk 3 (sr (ck 2 (bx H λ x67 h264 H=>sp (Ak Ac h264) (ck 3 (bx H λ x68 h265 H=>sp (Ak Ac h265) (ck 1 (bx H λ r109 h266 H=>ca true (PW h266) (ck 1 (en (sr (ck 5 (gc 1 (!(decide (out_33<0))) (pO (en (cn H (λ H=>?_) (λ H=>?_))))))))))))))))
  ·exact rz (ck 2 (ae (qN (qs (sg [0,1,5,6,7]) (hFR12_Distance_J1 r109 H)))))
  ·exact sk (qN (qs (sg [0,1,5,6,7]) (hFR12_Distance_J1 out_33 H)))
 ·exact ex 2 (qx (by cases H;exact xo rfl (sg [0,1,5,6])))
theorem LH (x:(Int×Int)) (z:((Int×Int)⊕Int)) (H:B8 n p0_ p1_ x.1 x.2=some z):WP (cxk 39 0) (Aw Tryz.f106) [1,1,0,1,0,0] (Au 0 (Hb p0_ p1_) (MM) z) (Hb p0_ p1_ x):=by
 obtain ⟨out_31,i_21⟩:=x
 refine sq (sr (ck 2 (sp (Av Ac p0_) (ck 1 (en (cn H (λ H=>?_) (λ H=>?_)))))))
 ·exact sk (qz (sq (bk 1 (sr (ck 1 (en (bk 2 (bx H λ y82 h267 H=>lX LG h267 (sg [0,1,5,6,7]) rfl λ s hE61=>qH (qN (qs (hE61) (rz (ck 3 (ae (by cases H;exact og (sg [0,1,5,6])))))))))))))))
 ·exact ex 0 (qx (by cases H;exact xo rfl (sg [5])))
theorem Cb {z} (H:BC n p0_ p1_=some z):Aq Tryz.prog 106 [.d (.sl (p0_.map Ac)),.d (.sl (p1_.map Ac))] (.d (.int .i64 z)):=by
 exact fO 39 (JeM p0_ p1_) Tryz.func106 (sr (ck 1 (en (sr (ck 1 (en (sq (sr (ck 1 (en (bk 0 (bx H λ y83 h268 H=>lX LH h268 (sg [0,1,5,6]) rfl λ s hE62=>qH (qs (hE62) (sr (ck 2 (en (re (by cases H;exact pr rd))))))))))))))))))
end
section
variable (p0_:Af) (r111:(List (List Aa))) (out_36:(List (List Int))) (i_22:Int) (out_37:(List (List Int))) (row_1:(List Int)) (k_13:Int) (row_2:(List Int))
def Jir:St:=⟨(0,.agg [.d (.int .i64 p0_.W),.d (.int .i64 p0_.H),.d (.int .i64 p0_.Gap),.d (.sl (p0_.F.map As))])::[],[]⟩
def Jis:St:=⟨(3,.osl 0 1 0 (out_36.length))::(4,.d (.sl (r111.map (eL Ac))))::(5,.d (.int .i64 i_22))::[],[some (.arr 1 (out_36.map (eL A6)))]⟩
def Jit:St:=⟨(3,.osl 0 1 0 (out_37.length))::[],[some (.arr 1 (out_37.map (eL A6)))]⟩
def Jiu:St:=⟨(3,.osl 0 1 0 (out_36.length))::(4,.d (.sl (r111.map (eL Ac))))::(5,.d (.int .i64 i_22))::(6,.osl 1 1 0 (row_1.length))::(7,.d (.int .i64 k_13))::[],[some (.arr 1 (out_36.map (eL A6))),some (.arr 1 (row_1.map A6))]⟩
def Jiv:St:=⟨(3,.osl 0 1 0 (out_36.length))::(4,.d (.sl (r111.map (eL Ac))))::(5,.d (.int .i64 i_22))::(6,.osl 1 1 0 (row_2.length))::[],[some (.arr 1 (out_36.map (eL A6))),some (.arr 1 (row_2.map A6))]⟩
def LI:(List Int)->Ex->St->Prop:=xX 0 2 (λ (y:(List Int))=>Jiv r111 out_36 i_22 y)
def Ge:((List Int)×Int)->St:=(λ (x:((List Int)×Int))=>Jiu r111 out_36 i_22 x.1 x.2)
def LJ:(List (List Int))->Ex->St->Prop:=xX 0 0 (λ (y:(List (List Int)))=>Jit y)
def Gf:((List (List Int))×Int)->St:=(λ (x:((List (List Int))×Int))=>Jis r111 x.1 x.2)
variable {p0_ r111 out_36 i_22 out_37 row_1 k_13 row_2}
theorem KT (x:((List Int)×Int)) (z:(((List Int)×Int)⊕(List Int))) (H:C5 n r111 out_36 i_22 x.1 x.2=some z):WP (cxk 44 0) (Aw Tryz.f95) [1,1,1,0,1,0,0,1,0,0,1,0,1,0,0] (Au 0 (Ge r111 out_36 i_22) (LI r111 out_36 i_22) z) (Ge r111 out_36 i_22 x):=by
 obtain ⟨row_1,k_13⟩:=x
 refine sq (sr (ck 2 (sp (Av (eL Ac) r111) (ck 1 (en (cn H (λ H=>?_) (λ H=>?_)))))))
 ·exact sk (qz (sq (bk 3 (rz (ck 3 (bx H λ x69 h271 H=>sp (Ak (eL Ac) h271) (ck 3 (bx H λ x70 h272 H=>sp (Ak (eL Ac) h272) (ck 1 (bx H λ r112 h273 H=>ca false (Cb h273) (ck 1 (bx H λ l26 h274 H=>sp (A3 A6 1 1 h274) (ck 1 (ae (qN (qz (rz (ck 3 (ae (by cases H;exact og (sg [3,4,5,6,7])))))))))))))))))))))
 ·exact ex 2 (qx (by cases H;exact xo rfl (sg [3,4,5,6])))
theorem KU (x:((List (List Int))×Int)) (z:(((List (List Int))×Int)⊕(List (List Int)))) (H:C6 n r111 x.1 x.2=some z):WP (cxk 44 0) (Aw Tryz.f95) [1,1,1,0,1,0,0] (Au 0 (Gf r111) (LJ) z) (Gf r111 x):=by
 obtain ⟨out_36,i_22⟩:=x
 refine sq (sr (ck 2 (sp (Av (eL Ac) r111) (ck 1 (en (cn H (λ H=>?_) (λ H=>?_)))))))
 ·exact sk (qz (sq (bk 1 (sr (ck 2 (en (sq (sr (ck 1 (en (bk 2 (bx H λ y84 h275 H=>lX KT h275 (sg [3,4,5,6,7]) rfl λ s hE63=>qH (qs (hE63) (rg (fz (enc:=A6) (xs:=y84) 6 1 1) (ck 3 (bx H λ l27 h276 H=>sp (A3 (eL A6) 0 1 h276) (ck 1 (ae (qN (qz (rz (ck 3 (ae (by cases H;exact og (sg [3,4,5])))))))))))))))))))))))))
 ·exact ex 0 (qx (by cases H;exact xo rfl (sg [3])))
theorem NQ {z} (H:G2 n p0_=some z):Aq Tryz.prog 95 [.agg (AH p0_)] (.own 1 (z.map (eL A6))):=by
 refine fO 44 (Jir p0_) Tryz.func95 (sr (ck 2 (en (sq (sr (ck 1 (bx H λ r110 h269 H=>ca false (Mi h269) (ck 1 (en (cn H (λ H=>?_) (λ H=>?_)))))))))))
 ·exact sr (ck 1 (en (re (qr (by cases H;exact pr (rO (v:=.d (.nil)) [] (ad vz)))))))
 ·exact sk (qz (sr (ck 2 (bx H λ r111 h270 H=>ca false (G9 h270) (ck 2 (en (sq (sr (ck 1 (en (bk 0 (bx H λ y85 h277 H=>lX KU h277 (sg [3,4,5]) rfl λ s hE64=>qH (qs (hE64) (sr (ck 2 (en (re (by cases H;exact pr (rO (v:=.osl 0 1 0 (z.length)) [0] (ao vo))))))))))))))))))))
end
section
variable (p0_:(List Aa)) (p1_:Aa) (i_23:Int)
def JeS:St:=⟨(0,.d (.sl (p0_.map Ac)))::(1,.agg [.d (.int .i64 p1_.X),.d (.int .i64 p1_.Y)])::[],[]⟩
def JeT:St:=⟨(0,.d (.sl (p0_.map Ac)))::(3,.ptr 0 0)::(5,.d (.int .i64 i_23))::[],[some (.box [.d (.int .i64 p1_.X),.d (.int .i64 p1_.Y)])]⟩
def JeU:St:=⟨[],[]⟩
def SY:(Unit⊕Bool)->Ex->St->Prop:=xS (xX 0 0 (λ (y:Unit)=>JeU)) (xR ty Tryz.f108 (λ (y:Bool)=>.d (.bool y)))
def Mj:Int->St:=(λ (x:Int)=>JeT p0_ p1_ x)
variable {p0_ p1_ i_23}
theorem KW (x:Int) (z:(Int⊕(Unit⊕Bool))) (H:HI n p0_ p1_ x=some z):WP (cxk 18 0) (Aw Tryz.f108) [1,0,1,0,0] (Au 0 (Mj p0_ p1_) (SY) z) (Mj p0_ p1_ x):=by
 revert H
 generalize x=i_23
 intro H
 refine sq (sr (ck 2 (sp (Av Ac p0_) (ck 1 (en (cn H (λ H=>?_) (λ H=>?_)))))))
 ·refine sk (qz (sq (bk 1 (sr (ck 2 (bx H λ x71 h278 H=>sp (Ak Ac h278) (ck 3 (en (cn H (λ H=>?_) (λ H=>?_))))))))))
  ·exact sr (ck 1 (en (re (qR (qr (by cases H;exact ro rfl rd))))))
  ·exact sk (qN (qz (rz (ck 3 (ae (by cases H;exact og (sg [0,3,5])))))))
 ·exact ex 0 (qx (by cases H;exact xo rfl (sg [])))
theorem KX {z} (H:Ky n p0_ p1_=some z):Aq Tryz.prog 108 [.d (.sl (p0_.map Ac)),.agg [.d (.int .i64 p1_.X),.d (.int .i64 p1_.Y)]] (.d (.bool z)):=by
 refine fO 18 (JeS p0_ p1_) Tryz.func108 (sr (ck 2 (en (sq (sr (ck 1 (en (bk 0 (bx H λ y86 h279 H=>?_)))))))))
 rcases y86 with y87|y88
 ·exact lX KW h279 (sg [0,3,5]) rfl λ s hE65=>qH (qs (hE65) (sr (ck 1 (en (re (by cases H;exact pr rd))))))
 ·exact lR KW h279 (sg [0,3,5]) rfl λ s hE66=>qR (qr (by cases H;exact pr hE66))
end
section
variable (p0_:Aa) (p1_:Aa)
def JeV:St:=⟨(0,.agg [.d (.int .i64 p0_.X),.d (.int .i64 p0_.Y)])::(1,.agg [.d (.int .i64 p1_.X),.d (.int .i64 p1_.Y)])::[],[]⟩
variable {p0_ p1_}
theorem Sa {z} (H:PT n p0_ p1_=some z):Aq Tryz.prog 119 [.agg [.d (.int .i64 p0_.X),.d (.int .i64 p0_.Y)],.agg [.d (.int .i64 p1_.X),.d (.int .i64 p1_.Y)]] (.d (.bool z)):=by
 exact fO 24 (JeV p0_ p1_) Tryz.func119 (sr (ck 3 (en (sr (ck 7 (gc 1 (!(decide (p0_.Y<p1_.Y))) (ck 1 (gc 3 (!(decide (p0_.Y<p1_.Y))) (ck 1 (gc 1 ((!(decide (p0_.Y<p1_.Y)))&&(p0_.Y==p1_.Y)) (ck 1 (gc 2 ((!(decide (p0_.Y<p1_.Y)))&&(p0_.Y==p1_.Y)) (pG (g:=(!(decide (p0_.Y<p1_.Y)))) (v:=.d (.bool ((p0_.Y==p1_.Y)&&(decide (p0_.X<p1_.X))))) (λ hg=>CX (c:=.gv (!(decide (p0_.Y<p1_.Y))) (.d (.bool (p0_.Y==p1_.Y)))) (a:=.gv ((!(decide (p0_.Y<p1_.Y)))&&(p0_.Y==p1_.Y)) (.d (.bool (decide (p0_.X<p1_.X))))) (b:=.d (.bool false)) rfl rfl rfl ((λ hh=>hh) hg) (λ ht=>by rw [(λ hh=>hh) hg,ht];rfl) trivial) (pO (ck 1 (en (re (by cases H;exact pr rd))))))))))))))))))
end
section
variable (p0_:(List Aa)) (out_38:(List Aa)) (i_24:Int) (out_39:(List Aa)) (out_40:(List Aa)) (at_2:Int) (at_3:Int)
def JeW:St:=⟨(0,.d (.sl (p0_.map Ac)))::[],[]⟩
def JeX:St:=⟨(0,.d (.sl (p0_.map Ac)))::(3,.osl 0 2 0 (out_38.length))::(4,.d (.int .i64 i_24))::[],[some (.arr 2 (out_38.map Ac))]⟩
def JeY:St:=⟨(3,.osl 0 2 0 (out_39.length))::[],[some (.arr 2 (out_39.map Ac))]⟩
def JeZ:St:=⟨(0,.d (.sl (p0_.map Ac)))::(3,.osl 0 2 0 (out_40.length))::(4,.d (.int .i64 i_24))::[],[some (.arr 2 (out_40.map Ac))]⟩
def Je0:St:=⟨(0,.d (.sl (p0_.map Ac)))::(3,.osl 0 2 0 (out_38.length))::(4,.d (.int .i64 i_24))::(5,.d (.int .i64 at_2))::[],[some (.arr 2 (out_38.map Ac))]⟩
def Je1:St:=⟨(0,.d (.sl (p0_.map Ac)))::(3,.osl 0 2 0 (out_38.length))::(4,.d (.int .i64 i_24))::(5,.d (.int .i64 at_3))::[],[some (.arr 2 (out_38.map Ac))]⟩
def O6:Int->Ex->St->Prop:=xX 0 2 (λ (y:Int)=>Je1 p0_ out_38 i_24 y)
def IR:Int->St:=(λ (x:Int)=>Je0 p0_ out_38 i_24 x)
def O7:(List Aa)->Ex->St->Prop:=xX 0 0 (λ (y:(List Aa))=>JeY y)
def IS:((List Aa)×Int)->St:=(λ (x:((List Aa)×Int))=>JeX p0_ x.1 x.2)
variable {p0_ out_38 i_24 out_39 out_40 at_2 at_3}
theorem NR (x:Int) (z:(Int⊕Int)) (H:G4 n p0_ out_38 i_24 x=some z):WP (cxk 56 0) (Aw Tryz.f107) [1,1,0,1,0,0,1,0,0,1,1,0,0,0] (Au 0 (IR p0_ out_38 i_24) (O6 p0_ out_38 i_24) z) (IR p0_ out_38 i_24 x):=by
 revert H
 generalize x=at_2
 intro H
 refine sq (sr (ck 5 (bx H λ x73 h282 H=>sE (λ hg=>Ak Ac (Ba h282 hg)) (gc 1 (decide (at_2>0)) (ck 2 (gc 1 (decide (at_2>0)) (bx H λ x74 h283 H=>sE (λ hg=>Bl 0 2 (Ba h283 hg)) (sE (g:=decide (at_2>0)) (λ hg=>B3 Ac 0 0 (ty 124) (Ba h283 hg)) (bx H λ r114 h284 H=>cG false (leZ) rfl (λ hg=>Sa (Ba h284 hg)) (Or.inl rfl) (BW (λ hh=>hh) (BW (λ hh=>hh) (C9))) rfl (pA (en (cn H (λ H=>?_) (λ H=>?_)))))))))))))
 ·exact sk (qz (bk 3 (rz (ck 3 (ae (qN (by cases H;exact og (sg [0,3,4,5]))))))))
 ·exact ex 2 (qx (by cases H;exact xo rfl (sg [0,3,4,5])))
theorem NS (x:((List Aa)×Int)) (z:(((List Aa)×Int)⊕(List Aa))) (H:ED n p0_ x.1 x.2=some z):WP (cxk 56 0) (Aw Tryz.f107) [1,1,0,1,0,0] (Au 0 (IS p0_) (O7) z) (IS p0_ x):=by
 obtain ⟨out_38,i_24⟩:=x
 refine sq (sr (ck 2 (sp (Av Ac p0_) (ck 1 (en (cn H (λ H=>?_) (λ H=>?_)))))))
 ·refine sk (qz (sj (λ (x:(List Aa))=>JeZ p0_ i_24 x) (λ (x:(List Aa))=>G3 n i_24 x) z ?_ (λ hFR12_Sorted_J1=>?_)))
  ·intro out_40 H
   exact rz (ck 3 (ae (by cases H;exact og (sg [0,3,4]))))
  refine bk 1 (sq (sr (ck 3 (bx H λ x72 h280 H=>sp (Ak Ac h280) (ck 1 (bx H λ r113 h281 H=>cb (ks:=[0]) (obl:=[(0+List.length out_38,List.length (out_38.map Ac))]) false (leK leM (leZ)) (CJ Ga (CJ rfl rfl)) (KX h281) (Or.inr trivial) rfl (en (cn H (λ H=>?_) (λ H=>?_)))))))))
  ·exact ex 1 (qx (qH (qs (sg [0,3,4]) (hFR12_Sorted_J1 out_38 H))))
  ·exact sk (qz (sr (ck 3 (en (sq (bk 2 (bx H λ y89 h285 H=>lX NR h285 (sg [0,3,4,5]) rfl λ s hE67=>qH (qs (hE67) (sr (ck 3 (bx H λ l28 h286 H=>sp (My 0 2 h286) (bx H λ l29 h287 H=>sp (JdG Ac 1 2 (QA h286) (Ui (enc:=Ac) h286) h287) (ck 1 (en (sr (ck 2 (bx H λ l30 h288 H=>sp (My 0 2 h288) (ck 2 (bx H λ x75 h289 H=>sp (Ak Ac h289) (ck 2 (bx H λ l31 h290 H=>sp (JdH Ac 0 2 (QA h288) (Ui (enc:=Ac) h288) (Yp h288) FM (leM (enc:=Ac) (xs:=[x75])) h290) (ck 1 (en (rz (ck 2 (bx H λ l32 h291 H=>sp (A3 Ac 4 2 h291) (ck 1 (ae (qN (qs (sg [0,3,4]) (hFR12_Sorted_J1 l32 H)))))))))))))))))))))))))))))))
 ·exact ex 0 (qx (by cases H;exact xo rfl (sg [3])))
theorem KY {z} (H:HJ n p0_=some z):Aq Tryz.prog 107 [.d (.sl (p0_.map Ac))] (.own 2 (z.map Ac)):=by
 exact fO 56 (JeW p0_) Tryz.func107 (sr (ck 1 (en (sr (ck 2 (en (sq (sr (ck 1 (en (bk 0 (bx H λ y90 h292 H=>lX NS h292 (sg [0,3,4]) rfl λ s hE68=>qH (qs (hE68) (sr (ck 2 (en (re (by cases H;exact pr (rO (v:=.osl 0 2 0 (z.length)) [0] (ao vo))))))))))))))))))))
end
end Go.AI
end
section
namespace Go.AI
open Go.Proofs
set_option maxRecDepth 10000
variable {n:Nat}
section
variable (p0_:(List Aa)) (p1_:Int) (rest_1:(List Aa)) (out_41:(List (List Aa))) (out_42:(List (List Aa))) (one_1:(List Aa)) (grown_1:Bool) (one_2:(List Aa)) (one_3:(List Aa)) (grown_2:Bool) (i_25:Int) (one_4:(List Aa)) (grown_3:Bool) (one_5:(List Aa)) (grown_4:Bool) (y92:(List Aa)) (left_1:(List Aa)) (i_26:Int) (left_2:(List Aa)) (left_3:(List Aa))
def Jiw:St:=⟨(0,.d (.sl (p0_.map Ac)))::(1,.d (.int .i64 p1_))::[],[]⟩
def Jix:St:=⟨(1,.d (.int .i64 p1_))::(5,.osl 0 2 0 (rest_1.length))::(6,.osl 1 1 0 (out_41.length))::[],[some (.arr 2 (rest_1.map Ac)),some (.arr 1 (out_41.map (eL Ac)))]⟩
def Jiy:St:=⟨(6,.osl 0 1 0 (out_42.length))::[],[some (.arr 1 (out_42.map (eL Ac)))]⟩
def Jiz:St:=⟨(1,.d (.int .i64 p1_))::(5,.osl 0 2 0 (rest_1.length))::(6,.osl 1 1 0 (out_41.length))::(7,.osl 2 2 0 (one_1.length))::(8,.d (.bool grown_1))::[],[some (.arr 2 (rest_1.map Ac)),some (.arr 1 (out_41.map (eL Ac))),some (.arr 2 (one_1.map Ac))]⟩
def JiA:St:=⟨(1,.d (.int .i64 p1_))::(5,.osl 0 2 0 (rest_1.length))::(6,.osl 1 1 0 (out_41.length))::(7,.osl 2 2 0 (one_2.length))::[],[some (.arr 2 (rest_1.map Ac)),some (.arr 1 (out_41.map (eL Ac))),some (.arr 2 (one_2.map Ac))]⟩
def JiB:St:=⟨(1,.d (.int .i64 p1_))::(5,.osl 0 2 0 (rest_1.length))::(6,.osl 1 1 0 (out_41.length))::(7,.osl 2 2 0 (one_3.length))::(8,.d (.bool grown_2))::(9,.d (.int .i64 i_25))::[],[some (.arr 2 (rest_1.map Ac)),some (.arr 1 (out_41.map (eL Ac))),some (.arr 2 (one_3.map Ac))]⟩
def JiC:St:=⟨(1,.d (.int .i64 p1_))::(5,.osl 0 2 0 (rest_1.length))::(6,.osl 1 1 0 (out_41.length))::(7,.osl 2 2 0 (one_4.length))::(8,.d (.bool grown_3))::[],[some (.arr 2 (rest_1.map Ac)),some (.arr 1 (out_41.map (eL Ac))),some (.arr 2 (one_4.map Ac))]⟩
def JiD:St:=⟨(1,.d (.int .i64 p1_))::(5,.osl 0 2 0 (rest_1.length))::(6,.osl 1 1 0 (out_41.length))::(7,.osl 2 2 0 (one_5.length))::(8,.d (.bool grown_4))::(9,.d (.int .i64 i_25))::[],[some (.arr 2 (rest_1.map Ac)),some (.arr 1 (out_41.map (eL Ac))),some (.arr 2 (one_5.map Ac))]⟩
def MN:((List Aa)×Bool)->Ex->St->Prop:=xX 0 4 (λ (y:((List Aa)×Bool))=>JiC p1_ rest_1 out_41 y.1 y.2)
def Hc:((List Aa)×Bool×Int)->St:=(λ (x:((List Aa)×Bool×Int))=>JiB p1_ rest_1 out_41 x.1 x.2.1 x.2.2)
def MO:(List Aa)->Ex->St->Prop:=xX 0 2 (λ (y:(List Aa))=>JiA p1_ rest_1 out_41 y)
def Hd:((List Aa)×Bool)->St:=(λ (x:((List Aa)×Bool))=>Jiz p1_ rest_1 out_41 x.1 x.2)
def JiE:St:=⟨(1,.d (.int .i64 p1_))::(5,.osl 0 2 0 (rest_1.length))::(6,.osl 1 1 0 (out_41.length))::(7,.osl 2 2 0 (y92.length))::(10,.osl 3 2 0 (left_1.length))::(11,.d (.int .i64 i_26))::[],[some (.arr 2 (rest_1.map Ac)),some (.arr 1 (out_41.map (eL Ac))),some (.arr 2 (y92.map Ac)),some (.arr 2 (left_1.map Ac))]⟩
def Je2:St:=⟨(1,.d (.int .i64 p1_))::(6,.osl 0 1 0 (out_41.length))::(7,.osl 1 2 0 (y92.length))::(10,.osl 2 2 0 (left_2.length))::[],[some (.arr 1 (out_41.map (eL Ac))),some (.arr 2 (y92.map Ac)),some (.arr 2 (left_2.map Ac))]⟩
def Je3:St:=⟨(1,.d (.int .i64 p1_))::(5,.osl 0 2 0 (rest_1.length))::(6,.osl 1 1 0 (out_41.length))::(7,.osl 2 2 0 (y92.length))::(10,.osl 3 2 0 (left_3.length))::(11,.d (.int .i64 i_26))::[],[some (.arr 2 (rest_1.map Ac)),some (.arr 1 (out_41.map (eL Ac))),some (.arr 2 (y92.map Ac)),some (.arr 2 (left_3.map Ac))]⟩
def MP:(List Aa)->Ex->St->Prop:=xX 0 6 (λ (y:(List Aa))=>Je2 p1_ out_41 y92 y)
def He:((List Aa)×Int)->St:=(λ (x:((List Aa)×Int))=>JiE p1_ rest_1 out_41 y92 x.1 x.2)
def MQ:(List (List Aa))->Ex->St->Prop:=xX 0 0 (λ (y:(List (List Aa)))=>Jiy y)
def Hf:((List Aa)×(List (List Aa)))->St:=(λ (x:((List Aa)×(List (List Aa))))=>Jix p1_ x.1 x.2)
variable {p0_ p1_ rest_1 out_41 out_42 one_1 grown_1 one_2 one_3 grown_2 i_25 one_4 grown_3 one_5 grown_4 y92 left_1 i_26 left_2 left_3}
theorem LK (x:((List Aa)×Bool×Int)) (z:(((List Aa)×Bool×Int)⊕((List Aa)×Bool))) (H:Dp n p1_ rest_1 out_41 x.1 x.2.1 x.2.2=some z):WP (cxk 82 0) (Aw Tryz.f96) [1,1,0,0,0,1,0,1,0,1,0,0,1,0,1,1,0,0] (Au 0 (Hc p1_ rest_1 out_41) (MN p1_ rest_1 out_41) z) (Hc p1_ rest_1 out_41 x):=by
 obtain ⟨one_3,grown_2,i_25⟩:=x
 refine sq (sr (ck 4 (en (cn H (λ H=>?_) (λ H=>?_)))))
 ·refine sk (qz (sj (λ (x:((List Aa)×Bool))=>JiD p1_ rest_1 out_41 i_25 x.1 x.2) (λ (x:((List Aa)×Bool))=>Fi n i_25 x.1 x.2) z ?_ (λ hFR12_Clusters_J1=>?_)))
  ·rintro ⟨one_5,grown_4⟩ H
   exact rz (ck 3 (ae (by cases H;exact og (sg [1,5,6,7,8,9]))))
  refine bk 5 (sr (ck 3 (bx H λ x77 h295 H=>sp (Bl 0 2 h295) (sp (B3 Ac 0 0 (ty 124) h295) (bx H λ r116 h296 H=>cb (ks:=[2]) (obl:=[(0+List.length one_3,List.length (one_3.map Ac))]) false (leK leM (leZ)) (CJ Ga (CJ rfl rfl)) (KX h296) (Or.inr trivial) rfl (ck 6 (gc 1 (!r116) (bx H λ l33 h297 H=>sE (λ hg=>My 0 2 (Ba h297 hg)) (bx H λ r117 h298 H=>cGg (ks:=[2,0]) (obl:=[(0+List.length one_3,List.length (one_3.map Ac)),((0+Int.toNat i_25)+(Int.toNat (Ai .i64 i_25 1)-Int.toNat i_25),List.length (rest_1.map Ac))]) false (λ hg=>leK leM (leK (Ui (enc:=Ac) (Ba h297 hg)) (leZ))) (λ hg=>(CJ Ga (CJ (JkB (QA (Ba h297 hg))) rfl))) (λ hg=>Cb (Ba h298 hg)) (Or.inr trivial) (BW (λ hh=>hh) (BW (λ hh=>hh) (C9))) rfl (ck 1 (gc 1 (!r116) (pA (en (cn H (λ H=>?_) (λ H=>?_)))))))))))))))
  ·exact sr (ck 3 (bx H λ x78 h299 H=>sp (Bl 0 2 h299) (sp (B3 Ac 0 0 (ty 124) h299) (ck 1 (bx H λ l34 h300 H=>sp (A3 Ac 2 2 h300) (ck 1 (en (rz (ck 1 (ae (qN (qs (sg [1,5,6,7,8,9]) (hFR12_Clusters_J1 (l34,true) H)))))))))))))
  ·exact sk (qN (qs (sg [1,5,6,7,8,9]) (hFR12_Clusters_J1 (one_3,grown_2) H)))
 ·exact ex 4 (qx (by cases H;exact xo rfl (sg [1,5,6,7,8])))
theorem LL (x:((List Aa)×Bool)) (z:(((List Aa)×Bool)⊕(List Aa))) (H:Fj n p1_ rest_1 out_41 x.1 x.2=some z):WP (cxk 82 0) (Aw Tryz.f96) [1,1,0,0,0,1,0,1,0,1,0,0] (Au 0 (Hd p1_ rest_1 out_41) (MO p1_ rest_1 out_41) z) (Hd p1_ rest_1 out_41 x):=by
 obtain ⟨one_1,grown_1⟩:=x
 refine sq (sr (ck 1 (en (cn H (λ H=>?_) (λ H=>?_)))))
 ·exact sk (qz (bk 3 (sr (ck 1 (en (sr (ck 1 (en (bk 4 (bx H λ y91 h301 H=>lX LK h301 (sg [1,5,6,7,8,9]) rfl λ s hE69=>qH (qN (by cases H;exact og (tr (hE69) (sg [1,5,6,7,8]))))))))))))))
 ·exact ex 2 (qx (by cases H;exact xo rfl (sg [1,5,6,7])))
theorem LM (x:((List Aa)×Int)) (z:(((List Aa)×Int)⊕(List Aa))) (H:Dq n p1_ rest_1 out_41 y92 x.1 x.2=some z):WP (cxk 82 0) (Aw Tryz.f96) [1,1,0,0,0,1,0,1,1,1,0,1,0,0] (Au 0 (He p1_ rest_1 out_41 y92) (MP p1_ out_41 y92) z) (He p1_ rest_1 out_41 y92 x):=by
 obtain ⟨left_1,i_26⟩:=x
 refine sq (sr (ck 4 (en (cn H (λ H=>?_) (λ H=>?_)))))
 ·refine sk (qz (sj (λ (x:(List Aa))=>Je3 p1_ rest_1 out_41 y92 i_26 x) (λ (x:(List Aa))=>Fk n i_26 x) z ?_ (λ hFR12_Clusters_J2=>?_)))
  ·intro left_3 H
   exact rz (ck 3 (ae (by cases H;exact og (sg [1,5,6,7,10,11]))))
  refine bk 7 (sr (ck 3 (bx H λ x79 h303 H=>sp (Bl 0 2 h303) (sp (B3 Ac 0 0 (ty 124) h303) (bx H λ r118 h304 H=>cb (ks:=[2]) (obl:=[(0+List.length y92,List.length (y92.map Ac))]) false (leK leM (leZ)) (CJ Ga (CJ rfl rfl)) (KX h304) (Or.inr trivial) rfl (ck 1 (en (cn H (λ H=>?_) (λ H=>?_)))))))))
  ·exact rz (ck 3 (bx H λ x80 h305 H=>sp (Bl 0 2 h305) (sp (B3 Ac 0 0 (ty 124) h305) (ck 1 (bx H λ l35 h306 H=>sp (A3 Ac 3 2 h306) (ck 1 (ae (qN (qs (sg [1,5,6,7,10,11]) (hFR12_Clusters_J2 l35 H))))))))))
  ·exact sk (qN (qs (sg [1,5,6,7,10,11]) (hFR12_Clusters_J2 left_1 H)))
 ·exact ex 6 (qx (by cases H;exact xo rfl (sg [1,6,7,10])))
theorem LO (x:((List Aa)×(List (List Aa)))) (z:(((List Aa)×(List (List Aa)))⊕(List (List Aa)))) (H:Fl n p1_ x.1 x.2=some z):WP (cxk 82 0) (Aw Tryz.f96) [1,1,0,0,0] (Au 0 (Hf p1_) (MQ) z) (Hf p1_ x):=by
 obtain ⟨rest_1,out_41⟩:=x
 refine sq (sr (ck 3 (en (cn H (λ H=>?_) (λ H=>?_)))))
 ·exact sk (qz (bk 1 (sr (ck 1 (bx H λ x76 h294 H=>sp (Bl 0 2 h294) (sp (B3 Ac 0 0 (ty 124) h294) (ck 2 (en (sq (sr (ck 1 (en (bk 2 (bx H λ y92 h302 H=>lX LL h302 (sg [1,5,6,7,8]) rfl λ s hE70=>qH (qs (hE70) (sr (ck 2 (en (sq (sr (ck 1 (en (bk 6 (bx H λ y93 h307 H=>lX LM h307 (sg [1,5,6,7,10,11]) rfl λ s hE71=>qH (qs (hE71) (rz (ck 3 (bx H λ r119 h308 H=>cb (ks:=[1]) (obl:=[(0+List.length y92,List.length (y92.map Ac))]) false (leK leM (leZ)) (CJ Ga rfl) (KY h308) (Or.inr (ZA λ _=>rfl)) rfl (ck 1 (bx H λ l36 h309 H=>sp (A3 (eL Ac) 0 1 h309) (ck 2 (ae (qN (by cases H;exact og (sg [1,5,6])))))))))))))))))))))))))))))))))))
 ·exact ex 0 (qx (by cases H;exact xo rfl (sg [6])))
theorem O8 {z} (H:H9 n p0_ p1_=some z):Aq Tryz.prog 96 [.d (.sl (p0_.map Ac)),.d (.int .i64 p1_)] (.own 1 (z.map (eL Ac))):=by
 exact fO 82 (Jiw p0_ p1_) Tryz.func96 (sr (ck 1 (en (sr (ck 1 (bx H λ r115 h293 H=>cl [List.length r115] (KY h293) (ck 3 (en (sq (bk 0 (bx H λ y94 h310 H=>lX LO h310 (sg [1,5,6]) rfl λ s hE72=>qH (qs (hE72) (sr (ck 2 (en (re (by cases H;exact pr (rO (v:=.osl 0 1 0 (z.length)) [0] (ao vo)))))))))))))))))))
end
section
variable (p0_:Af) (r121:(List (List Aa))) (r122:(List (List Int))) (i_27:Int) (i_28:Int) (k_14:Int)
def JiF:St:=⟨(0,.agg [.d (.int .i64 p0_.W),.d (.int .i64 p0_.H),.d (.int .i64 p0_.Gap),.d (.sl (p0_.F.map As))])::[],[]⟩
def JiG:St:=⟨(1,.ptr 0 0)::(2,.ptr 1 0)::(3,.d (.sl (r121.map (eL Ac))))::(4,.d (.sl (r122.map (eL A6))))::(5,.d (.int .i64 i_27))::[],[some (.box (AH p0_)),some (.box [.d (.int .i64 0),.d (.int .i64 0),.d (.int .i64 0)])]⟩
def JiH:St:=⟨(1,.ptr 0 0)::(2,.ptr 1 0)::(3,.d (.sl (r121.map (eL Ac))))::(4,.d (.sl (r122.map (eL A6))))::[],[some (.box (AH p0_)),some (.box [.d (.int .i64 0),.d (.int .i64 0),.d (.int .i64 0)])]⟩
def Qg:(Unit⊕Cm)->Ex->St->Prop:=xS (xX 0 0 (λ (y:Unit)=>JiH p0_ r121 r122)) (xR ty Tryz.f83 (λ (y:Cm)=>.agg [.d (.int .i64 y.I),.d (.int .i64 y.J),.d (.int .i64 y.E)]))
def JT:Int->St:=(λ (x:Int)=>JiG p0_ r121 r122 x)
def JiI:St:=⟨(1,.ptr 0 0)::(2,.ptr 1 0)::(3,.d (.sl (r121.map (eL Ac))))::(4,.d (.sl (r122.map (eL A6))))::(6,.d (.int .i64 i_28))::[],[some (.box (AH p0_)),some (.box [.d (.int .i64 0),.d (.int .i64 0),.d (.int .i64 0)])]⟩
def JiJ:St:=⟨(2,.ptr 0 0)::[],[some (.box [.d (.int .i64 0),.d (.int .i64 0),.d (.int .i64 0)])]⟩
def JiK:St:=⟨(1,.ptr 0 0)::(2,.ptr 1 0)::(3,.d (.sl (r121.map (eL Ac))))::(4,.d (.sl (r122.map (eL A6))))::(6,.d (.int .i64 i_28))::(7,.d (.int .i64 k_14))::[],[some (.box (AH p0_)),some (.box [.d (.int .i64 0),.d (.int .i64 0),.d (.int .i64 0)])]⟩
def JiL:St:=⟨(1,.ptr 0 0)::(2,.ptr 1 0)::(3,.d (.sl (r121.map (eL Ac))))::(4,.d (.sl (r122.map (eL A6))))::(6,.d (.int .i64 i_28))::[],[some (.box (AH p0_)),some (.box [.d (.int .i64 0),.d (.int .i64 0),.d (.int .i64 0)])]⟩
def Qh:(Unit⊕Cm)->Ex->St->Prop:=xS (xX 0 4 (λ (y:Unit)=>JiL p0_ r121 r122 i_28)) (xR ty Tryz.f83 (λ (y:Cm)=>.agg [.d (.int .i64 y.I),.d (.int .i64 y.J),.d (.int .i64 y.E)]))
def JU:Int->St:=(λ (x:Int)=>JiK p0_ r121 r122 i_28 x)
def Qi:(Unit⊕Cm)->Ex->St->Prop:=xS (xX 0 2 (λ (y:Unit)=>JiJ)) (xR ty Tryz.f83 (λ (y:Cm)=>.agg [.d (.int .i64 y.I),.d (.int .i64 y.J),.d (.int .i64 y.E)]))
def JV:Int->St:=(λ (x:Int)=>JiI p0_ r121 r122 x)
variable {p0_ r121 r122 i_27 i_28 k_14}
theorem IT (x:Int) (z:(Int⊕(Unit⊕Cm))) (H:Fx n p0_ r121 r122 x=some z):WP (cxk 62 0) (Aw Tryz.f83) [1,1,1,0,1,0,0] (Au 0 (JT p0_ r121 r122) (Qg p0_ r121 r122) z) (JT p0_ r121 r122 x):=by
 revert H
 generalize x=i_27
 intro H
 refine sq (sr (ck 2 (sp (Av (eL Ac) r121) (ck 1 (en (cn H (λ H=>?_) (λ H=>?_)))))))
 ·refine sk (qz (sq (bk 1 (sr (ck 2 (bx H λ x81 h314 H=>sp (Ak (eL Ac) h314) (ck 3 (bx H λ r123 h315 H=>ca false (O8 h315) (sp (Av (eL Ac) r123) (ck 1 (en (cn H (λ H=>?_) (λ H=>?_)))))))))))))
  ·exact sr (ck 4 (en (re (qR (qr (by cases H;exact ro rfl rd))))))
  ·exact sk (qN (qz (rz (ck 3 (ae (by cases H;exact og (sg [1,2,3,4,5])))))))
 ·exact ex 0 (qx (by cases H;exact xo rfl (sg [1,2,3,4])))
theorem IU (x:Int) (z:(Int⊕(Unit⊕Cm))) (H:Ia n p0_ r121 r122 i_28 x=some z):WP (cxk 62 0) (Aw Tryz.f83) [1,1,1,1,0,1,0,0,1,0,0,1,0,0] (Au 0 (JU p0_ r121 r122 i_28) (Qh p0_ r121 r122 i_28) z) (JU p0_ r121 r122 i_28 x):=by
 revert H
 generalize x=k_14
 intro H
 refine sq (sr (ck 2 (sp (Av (eL Ac) r121) (ck 1 (en (cn H (λ H=>?_) (λ H=>?_)))))))
 ·refine sk (qz (sq (bk 5 (sr (ck 2 (bx H λ x82 h317 H=>sp (Ak (eL A6) h317) (ck 2 (bx H λ x83 h318 H=>sp (Ak A6 h318) (ck 4 (en (cn H (λ H=>?_) (λ H=>?_))))))))))))
  ·exact sr (ck 4 (en (re (qR (qr (by cases H;exact ro rfl rd))))))
  ·exact sk (qN (qz (rz (ck 3 (ae (by cases H;exact og (sg [1,2,3,4,6,7])))))))
 ·exact ex 4 (qx (by cases H;exact xo rfl (sg [1,2,3,4,6])))
theorem IV (x:Int) (z:(Int⊕(Unit⊕Cm))) (H:DD n p0_ r121 r122 x=some z):WP (cxk 62 0) (Aw Tryz.f83) [1,1,1,1,0,1,0,0] (Au 0 (JV p0_ r121 r122) (Qi) z) (JV p0_ r121 r122 x):=by
 revert H
 generalize x=i_28
 intro H
 refine sq (sr (ck 2 (sp (Av (eL Ac) r121) (ck 1 (en (cn H (λ H=>?_) (λ H=>?_)))))))
 ·refine sk (qz (sq (bk 3 (sr (ck 3 (en (bk 4 (bx H λ y98 h319 H=>?_))))))))
  rcases y98 with y99|y100
  ·exact lX IU h319 (sg [1,2,3,4,6,7]) rfl λ s hE74=>qH (qN (qs (hE74) (rz (ck 3 (ae (by cases H;exact og (sg [1,2,3,4,6])))))))
  ·exact lR IU h319 (sg [1,2,3,4,6,7]) rfl λ s hE75=>qR (qR (qr (by cases H;exact ro rfl hE75)))
 ·exact ex 2 (qx (by cases H;exact xo rfl (sg [2])))
theorem SZ {z} (H:MC n p0_=some z):Aq Tryz.prog 83 [.agg (AH p0_)] (.agg [.d (.int .i64 z.I),.d (.int .i64 z.J),.d (.int .i64 z.E)]):=by
 refine fO 62 (JiF p0_) Tryz.func83 (sr (ck 2 (en (sq (sr (ck 1 (bx H λ r120 h311 H=>ca false (Mi h311) (ck 1 (en (cn H (λ H=>?_) (λ H=>?_)))))))))))
 ·exact sr (ck 2 (en (re (qr (by cases H;exact pr rd)))))
 ·refine sk (qz (sr (ck 1 (bx H λ r121 h312 H=>ca false (G9 h312) (ck 1 (bx H λ r122 h313 H=>ca false (NQ h313) (ck 2 (en (sq (sr (ck 1 (en (bk 0 (bx H λ y95 h316 H=>?_))))))))))))))
  rcases y95 with y96|y97
  ·refine lX IT h316 (sg [1,2,3,4,5]) rfl λ s hE73=>qH (qs (hE73) (sq (sr (ck 1 (en (bk 2 (bx H λ y101 h320 H=>?_)))))))
   rcases y101 with y102|y103
   ·exact lX IV h320 (sg [1,2,3,4,6]) rfl λ s hE76=>qH (qs (hE76) (sr (ck 2 (en (re (by cases H;exact pr rd))))))
   ·exact lR IV h320 (sg [1,2,3,4,6]) rfl λ s hE77=>qR (qr (by cases H;exact pr hE77))
  ·exact lR IT h316 (sg [1,2,3,4,5]) rfl λ s hE78=>qR (qr (by cases H;exact pr hE78))
end
section
variable (p0_:Int)
def Je4:St:=⟨(0,.d (.int .i64 p0_))::[],[]⟩
variable {p0_}
theorem S0 {z} (H:Fm n p0_=some z):Aq Tryz.prog 120 [.d (.int .i64 p0_)] (.own 1 (z.map eU8)):=by
 exact fO 8 (Je4 p0_) Tryz.func120 (sr (ck 1 (en (sr (ck 2 (bx H λ x84 h321 H=>sp (Bl 0 1 h321) (sp (B3 eU8 0 0 (ty 184) h321) (ck 2 (en (re (by cases H;exact pr (rO (v:=.osl 1 1 0 (List.length [60,x84])) [1] (ao vo)))))))))))))
end
section
variable (p0_:Int) (p1_:Aa) (r124:(List Int)) (out_43:(List Aa)) (r_1:Int) (out_44:(List Aa)) (out_45:(List Aa)) (k_15:Int) (out_46:(List Aa)) (out_47:(List Aa))
def Je5:St:=⟨(0,.d (.int .i64 p0_))::(1,.agg [.d (.int .i64 p1_.X),.d (.int .i64 p1_.Y)])::[],[]⟩
def Je6:St:=⟨(3,.ptr 0 0)::(5,.osl 1 2 0 (out_43.length))::(6,.d (.sl (r124.map eU8)))::(7,.d (.int .i64 r_1))::[],[some (.box [.d (.int .i64 p1_.X),.d (.int .i64 p1_.Y)]),some (.arr 2 (out_43.map Ac))]⟩
def Je7:St:=⟨(5,.osl 0 2 0 (out_44.length))::[],[some (.arr 2 (out_44.map Ac))]⟩
def Je8:St:=⟨(3,.ptr 0 0)::(5,.osl 1 2 0 (out_45.length))::(6,.d (.sl (r124.map eU8)))::(7,.d (.int .i64 r_1))::(8,.d (.int .i64 k_15))::[],[some (.box [.d (.int .i64 p1_.X),.d (.int .i64 p1_.Y)]),some (.arr 2 (out_45.map Ac))]⟩
def Je9:St:=⟨(3,.ptr 0 0)::(5,.osl 1 2 0 (out_46.length))::(6,.d (.sl (r124.map eU8)))::(7,.d (.int .i64 r_1))::[],[some (.box [.d (.int .i64 p1_.X),.d (.int .i64 p1_.Y)]),some (.arr 2 (out_46.map Ac))]⟩
def Jfa:St:=⟨(3,.ptr 0 0)::(5,.osl 1 2 0 (out_47.length))::(6,.d (.sl (r124.map eU8)))::(7,.d (.int .i64 r_1))::(8,.d (.int .i64 k_15))::[],[some (.box [.d (.int .i64 p1_.X),.d (.int .i64 p1_.Y)]),some (.arr 2 (out_47.map Ac))]⟩
def O9:(List Aa)->Ex->St->Prop:=xX 0 2 (λ (y:(List Aa))=>Je9 p1_ r124 r_1 y)
def IW:((List Aa)×Int)->St:=(λ (x:((List Aa)×Int))=>Je8 p1_ r124 r_1 x.1 x.2)
def Pa:(List Aa)->Ex->St->Prop:=xX 0 0 (λ (y:(List Aa))=>Je7 y)
def IX:((List Aa)×Int)->St:=(λ (x:((List Aa)×Int))=>Je6 p1_ r124 x.1 x.2)
variable {p0_ p1_ r124 out_43 r_1 out_44 out_45 k_15 out_46 out_47}
theorem NT (x:((List Aa)×Int)) (z:(((List Aa)×Int)⊕(List Aa))) (H:CE n p1_ r124 r_1 x.1 x.2=some z):WP (cxk 48 0) (Aw Tryz.f110) [1,1,0,1,0,0,1,0,0,1,0,0] (Au 0 (IW p1_ r124 r_1) (O9 p1_ r124 r_1) z) (IW p1_ r124 r_1 x):=by
 obtain ⟨out_45,k_15⟩:=x
 refine sq (sr (ck 2 (en (cn H (λ H=>?_) (λ H=>?_)))))
 ·refine sk (qz (sj (λ (x:(List Aa))=>Jfa p1_ r124 r_1 k_15 x) (λ (x:(List Aa))=>De n k_15 x) z ?_ (λ hFR15_Points_J1=>?_)))
  ·intro out_47 H
   exact rz (ck 3 (ae (by cases H;exact og (sg [3,5,6,7,8]))))
  refine bk 3 (sr (ck 3 (bx H λ x85 h323 H=>sp (Ak eU8 h323) (ck 6 (bx H λ gd11 h324 H=>so (Jbd h324) (ck 2 (en (cn H (λ H=>?_) (λ H=>?_)))))))))
  ·exact rz (ck 13 (bx H λ l37 h325 H=>sp (A3 Ac 1 2 h325) (ck 1 (ae (qN (qs (sg [3,5,6,7,8]) (hFR15_Points_J1 l37 H)))))))
  ·exact sk (qN (qs (sg [3,5,6,7,8]) (hFR15_Points_J1 out_45 H)))
 ·exact ex 2 (qx (by cases H;exact xo rfl (sg [3,5,6,7])))
theorem NU (x:((List Aa)×Int)) (z:(((List Aa)×Int)⊕(List Aa))) (H:CF n p1_ r124 x.1 x.2=some z):WP (cxk 48 0) (Aw Tryz.f110) [1,1,0,1,0,0] (Au 0 (IX p1_ r124) (Pa) z) (IX p1_ r124 x):=by
 obtain ⟨out_43,r_1⟩:=x
 refine sq (sr (ck 2 (en (cn H (λ H=>?_) (λ H=>?_)))))
 ·exact sk (qz (sq (bk 1 (sr (ck 1 (en (bk 2 (bx H λ y104 h326 H=>lX NT h326 (sg [3,5,6,7,8]) rfl λ s hE79=>qH (qN (qs (hE79) (rz (ck 3 (ae (by cases H;exact og (sg [3,5,6,7])))))))))))))))
 ·exact ex 0 (qx (by cases H;exact xo rfl (sg [5])))
theorem Df {z} (H:Co n p0_ p1_=some z):Aq Tryz.prog 110 [.d (.int .i64 p0_),.agg [.d (.int .i64 p1_.X),.d (.int .i64 p1_.Y)]] (.own 2 (z.map Ac)):=by
 exact fO 48 (Je5 p0_ p1_) Tryz.func110 (sr (ck 2 (en (sr (ck 2 (bx H λ r124 h322 H=>ca false (S0 h322) (ck 2 (en (sq (sr (ck 1 (en (bk 0 (bx H λ y105 h327 H=>lX NU h327 (sg [3,5,6,7]) rfl λ s hE80=>qH (qs (hE80) (sr (ck 2 (en (re (by cases H;exact pr (rO (v:=.osl 0 2 0 (z.length)) [0] (ao vo))))))))))))))))))))))
end
section
variable (p0_:Af) (p1_:Int) (p2_:Aa) (r125:(List (List Aa))) (r126:(List Aa)) (k_16:Int)
def Jfb:St:=⟨(0,.agg [.d (.int .i64 p0_.W),.d (.int .i64 p0_.H),.d (.int .i64 p0_.Gap),.d (.sl (p0_.F.map As))])::(1,.d (.int .i64 p1_))::(2,.agg [.d (.int .i64 p2_.X),.d (.int .i64 p2_.Y)])::[],[]⟩
def Jfc:St:=⟨(1,.d (.int .i64 p1_))::(3,.ptr 0 0)::(7,.d (.sl (r125.map (eL Ac))))::(8,.d (.sl (r126.map Ac)))::(9,.d (.int .i64 k_16))::[],[some (.box (AH p0_))]⟩
def Jfd:St:=⟨(1,.d (.int .i64 p1_))::(3,.ptr 0 0)::(7,.d (.sl (r125.map (eL Ac))))::(8,.d (.sl (r126.map Ac)))::[],[some (.box (AH p0_))]⟩
def Sb:(Unit⊕Bool)->Ex->St->Prop:=xS (xX 0 0 (λ (y:Unit)=>Jfd p0_ p1_ r125 r126)) (xR ty Tryz.f109 (λ (y:Bool)=>.d (.bool y)))
def KZ:Int->St:=(λ (x:Int)=>Jfc p0_ p1_ r125 r126 x)
variable {p0_ p1_ p2_ r125 r126 k_16}
theorem JW (x:Int) (z:(Int⊕(Unit⊕Bool))) (H:GD n p0_ p1_ r125 r126 x=some z):WP (cxk 76 0) (Aw Tryz.f109) [1,1,1,0,1,0,0] (Au 0 (KZ p0_ p1_ r125 r126) (Sb p0_ p1_ r125 r126) z) (KZ p0_ p1_ r125 r126 x):=by
 revert H
 generalize x=k_16
 intro H
 refine sq (sr (ck 2 (sp (Av (eL Ac) r125) (ck 1 (en (cn H (λ H=>?_) (λ H=>?_)))))))
 ·refine sk (qz (sq (bk 1 (sr (ck 3 (bx H λ x86 h330 H=>sp (Ak (eL Ac) h330) (ck 1 (bx H λ r127 h331 H=>ca false (Cb h331) (ck 3 (en (cn H (λ H=>?_) (λ H=>?_))))))))))))
  ·exact sr (ck 1 (en (re (qR (qr (by cases H;exact ro rfl rd))))))
  ·exact sk (qN (qz (rz (ck 3 (ae (by cases H;exact og (sg [1,3,7,8,9])))))))
 ·exact ex 0 (qx (by cases H;exact xo rfl (sg [1,3,7,8])))
theorem UE {z} (H:OJ n p0_ p1_ p2_=some z):Aq Tryz.prog 109 [.agg (AH p0_),.d (.int .i64 p1_),.agg [.d (.int .i64 p2_.X),.d (.int .i64 p2_.Y)]] (.d (.bool z)):=by
 refine fO 76 (Jfb p0_ p1_ p2_) Tryz.func109 (sr (ck 3 (en (sq (sr (ck 5 (gc 2 (!(decide (p2_.X<0))) (pO (ck 2 (gc 2 (!((decide (p2_.X<0))||(decide (p2_.Y<0)))) (pO (ck 2 (gc 2 (!(((decide (p2_.X<0))||(decide (p2_.Y<0)))||(decide (p2_.X>60)))) (pO (ck 2 (gc 3 (!((((decide (p2_.X<0))||(decide (p2_.Y<0)))||(decide (p2_.X>60)))||(decide (p2_.Y>60)))) (ck 1 (gc 2 (!((((decide (p2_.X<0))||(decide (p2_.Y<0)))||(decide (p2_.X>60)))||(decide (p2_.Y>60)))) (pO (ck 2 (gc 3 (!(((((decide (p2_.X<0))||(decide (p2_.Y<0)))||(decide (p2_.X>60)))||(decide (p2_.Y>60)))||(decide (BV .i64 2 (Ai .i64 p2_.X 2)>p0_.W)))) (ck 1 (gc 2 (!(((((decide (p2_.X<0))||(decide (p2_.Y<0)))||(decide (p2_.X>60)))||(decide (p2_.Y>60)))||(decide (BV .i64 2 (Ai .i64 p2_.X 2)>p0_.W)))) (pO (en (cn H (λ H=>?_) (λ H=>?_)))))))))))))))))))))))))))
 ·exact sr (ck 1 (en (re (qr (by cases H;exact pr rd)))))
 ·refine sk (qz (sr (ck 1 (bx H λ r125 h328 H=>ca false (G9 h328) (ck 2 (bx H λ r126 h329 H=>ca false (Df h329) (ck 2 (en (sq (sr (ck 1 (en (bk 0 (bx H λ y106 h332 H=>?_))))))))))))))
  rcases y106 with y107|y108
  ·exact lX JW h332 (sg [1,3,7,8,9]) rfl λ s hE81=>qH (qs (hE81) (sr (ck 3 (bx H λ x87 h333 H=>sp (Ak (eL Ac) h333) (ck 1 (bx H λ r128 h334 H=>ca false (Cb h334) (ck 5 (en (re (by cases H;exact pr rd))))))))))
  ·exact lR JW h332 (sg [1,3,7,8,9]) rfl λ s hE82=>qR (qr (by cases H;exact pr hE82))
end
section
variable (p0_:Af) (p1_:Int) (out_48:(List Aa)) (y_3:Int) (out_49:(List Aa)) (out_50:(List Aa)) (x_17:Int) (out_51:(List Aa)) (out_52:(List Aa))
def JiM:St:=⟨(0,.agg [.d (.int .i64 p0_.W),.d (.int .i64 p0_.H),.d (.int .i64 p0_.Gap),.d (.sl (p0_.F.map As))])::(1,.d (.int .i64 p1_))::[],[]⟩
def JiN:St:=⟨(1,.d (.int .i64 p1_))::(2,.ptr 0 0)::(5,.osl 1 2 0 (out_48.length))::(6,.d (.int .i64 y_3))::[],[some (.box (AH p0_)),some (.arr 2 (out_48.map Ac))]⟩
def JiO:St:=⟨(5,.osl 0 2 0 (out_49.length))::[],[some (.arr 2 (out_49.map Ac))]⟩
def JiP:St:=⟨(1,.d (.int .i64 p1_))::(2,.ptr 0 0)::(5,.osl 1 2 0 (out_50.length))::(6,.d (.int .i64 y_3))::(7,.d (.int .i64 x_17))::[],[some (.box (AH p0_)),some (.arr 2 (out_50.map Ac))]⟩
def JiQ:St:=⟨(1,.d (.int .i64 p1_))::(2,.ptr 0 0)::(5,.osl 1 2 0 (out_51.length))::(6,.d (.int .i64 y_3))::[],[some (.box (AH p0_)),some (.arr 2 (out_51.map Ac))]⟩
def JiR:St:=⟨(1,.d (.int .i64 p1_))::(2,.ptr 0 0)::(5,.osl 1 2 0 (out_52.length))::(6,.d (.int .i64 y_3))::(7,.d (.int .i64 x_17))::[],[some (.box (AH p0_)),some (.arr 2 (out_52.map Ac))]⟩
def K0:(List Aa)->Ex->St->Prop:=xX 0 2 (λ (y:(List Aa))=>JiQ p0_ p1_ y_3 y)
def FS:((List Aa)×Int)->St:=(λ (x:((List Aa)×Int))=>JiP p0_ p1_ y_3 x.1 x.2)
def K1:(List Aa)->Ex->St->Prop:=xX 0 0 (λ (y:(List Aa))=>JiO y)
def FT:((List Aa)×Int)->St:=(λ (x:((List Aa)×Int))=>JiN p0_ p1_ x.1 x.2)
variable {p0_ p1_ out_48 y_3 out_49 out_50 x_17 out_51 out_52}
theorem J7 (x:((List Aa)×Int)) (z:(((List Aa)×Int)⊕(List Aa))) (H:D1 n p0_ p1_ y_3 x.1 x.2=some z):WP (cxk 38 0) (Aw Tryz.f97) [1,1,0,1,0,0,1,0,0,1,0,0] (Au 0 (FS p0_ p1_ y_3) (K0 p0_ p1_ y_3) z) (FS p0_ p1_ y_3 x):=by
 obtain ⟨out_50,x_17⟩:=x
 refine sq (sr (ck 6 (en (cn H (λ H=>?_) (λ H=>?_)))))
 ·refine sk (qz (sj (λ (x:(List Aa))=>JiR p0_ p1_ y_3 x_17 x) (λ (x:(List Aa))=>D0 n x_17 x) z ?_ (λ hFR15_Candidates_J1=>?_)))
  ·intro out_52 H
   exact rz (ck 3 (ae (by cases H;exact og (sg [1,2,5,6,7]))))
  refine bk 3 (sr (ck 5 (en (sr (ck 3 (bx H λ r129 h335 H=>ca false (UE h335) (en (cn H (λ H=>?_) (λ H=>?_)))))))))
  ·exact rz (ck 3 (bx H λ l38 h336 H=>sp (A3 Ac 1 2 h336) (ck 1 (ae (qN (qs (sg [1,2,5,6,7]) (hFR15_Candidates_J1 l38 H)))))))
  ·exact sk (qN (qs (sg [1,2,5,6,7]) (hFR15_Candidates_J1 out_50 H)))
 ·exact ex 2 (qx (by cases H;exact xo rfl (sg [1,2,5,6])))
theorem J8 (x:((List Aa)×Int)) (z:(((List Aa)×Int)⊕(List Aa))) (H:D2 n p0_ p1_ x.1 x.2=some z):WP (cxk 38 0) (Aw Tryz.f97) [1,1,0,1,0,0] (Au 0 (FT p0_ p1_) (K1) z) (FT p0_ p1_ x):=by
 obtain ⟨out_48,y_3⟩:=x
 refine sq (sr (ck 6 (en (cn H (λ H=>?_) (λ H=>?_)))))
 ·exact sk (qz (sq (bk 1 (sr (ck 1 (en (bk 2 (bx H λ y109 h337 H=>lX J7 h337 (sg [1,2,5,6,7]) rfl λ s hE83=>qH (qN (qs (hE83) (rz (ck 3 (ae (by cases H;exact og (sg [1,2,5,6])))))))))))))))
 ·exact ex 0 (qx (by cases H;exact xo rfl (sg [5])))
theorem MR {z} (H:F5 n p0_ p1_=some z):Aq Tryz.prog 97 [.agg (AH p0_),.d (.int .i64 p1_)] (.own 2 (z.map Ac)):=by
 exact fO 38 (JiM p0_ p1_) Tryz.func97 (sr (ck 2 (en (sr (ck 2 (en (sq (sr (ck 1 (en (bk 0 (bx H λ y110 h338 H=>lX J8 h338 (sg [1,2,5,6]) rfl λ s hE84=>qH (qs (hE84) (sr (ck 2 (en (re (by cases H;exact pr (rO (v:=.osl 0 2 0 (z.length)) [0] (ao vo))))))))))))))))))))
end
section
variable (p0_:Af) (o0_:(List Aa)) (o1_:(List (List Aa))) (x_23:(List Aa)) (n_4:Int) (free_5:Bool) (k_19:Int) (free_6:Bool) (rec98k1_:(Af->(List Aa)->(List (List Aa))->Option (List Aa)))
def JbR:St:=⟨(0,.agg [.d (.int .i64 p0_.W),.d (.int .i64 p0_.H),.d (.int .i64 p0_.Gap),.d (.sl (p0_.F.map As))])::(1,.osl 0 2 0 (o0_.length))::(2,.osl 1 1 0 (o1_.length))::[],[some (.arr 2 (o0_.map Ac)),some (.arr 1 (o1_.map (eL Ac)))]⟩
def Sc:St:=⟨(6,.osl 2 2 0 (x_23.length))::[],[none,some (.arr 1 (o1_.map (eL Ac))),some (.arr 2 (x_23.map Ac))]⟩
def JbS:St:=⟨(1,.osl 0 2 0 (o0_.length))::(2,.osl 1 1 0 (o1_.length))::(3,.ptr 2 0)::(7,.d (.int .i64 ((o0_.length:Nat):Int)))::(8,.d (.int .i64 n_4))::[],[some (.arr 2 (o0_.map Ac)),some (.arr 1 (o1_.map (eL Ac))),some (.box (AH p0_))]⟩
def JbT:St:=⟨[],[some (.arr 2 (o0_.map Ac)),some (.arr 1 (o1_.map (eL Ac)))]⟩
def JbU:St:=⟨(1,.osl 0 2 0 (o0_.length))::(2,.osl 1 1 0 (o1_.length))::(3,.ptr 2 0)::(7,.d (.int .i64 ((o0_.length:Nat):Int)))::(8,.d (.int .i64 n_4))::[],[some (.arr 2 (o0_.map Ac)),some (.arr 1 (o1_.map (eL Ac))),some (.box (AH p0_))]⟩
def JbV:St:=⟨(1,.osl 0 2 0 (o0_.length))::(2,.osl 1 1 0 (o1_.length))::(3,.ptr 2 0)::(7,.d (.int .i64 ((o0_.length:Nat):Int)))::(8,.d (.int .i64 n_4))::(9,.d (.bool free_5))::(10,.d (.int .i64 k_19))::[],[some (.arr 2 (o0_.map Ac)),some (.arr 1 (o1_.map (eL Ac))),some (.box (AH p0_))]⟩
def JbW:St:=⟨(1,.osl 0 2 0 (o0_.length))::(2,.osl 1 1 0 (o1_.length))::(3,.ptr 2 0)::(7,.d (.int .i64 ((o0_.length:Nat):Int)))::(8,.d (.int .i64 n_4))::(9,.d (.bool free_6))::[],[some (.arr 2 (o0_.map Ac)),some (.arr 1 (o1_.map (eL Ac))),some (.box (AH p0_))]⟩
def MS:Bool->Ex->St->Prop:=xX 2 2 (λ (y:Bool)=>JbW p0_ o0_ o1_ n_4 y)
def Hg:(Bool×Int)->St:=(λ (x:(Bool×Int))=>JbV p0_ o0_ o1_ n_4 x.1 x.2)
def MT:(Unit⊕(List Aa))->Ex->St->Prop:=xS (xX 2 0 (λ (y:Unit)=>JbT o0_ o1_)) (xL 2 ty Tryz.f98 (λ (y:(List Aa))=>.osl 2 2 0 (y.length)) (λ (y:(List Aa))=>[none,some (.arr 1 (o1_.map (eL Ac))),some (.arr 2 (y.map Ac))]))
def Hh:Int->St:=(λ (x:Int)=>JbS p0_ o0_ o1_ x)
variable {p0_ o0_ o1_ x_23 n_4 free_5 k_19 free_6 rec98k1_}
theorem LP (x:(Bool×Int)) (z:((Bool×Int)⊕Bool)) (H:B9 n p0_ o0_ o1_ n_4 x.1 x.2=some z):WP (cxk 80 2) (Aw Tryz.f98) [1,1,1,0,1,0,0,1,0,0,1,0,1,0,0] (Au 2 (Hg p0_ o0_ o1_ n_4) (MS p0_ o0_ o1_ n_4) z) (Hg p0_ o0_ o1_ n_4 x):=by
 obtain ⟨free_5,k_19⟩:=x
 refine sq (sr (ck 3 (en (cn H (λ H=>?_) (λ H=>?_)))))
 ·exact sk (qz (sq (bk 3 (rz (ck 5 (bx H λ x101 h368 H=>sE (λ hg=>Bl 1 1 (Ba h368 hg)) (sE (g:=free_5) (λ hg=>B3 (eL Ac) 1 0 (ty 120) (Ba h368 hg)) (ck 1 (bx H λ x102 h369 H=>sE (λ hg=>Ak Ac (Ba h369 hg)) (gc 1 free_5 (bx H λ r138 h370 H=>cG false (leZ) rfl (λ hg=>Df (Ba h370 hg)) (Or.inl rfl) (BW (λ hh=>hh) (BW (λ hh=>hh) (C9))) rfl (ck 3 (bx H λ x103 h371 H=>sE (λ hg=>Bl 0 2 (Ba h371 hg)) (sE (g:=free_5) (λ hg=>B3 Ac 0 0 (ty 124) (Ba h371 hg)) (bx H λ r139 h372 H=>cG false (leZ) rfl (λ hg=>Df (Ba h372 hg)) (Or.inl rfl) (BW (λ hh=>hh) (BW (λ hh=>hh) (C9))) rfl (bx H λ r140 h373 H=>cG false (leZ) rfl (λ hg=>Cb (Ba h373 hg)) (Or.inl rfl) (BW (λ hh=>hh) (BW (λ hh=>hh) (C9))) rfl (ck 1 (gc 2 free_5 (pA (ck 1 (ae (qN (qz (rz (ck 3 (ae (by cases H;exact og (sg [1,2,3,7,8,9,10]))))))))))))))))))))))))))))
 ·exact ex 2 (qx (by cases H;exact xo rfl (sg [1,2,3,7,8,9])))
theorem Gg (hrec98k1_:∀ {p0_:Af} {o0_:(List Aa)} {o1_:(List (List Aa))} {z:(List Aa)},rec98k1_ p0_ o0_ o1_=some z->BM Tryz.prog 98 [.agg (AH p0_),.osl 0 2 0 (o0_.length),.osl 1 1 0 (o1_.length)] [some (.arr 2 (o0_.map Ac)),some (.arr 1 (o1_.map (eL Ac)))] 2 (.osl 2 2 0 (z.length)) [none,some (.arr 1 (o1_.map (eL Ac))),some (.arr 2 (z.map Ac))]) (x:Int) (z:(Int⊕(Unit⊕(List Aa)))) (H:BN n rec98k1_ p0_ o0_ o1_ x=some z):WP (cxk 80 2) (Aw Tryz.f98) [1,1,1,0,1,0,0] (Au 2 (Hh p0_ o0_ o1_) (MT o0_ o1_) z) (Hh p0_ o0_ o1_ x):=by
 revert H
 generalize x=n_4
 intro H
 refine sq (sr (ck 3 (bx H λ x100 h367 H=>sp (Bl 1 1 h367) (sp (B3 (eL Ac) 1 0 (ty 120) h367) (sp (Av Ac x100) (ck 1 (en (cn H (λ H=>?_) (λ H=>?_)))))))))
 ·refine sk (qz (sj (λ (x:Unit)=>JbU p0_ o0_ o1_ n_4) (λ (x:Unit)=>CG n n_4) z ?_ (λ hFR15_searchxx_J1=>?_)))
  ·intro _ H
   exact rz (ck 3 (ae (by cases H;exact og (sg [1,2,3,7,8]))))
  refine bk 1 (sr (ck 1 (en (sq (sr (ck 1 (en (bk 2 (bx H λ y119 h374 H=>lX LP h374 (sg [1,2,3,7,8,9,10]) rfl λ s hE91=>qH (qs (hE91) (sq (sr (ck 2 (en (cn H (λ H=>?_) (λ H=>?_))))))))))))))))
  ·exact ex 1 (qx (qH (qs (sg [1,2,3,7,8]) (hFR15_searchxx_J1 () H))))
  ·refine sk (qz (sr (ck 2 (bx H λ l43 h375 H=>sp (A3 Ac 3 2 h375) (ck 1 (en (sq (ry 12 (.refl _) (ck 4 (bx H λ x104 h376 H=>sp (Bl 1 1 h376) (sp (B3 (eL Ac) 1 0 (ty 120) h376) (ck 1 (bx H λ x105 h377 H=>sp (Ak Ac h377) (ck 2 (bx H λ l44 h378 H=>sp (A3 Ac 4 2 h378) (ck 1 (my (bx H λ r141 h379 H=>lt [6,1] (hrec98k1_ h379) (nx 14 13 (mx (ck 1 (nz (qz (sr (ck 5 (en (cn H (λ H=>?_) (λ H=>?_))))))))))))))))))))))))))))
   ·exact sr (ck 2 (en (re (qR (qr (by cases H;exact lo rfl (rl (s':=Sc o1_ r141) (tr (Uj 0 rfl) (sg [6])))))))))
   ·exact sk (qN (qs (sg [1,2,3,7,8]) (hFR15_searchxx_J1 () H)))
 ·exact ex 0 (qx (by cases H;exact xo rfl (sg [])))
theorem MU {z} (hrec98k1_:∀ {p0_:Af} {o0_:(List Aa)} {o1_:(List (List Aa))} {z:(List Aa)},rec98k1_ p0_ o0_ o1_=some z->BM Tryz.prog 98 [.agg (AH p0_),.osl 0 2 0 (o0_.length),.osl 1 1 0 (o1_.length)] [some (.arr 2 (o0_.map Ac)),some (.arr 1 (o1_.map (eL Ac)))] 2 (.osl 2 2 0 (z.length)) [none,some (.arr 1 (o1_.map (eL Ac))),some (.arr 2 (z.map Ac))]) (H:A7 n rec98k1_ p0_ o0_ o1_=some z):BM Tryz.prog 98 [.agg (AH p0_),.osl 0 2 0 (o0_.length),.osl 1 1 0 (o1_.length)] [some (.arr 2 (o0_.map Ac)),some (.arr 1 (o1_.map (eL Ac)))] 2 (.osl 2 2 0 (z.length)) [none,some (.arr 1 (o1_.map (eL Ac))),some (.arr 2 (z.map Ac))]:=by
 refine fL 80 2 (JbR p0_ o0_ o1_) Tryz.func98 (sr (ck 2 (en (sr (ck 3 (en (sq (sr (ck 4 (en (cn H (λ H=>?_) (λ H=>?_))))))))))))
 ·exact sr (ck 2 (en (re (qr (by cases H;exact pL (rl (s':=Sc o1_ o0_) (tr (XB (k:=0) (sz:=2) 6 (o0_.map Ac) (o0_.length) (by kernel_rfl) FM leM rfl) (sg [6]))))))))
 ·refine sk (qz (sq (sr (ck 1 (en (bk 0 (bx H λ y120 h380 H=>?_)))))))
  rcases y120 with y121|y122
  ·exact lX (Gg hrec98k1_) h380 (sg [1,2,3,7,8]) rfl λ s hE92=>qH (qs (hE92) (sr (ck 1 (en (re (by cases H;exact pL (rl (s':=Sc o1_ ([]:List Aa)) (tr (tr (AR.nilo 6 2 (by kernel_rfl)) (Uj 0 rfl)) (sg [6])))))))))
  ·exact lL (Gg hrec98k1_) h380 (sg [1,2,3,7,8]) rfl λ s hE93=>qR (qr (by cases H;exact pL hE93))
end
section
variable (p0_:Af) (o0_:(List Aa)) (o1_:(List (List Aa)))
variable {p0_ o0_ o1_}
theorem Pb {z} (H:Ib n p0_ o0_ o1_=some z):BM Tryz.prog 98 [.agg (AH p0_),.osl 0 2 0 (o0_.length),.osl 1 1 0 (o1_.length)] [some (.arr 2 (o0_.map Ac)),some (.arr 1 (o1_.map (eL Ac)))] 2 (.osl 2 2 0 (z.length)) [none,some (.arr 1 (o1_.map (eL Ac))),some (.arr 2 (z.map Ac))]:=by
  have key:∀ (d:Nat) {p0_:Af} {o0_:(List Aa)} {o1_:(List (List Aa))} {z:(List Aa)},J3 (λ _ _ _=>none) (A7 n) d p0_ o0_ o1_=some z->BM Tryz.prog 98 [.agg (AH p0_),.osl 0 2 0 (o0_.length),.osl 1 1 0 (o1_.length)] [some (.arr 2 (o0_.map Ac)),some (.arr 1 (o1_.map (eL Ac)))] 2 (.osl 2 2 0 (z.length)) [none,some (.arr 1 (o1_.map (eL Ac))),some (.arr 2 (z.map Ac))]:=by
    intro d
    induction d with
    | zero=>intro _ _ _ _ H;cases H
    | succ d ih=>intro _ _ _ _ H;exact MU (λ h=>ih h) H
  exact key n H
end
section
variable (p0_:Af) (o0_:(List (List Aa))) (x_26:(List Aa)) (n_5:Int) (free_7:Bool) (k_20:Int) (free_8:Bool) (rec98k2_:(Af->(List (List Aa))->Option (List Aa)))
def JbX:St:=⟨(0,.agg [.d (.int .i64 p0_.W),.d (.int .i64 p0_.H),.d (.int .i64 p0_.Gap),.d (.sl (p0_.F.map As))])::(1,.d (.nil))::(2,.osl 0 1 0 (o0_.length))::[],[some (.arr 1 (o0_.map (eL Ac)))]⟩
def Sd:St:=⟨(6,.osl 1 2 0 (x_26.length))::[],[some (.arr 1 (o0_.map (eL Ac))),some (.arr 2 (x_26.map Ac))]⟩
def JbY:St:=⟨(1,.osl 1 2 0 (List.length ([]:List Aa)))::(2,.osl 0 1 0 (o0_.length))::(3,.ptr 2 0)::(7,.d (.int .i64 0))::(8,.d (.int .i64 n_5))::[],[some (.arr 1 (o0_.map (eL Ac))),some (.arr 2 (List.map Ac ([]:List Aa))),some (.box (AH p0_))]⟩
def JbZ:St:=⟨[],[some (.arr 1 (o0_.map (eL Ac)))]⟩
def Jb0:St:=⟨(1,.osl 1 2 0 (List.length ([]:List Aa)))::(2,.osl 0 1 0 (o0_.length))::(3,.ptr 2 0)::(7,.d (.int .i64 0))::(8,.d (.int .i64 n_5))::[],[some (.arr 1 (o0_.map (eL Ac))),some (.arr 2 (List.map Ac ([]:List Aa))),some (.box (AH p0_))]⟩
def Jb1:St:=⟨(1,.osl 1 2 0 (List.length ([]:List Aa)))::(2,.osl 0 1 0 (o0_.length))::(3,.ptr 2 0)::(7,.d (.int .i64 0))::(8,.d (.int .i64 n_5))::(9,.d (.bool free_7))::(10,.d (.int .i64 k_20))::[],[some (.arr 1 (o0_.map (eL Ac))),some (.arr 2 (List.map Ac ([]:List Aa))),some (.box (AH p0_))]⟩
def Jb2:St:=⟨(1,.osl 1 2 0 (List.length ([]:List Aa)))::(2,.osl 0 1 0 (o0_.length))::(3,.ptr 2 0)::(7,.d (.int .i64 0))::(8,.d (.int .i64 n_5))::(9,.d (.bool free_8))::[],[some (.arr 1 (o0_.map (eL Ac))),some (.arr 2 (List.map Ac ([]:List Aa))),some (.box (AH p0_))]⟩
def LQ:Bool->Ex->St->Prop:=xX 1 2 (λ (y:Bool)=>Jb2 p0_ o0_ n_5 y)
def Gh:(Bool×Int)->St:=(λ (x:(Bool×Int))=>Jb1 p0_ o0_ n_5 x.1 x.2)
def LR:(Unit⊕(List Aa))->Ex->St->Prop:=xS (xX 1 0 (λ (y:Unit)=>JbZ o0_)) (xL 1 ty Tryz.f98 (λ (y:(List Aa))=>.osl 1 2 0 (y.length)) (λ (y:(List Aa))=>[some (.arr 1 (o0_.map (eL Ac))),some (.arr 2 (y.map Ac))]))
def Gi:Int->St:=(λ (x:Int)=>JbY p0_ o0_ x)
variable {p0_ o0_ x_26 n_5 free_7 k_20 free_8 rec98k2_}
theorem K2 (x:(Bool×Int)) (z:((Bool×Int)⊕Bool)) (H:EF n p0_ o0_ n_5 x.1 x.2=some z):WP (cxk 80 1) (Aw Tryz.f98) [1,1,1,0,1,0,0,1,0,0,1,0,1,0,0] (Au 1 (Gh p0_ o0_ n_5) (LQ p0_ o0_ n_5) z) (Gh p0_ o0_ n_5 x):=by
 obtain ⟨free_7,k_20⟩:=x
 refine sq (sr (ck 3 (en (cn H (λ H=>?_) (λ H=>?_)))))
 ·exact sk (qz (sq (bk 3 (rz (ck 5 (bx H λ x107 h382 H=>sE (λ hg=>Bl 0 1 (Ba h382 hg)) (sE (g:=free_7) (λ hg=>B3 (eL Ac) 0 0 (ty 120) (Ba h382 hg)) (ck 1 (bx H λ x108 h383 H=>sE (λ hg=>Ak Ac (Ba h383 hg)) (gc 1 free_7 (bx H λ r142 h384 H=>cG false (leZ) rfl (λ hg=>Df (Ba h384 hg)) (Or.inl rfl) (BW (λ hh=>hh) (BW (λ hh=>hh) (C9))) rfl (ck 3 (bx H λ x109 h385 H=>sE (λ hg=>Bl 1 2 (Ba h385 hg)) (sE (g:=free_7) (λ hg=>B3 Ac 1 0 (ty 124) (Ba h385 hg)) (bx H λ r143 h386 H=>cG false (leZ) rfl (λ hg=>Df (Ba h386 hg)) (Or.inl rfl) (BW (λ hh=>hh) (BW (λ hh=>hh) (C9))) rfl (bx H λ r144 h387 H=>cG false (leZ) rfl (λ hg=>Cb (Ba h387 hg)) (Or.inl rfl) (BW (λ hh=>hh) (BW (λ hh=>hh) (C9))) rfl (ck 1 (gc 2 free_7 (pA (ck 1 (ae (qN (qz (rz (ck 3 (ae (by cases H;exact og (sg [1,2,3,7,8,9,10]))))))))))))))))))))))))))))
 ·exact ex 2 (qx (by cases H;exact xo rfl (sg [1,2,3,7,8,9])))
theorem FU (x:Int) (z:(Int⊕(Unit⊕(List Aa)))) (H:C7 n p0_ o0_ x=some z):WP (cxk 80 1) (Aw Tryz.f98) [1,1,1,0,1,0,0] (Au 1 (Gi p0_ o0_) (LR o0_) z) (Gi p0_ o0_ x):=by
 revert H
 generalize x=n_5
 intro H
 refine sq (sr (ck 3 (bx H λ x106 h381 H=>sp (Bl 0 1 h381) (sp (B3 (eL Ac) 0 0 (ty 120) h381) (sp (Av Ac x106) (ck 1 (en (cn H (λ H=>?_) (λ H=>?_)))))))))
 ·refine sk (qz (sj (λ (x:Unit)=>Jb0 p0_ o0_ n_5) (λ (x:Unit)=>EE n n_5) z ?_ (λ hFR15_searchxxx_J1=>?_)))
  ·intro _ H
   exact rz (ck 3 (ae (by cases H;exact og (sg [1,2,3,7,8]))))
  refine bk 1 (sr (ck 1 (en (sq (sr (ck 1 (en (bk 2 (bx H λ y123 h388 H=>lX K2 h388 (sg [1,2,3,7,8,9,10]) rfl λ s hE94=>qH (qs (hE94) (sq (sr (ck 2 (en (cn H (λ H=>?_) (λ H=>?_))))))))))))))))
  ·exact ex 1 (qx (qH (qs (sg [1,2,3,7,8]) (hFR15_searchxxx_J1 () H))))
  ·refine sk (qz (sr (ck 2 (bx H λ l45 h389 H=>sp (A3 Ac 3 2 h389) (ck 1 (en (sq (ry 12 (.refl _) (ck 4 (bx H λ x110 h390 H=>sp (Bl 0 1 h390) (sp (B3 (eL Ac) 0 0 (ty 120) h390) (ck 1 (bx H λ x111 h391 H=>sp (Ak Ac h391) (ck 2 (bx H λ l46 h392 H=>sp (A3 Ac 4 2 h392) (ck 1 (my (bx H λ r145 h393 H=>lt [6,0] (Pb h393) (nx 14 13 (mx (ck 1 (nz (qz (sr (ck 5 (en (cn H (λ H=>?_) (λ H=>?_))))))))))))))))))))))))))))
   ·exact sr (ck 2 (en (re (qR (qr (by cases H;exact lo rfl (rl (s':=Sd o0_ r145) (sg [6]))))))))
   ·exact sk (qN (qs (sg [1,2,3,7,8]) (hFR15_searchxxx_J1 () H)))
 ·exact ex 0 (qx (by cases H;exact xo rfl (sg [])))
theorem LS {z} (hrec98k2_:∀ {p0_:Af} {o0_:(List (List Aa))} {z:(List Aa)},rec98k2_ p0_ o0_=some z->BM Tryz.prog 98 [.agg (AH p0_),.d (.nil),.osl 0 1 0 (o0_.length)] [some (.arr 1 (o0_.map (eL Ac)))] 1 (.osl 1 2 0 (z.length)) [some (.arr 1 (o0_.map (eL Ac))),some (.arr 2 (z.map Ac))]) (H:Ca n rec98k2_ p0_ o0_=some z):BM Tryz.prog 98 [.agg (AH p0_),.d (.nil),.osl 0 1 0 (o0_.length)] [some (.arr 1 (o0_.map (eL Ac)))] 1 (.osl 1 2 0 (z.length)) [some (.arr 1 (o0_.map (eL Ac))),some (.arr 2 (z.map Ac))]:=by
 refine fL 80 1 (JbX p0_ o0_) Tryz.func98 (sr (ck 2 (en (sr (ck 3 (en (sq (sr (ck 4 (en (cn H (λ H=>?_) (λ H=>?_))))))))))))
 ·exact sr (ck 2 (en (re (qr (by cases H;exact pL (rl (s':=Sd o0_ ([]:List Aa)) (tr (AR.nilo 6 2 (by kernel_rfl)) (sg [6]))))))))
 ·refine sk (qz (sq (sr (ck 1 (en (bk 0 (bx H λ y124 h394 H=>?_)))))))
  rcases y124 with y125|y126
  ·exact lX FU h394 (tr (AR.nilo 1 2 (by kernel_rfl)) (sg [1,2,3,7,8])) rfl λ s hE95=>qH (qs (hE95) (sr (ck 1 (en (re (by cases H;exact pL (rl (s':=Sd o0_ ([]:List Aa)) (tr (AR.nilo 6 2 (by kernel_rfl)) (sg [6])))))))))
  ·exact lL FU h394 (tr (AR.nilo 1 2 (by kernel_rfl)) (sg [1,2,3,7,8])) rfl λ s hE96=>qR (qr (by cases H;exact pL hE96))
end
section
variable (p0_:Af) (o0_:(List (List Aa)))
variable {p0_ o0_}
theorem NV {z} (H:G5 n p0_ o0_=some z):BM Tryz.prog 98 [.agg (AH p0_),.d (.nil),.osl 0 1 0 (o0_.length)] [some (.arr 1 (o0_.map (eL Ac)))] 1 (.osl 1 2 0 (z.length)) [some (.arr 1 (o0_.map (eL Ac))),some (.arr 2 (z.map Ac))]:=by
  have key:∀ (d:Nat) {p0_:Af} {o0_:(List (List Aa))} {z:(List Aa)},J3 (λ _ _=>none) (Ca n) d p0_ o0_=some z->BM Tryz.prog 98 [.agg (AH p0_),.d (.nil),.osl 0 1 0 (o0_.length)] [some (.arr 1 (o0_.map (eL Ac)))] 1 (.osl 1 2 0 (z.length)) [some (.arr 1 (o0_.map (eL Ac))),some (.arr 2 (z.map Ac))]:=by
    intro d
    induction d with
    | zero=>intro _ _ _ H;cases H
    | succ d ih=>intro _ _ _ H;exact LS (λ h=>ih h) H
  exact key n H
end
section
variable (p0_:Af) (all_1:(List (List Aa))) (best_1:(List Aa)) (i_29:Int) (best_2:(List Aa))
def JiS:St:=⟨(0,.agg [.d (.int .i64 p0_.W),.d (.int .i64 p0_.H),.d (.int .i64 p0_.Gap),.d (.sl (p0_.F.map As))])::[],[]⟩
def JiT:St:=⟨(1,.ptr 0 0)::(2,.ptr 1 0)::(3,.osl 2 1 0 (all_1.length))::(4,.osl 3 2 0 (best_1.length))::(5,.d (.int .i64 i_29))::[],[some (.box (AH p0_)),some (.box [.osl 4 2 0 (List.length ([]:List Aa)),.d (.int .i64 0),.d (.int .i64 0)]),some (.arr 1 (all_1.map (eL Ac))),some (.arr 2 (best_1.map Ac)),some (.arr 2 (List.map Ac ([]:List Aa)))]⟩
def JiU:St:=⟨(2,.ptr 0 0)::(4,.osl 1 2 0 (best_2.length))::[],[some (.box [.osl 2 2 0 (List.length ([]:List Aa)),.d (.int .i64 0),.d (.int .i64 0)]),some (.arr 2 (best_2.map Ac)),some (.arr 2 (List.map Ac ([]:List Aa)))]⟩
def Qj:((List Aa)⊕Jl)->Ex->St->Prop:=xS (xX 0 0 (λ (y:(List Aa))=>JiU y)) (xR ty Tryz.f84 (λ (y:Jl)=>.agg [.own 2 (y.L.map Ac),.d (.int .i64 y.At),.d (.int .i64 y.E)]))
def JX:((List (List Aa))×(List Aa)×Int)->St:=(λ (x:((List (List Aa))×(List Aa)×Int))=>JiT p0_ x.1 x.2.1 x.2.2)
variable {p0_ all_1 best_1 i_29 best_2}
theorem IY (x:((List (List Aa))×(List Aa)×Int)) (z:(((List (List Aa))×(List Aa)×Int)⊕((List Aa)⊕Jl))) (H:Fy n p0_ x.1 x.2.1 x.2.2=some z):WP (cxk 36 0) (Aw Tryz.f84) [1,1,0,1,0,0] (Au 0 (JX p0_) (Qj) z) (JX p0_ x):=by
 obtain ⟨all_1,best_1,i_29⟩:=x
 refine sq (sr (ck 3 (sp (Av As p0_.F) (ck 1 (en (cn H (λ H=>?_) (λ H=>?_)))))))
 ·refine sk (qz (sq (bk 1 (sr (ck 3 (bx H λ r146 h395 H=>ca false (MR h395) (ck 1 (bx H λ l47 h396 H=>sp (A3 (eL Ac) 2 1 h396) (ck 1 (en (sr (ck 2 (bx H λ r147 h397 H=>lt [6] (NV h397) (ck 1 (en (sq (sr (ck 4 (en (cn H (λ H=>?_) (λ H=>?_)))))))))))))))))))))
  ·exact sr (ck 3 (en (re (qr (qR (qr (by cases H;exact ro rfl (rO (v:=.agg [.d (.nil),.d (.int .i64 i_29),.d (.int .i64 150)]) [] (a1 (c1 vz (c1 vd (c1 vd (c0)))))))))))))
  ·exact sk (qz (rz (ck 2 (ae (qN (qz (rz (ck 3 (ae (by cases H;exact og (sg [1,2,3,4,5])))))))))))
 ·exact ex 0 (qx (by cases H;exact xo rfl (sg [2,4])))
theorem S1 {z} (H:MD n p0_=some z):Aq Tryz.prog 84 [.agg (AH p0_)] (.agg [.own 2 (z.L.map Ac),.d (.int .i64 z.At),.d (.int .i64 z.E)]):=by
 refine fO 36 (JiS p0_) Tryz.func84 (sr (ck 2 (en (sr (ck 4 (en (sq (sr (ck 1 (en (bk 0 (bx H λ y127 h398 H=>?_))))))))))))
 rcases y127 with y128|y129
 ·exact lX IY h398 (tr (Bz 1 0 2 (by kernel_rfl)) (sg [1,2,3,4,5])) rfl λ s hE97=>qH (qs (hE97) (sr (ck 5 (en (re (by cases H;exact pr (rO (v:=.agg [.osl 1 2 0 (y128.length),.d (.int .i64 ((y128.length:Nat):Int)),.d (.int .i64 0)]) [1] (a1 (c1 vo (c1 vd (c1 vd (c0))))))))))))
 ·exact lR IY h398 (tr (Bz 1 0 2 (by kernel_rfl)) (sg [1,2,3,4,5])) rfl λ s hE98=>qR (qr (by cases H;exact pr hE98))
end
section
variable (p0_:Af)
def JiV:St:=⟨(0,.agg [.d (.int .i64 p0_.W),.d (.int .i64 p0_.H),.d (.int .i64 p0_.Gap),.d (.sl (p0_.F.map As))])::[],[]⟩
variable {p0_}
theorem K3 {z} (H:D9 n p0_=some z):Aq Tryz.prog 63 [.agg (AH p0_)] (.d (.bool z)):=by
 refine fO 11 (JiV p0_) Tryz.func63 (sr (ck 2 (en (sq (sr (ck 1 (bx H λ r148 h399 H=>ca false (SZ h399) (ck 2 (en (cn H (λ H=>?_) (λ H=>?_)))))))))))
 ·exact sr (ck 1 (en (re (qr (by cases H;exact pr rd)))))
 ·exact sk (qz (sr (ck 1 (bx H λ r149 h400 H=>ca false (S1 h400) (ck 3 (en (re (by cases H;exact pr rd))))))))
end
section
variable (p0_:Bd) (p1_:(List UInt8)) (r150:(List UInt8)) (out_53:Ag) (i_30:Int) (out_54:Ag) (row_3:(List (List UInt8))) (k_21:Int) (row_4:(List (List UInt8))) (x_27:Bool)
def JiW:St:=⟨(0,.agg [.d (.int .u8 p0_.Kind),.d (.int .u8 p0_.N),.d (.sl (p0_.T.map eU8)),.d (.int .u8 p0_.F.Kind),.d (.int .u8 p0_.F.N),.d (.sl (p0_.F.L.map (Bc eU8))),.d (.int .u8 p0_.P.W),.d (.int .u8 p0_.P.H),.d (.int .u8 p0_.P.Gap),.d (.sl (p0_.P.F.map (JH eU8)))])::(1,.d (.str p1_))::[],[]⟩
def JiX:St:=⟨(4,.ptr 0 0)::(5,.d (.str r150))::[],[some (.box [.d (.int .i64 0),.d (.int .i64 0),.d (.str []),.osl 1 1 0 (List.length ([]:List (List (List UInt8)))),.osl 2 2 0 (List.length ([]:List Am)),.d (.int .i64 0),.d (.int .i64 0),.d (.int .i64 0),.osl 3 3 0 (List.length ([]:List Ax)),.d (.int .i64 0)]),some (.arr 1 (List.map (eL eS) ([]:List (List (List UInt8))))),some (.arr 2 (List.map AE ([]:List Am))),some (.arr 3 (List.map As ([]:List Ax)))]⟩
def JiY:St:=⟨(1,.d (.str p1_))::(2,.ptr 0 0)::(4,.ptr 1 0)::(6,.d (.int .i64 (Ai .i64 1 (IntKind.i64.wrap (Al p0_.N 3)))))::(7,.ptr 2 0)::(8,.d (.int .i64 i_30))::[],[some (.box (IB p0_)),some (.box [.d (.int .i64 0),.d (.int .i64 0),.d (.str []),.osl 3 1 0 (List.length ([]:List (List (List UInt8)))),.osl 4 2 0 (List.length ([]:List Am)),.d (.int .i64 0),.d (.int .i64 0),.d (.int .i64 0),.osl 5 3 0 (List.length ([]:List Ax)),.d (.int .i64 0)]),some (.box (GH out_53 (.osl 6 1 0 (out_53.Rows.length)) (.osl 7 2 0 (out_53.F.length)) (.osl 8 3 0 (out_53.Pic.F.length)))),some (.arr 1 (List.map (eL eS) ([]:List (List (List UInt8))))),some (.arr 2 (List.map AE ([]:List Am))),some (.arr 3 (List.map As ([]:List Ax))),some (.arr 1 (out_53.Rows.map (eL eS))),some (.arr 2 (out_53.F.map AE)),some (.arr 3 (out_53.Pic.F.map As))]⟩
def JiZ:St:=⟨(4,.ptr 0 0)::(7,.ptr 1 0)::[],[some (.box [.d (.int .i64 0),.d (.int .i64 0),.d (.str []),.osl 2 1 0 (List.length ([]:List (List (List UInt8)))),.osl 3 2 0 (List.length ([]:List Am)),.d (.int .i64 0),.d (.int .i64 0),.d (.int .i64 0),.osl 4 3 0 (List.length ([]:List Ax)),.d (.int .i64 0)]),some (.box (GH out_54 (.osl 5 1 0 (out_54.Rows.length)) (.osl 6 2 0 (out_54.F.length)) (.osl 7 3 0 (out_54.Pic.F.length)))),some (.arr 1 (List.map (eL eS) ([]:List (List (List UInt8))))),some (.arr 2 (List.map AE ([]:List Am))),some (.arr 3 (List.map As ([]:List Ax))),some (.arr 1 (out_54.Rows.map (eL eS))),some (.arr 2 (out_54.F.map AE)),some (.arr 3 (out_54.Pic.F.map As))]⟩
def Ji0:St:=⟨(1,.d (.str p1_))::(2,.ptr 0 0)::(4,.ptr 1 0)::(6,.d (.int .i64 (Ai .i64 1 (IntKind.i64.wrap (Al p0_.N 3)))))::(7,.ptr 2 0)::(8,.d (.int .i64 i_30))::(9,.osl 3 1 0 (row_3.length))::(10,.d (.int .i64 k_21))::[],[some (.box (IB p0_)),some (.box [.d (.int .i64 0),.d (.int .i64 0),.d (.str []),.osl 4 1 0 (List.length ([]:List (List (List UInt8)))),.osl 5 2 0 (List.length ([]:List Am)),.d (.int .i64 0),.d (.int .i64 0),.d (.int .i64 0),.osl 6 3 0 (List.length ([]:List Ax)),.d (.int .i64 0)]),some (.box (GH out_53 (.osl 7 1 0 (out_53.Rows.length)) (.osl 8 2 0 (out_53.F.length)) (.osl 9 3 0 (out_53.Pic.F.length)))),some (.arr 1 (row_3.map eS)),some (.arr 1 (List.map (eL eS) ([]:List (List (List UInt8))))),some (.arr 2 (List.map AE ([]:List Am))),some (.arr 3 (List.map As ([]:List Ax))),some (.arr 1 (out_53.Rows.map (eL eS))),some (.arr 2 (out_53.F.map AE)),some (.arr 3 (out_53.Pic.F.map As))]⟩
def Ji1:St:=⟨(1,.d (.str p1_))::(2,.ptr 0 0)::(4,.ptr 1 0)::(6,.d (.int .i64 (Ai .i64 1 (IntKind.i64.wrap (Al p0_.N 3)))))::(7,.ptr 2 0)::(8,.d (.int .i64 i_30))::(9,.osl 3 1 0 (row_4.length))::[],[some (.box (IB p0_)),some (.box [.d (.int .i64 0),.d (.int .i64 0),.d (.str []),.osl 4 1 0 (List.length ([]:List (List (List UInt8)))),.osl 5 2 0 (List.length ([]:List Am)),.d (.int .i64 0),.d (.int .i64 0),.d (.int .i64 0),.osl 6 3 0 (List.length ([]:List Ax)),.d (.int .i64 0)]),some (.box (GH out_53 (.osl 7 1 0 (out_53.Rows.length)) (.osl 8 2 0 (out_53.F.length)) (.osl 9 3 0 (out_53.Pic.F.length)))),some (.arr 1 (row_4.map eS)),some (.arr 1 (List.map (eL eS) ([]:List (List (List UInt8))))),some (.arr 2 (List.map AE ([]:List Am))),some (.arr 3 (List.map As ([]:List Ax))),some (.arr 1 (out_53.Rows.map (eL eS))),some (.arr 2 (out_53.F.map AE)),some (.arr 3 (out_53.Pic.F.map As))]⟩
def Qk:(List (List UInt8))->Ex->St->Prop:=xX 0 3 (λ (y:(List (List UInt8)))=>Ji1 p0_ p1_ out_53 i_30 y)
def JY:((List (List UInt8))×Int)->St:=(λ (x:((List (List UInt8))×Int))=>Ji0 p0_ p1_ out_53 i_30 x.1 x.2)
def Ql:Ag->Ex->St->Prop:=xX 0 1 (λ (y:Ag)=>JiZ y)
def JZ:(Ag×Int)->St:=(λ (x:(Ag×Int))=>JiY p0_ p1_ x.1 x.2)
def Ji2:St:=⟨(2,.ptr 0 0)::(4,.ptr 1 0)::(5,.d (.str r150))::(19,.d (.int .u8 (Al p0_.Kind 9)))::(77,.d (.bool x_27))::[],[some (.box (IB p0_)),some (.box [.d (.int .i64 0),.d (.int .i64 0),.d (.str []),.osl 2 1 0 (List.length ([]:List (List (List UInt8)))),.osl 3 2 0 (List.length ([]:List Am)),.d (.int .i64 0),.d (.int .i64 0),.d (.int .i64 0),.osl 4 3 0 (List.length ([]:List Ax)),.d (.int .i64 0)]),some (.arr 1 (List.map (eL eS) ([]:List (List (List UInt8))))),some (.arr 2 (List.map AE ([]:List Am))),some (.arr 3 (List.map As ([]:List Ax)))]⟩
variable {p0_ p1_ r150 out_53 i_30 out_54 row_3 k_21 row_4 x_27}
theorem Pc (x:((List (List UInt8))×Int)) (z:(((List (List UInt8))×Int)⊕(List (List UInt8)))) (H:FA n p0_ p1_ out_53 i_30 x.1 x.2=some z):WP (cxk 117 0) (Aw Tryz.f44) [1,1,0,1,0,1,1,1,0,1,0,1,0,0,1,0,0,1,0,1,0,0] (Au 0 (JY p0_ p1_ out_53 i_30) (Qk p0_ p1_ out_53 i_30) z) (JY p0_ p1_ out_53 i_30 x):=by
 obtain ⟨row_3,k_21⟩:=x
 refine sq (sr (ck 3 (en (cn H (λ H=>?_) (λ H=>?_)))))
 ·exact sk (qz (sq (bk 4 (sr (ck 6 (sp (Av eU8 p0_.T) (ck 2 (en (rz (ck 4 (bx H λ l48 h402 H=>sp (JdI eU8 1 h402) (ck 1 (bx H λ r151 h403 H=>ca false (Jw h403) (ck 1 (bx H λ l49 h404 H=>sp (A3 eS 3 1 h404) (ck 1 (ae (qN (qz (rz (ck 3 (ae (by cases H;exact og (sg [1,2,4,6,7,8,9,10]))))))))))))))))))))))))
 ·exact ex 3 (qx (by cases H;exact xo rfl (sg [1,2,4,6,7,8,9])))
theorem Pd (x:(Ag×Int)) (z:((Ag×Int)⊕Ag)) (H:FB n p0_ p1_ x.1 x.2=some z):WP (cxk 117 0) (Aw Tryz.f44) [1,1,0,1,0,1,1,1,0,1,0,1,0,0] (Au 0 (JZ p0_ p1_) (Ql) z) (JZ p0_ p1_ x):=by
 obtain ⟨out_53,i_30⟩:=x
 refine sq (sr (ck 8 (en (cn H (λ H=>?_) (λ H=>?_)))))
 ·exact sk (qz (sq (bk 2 (sr (ck 2 (en (sq (sr (ck 1 (en (bk 3 (bx H λ y130 h405 H=>lX Pc h405 (sg [1,2,4,6,7,8,9,10]) rfl λ s hE99=>qH (qs (hE99) (rg (fz (enc:=eS) (xs:=y130) 9 3 1) (ck 4 (bx H λ l50 h406 H=>sp (A3 (eL eS) 7 1 h406) (ck 2 (ae (qN (qz (rz (ck 3 (ae (by cases H;exact og (sg [1,2,4,6,7,8])))))))))))))))))))))))))
 ·exact ex 1 (qx (by cases H;exact xo rfl (sg [4,7])))
theorem S2 {z} (H:ME n p0_ p1_=some z):Aq Tryz.prog 44 [.agg (IB p0_),.d (.str p1_)] (.agg [.d (.int .i64 z.Kind),.d (.int .i64 z.Level),.d (.str z.Text),.own 1 (z.Rows.map (eL eS)),.d (.sl (z.F.map AE)),.d (.int .i64 z.Pic.W),.d (.int .i64 z.Pic.H),.d (.int .i64 z.Pic.Gap),.d (.sl (z.Pic.F.map As)),.d (.int .i64 z.Page)]):=by
 refine fO 117 (JiW p0_ p1_) Tryz.func44 (sr (ck 2 (en (sr (ck 3 (bx H λ r150 h401 H=>ca false (Jw h401) (ck 1 (en (sj (λ (x:Unit)=>JiX r150) (λ (x:Unit)=>Fz n r150) z ?_ (λ hFR17_Block_J1=>?_))))))))))
 ·intro _ H
  exact sr (ck 3 (en (re (by cases H;exact pr (rO (v:=.agg [.d (.int .i64 1),.d (.int .i64 0),.d (.str r150),.d (.nil),.d (.nil),.d (.int .i64 0),.d (.int .i64 0),.d (.int .i64 0),.d (.nil),.d (.int .i64 0)]) [] (a1 (c1 vd (c1 vd (c1 vd (c1 vz (c1 vn (c1 vd (c1 vd (c1 vd (c1 vn (c1 vd (c0)))))))))))))))))
 refine sr (ck 3 (en (bk 0 (sr (ck 2 (en (cn H (λ H=>?_) (λ H=>?_))))))))
 ·exact sr (ck 8 (en (re (qR (qr (by cases H;exact pr (rO (v:=.agg [.d (.int .i64 2),.d (.int .i64 (Ai .i64 1 (IntKind.i64.wrap (Al p0_.N 3)))),.d (.str r150),.d (.nil),.d (.nil),.d (.int .i64 0),.d (.int .i64 0),.d (.int .i64 0),.d (.nil),.d (.int .i64 0)]) [] (a1 (c1 vd (c1 vd (c1 vd (c1 vz (c1 vn (c1 vd (c1 vd (c1 vd (c1 vn (c1 vd (c0)))))))))))))))))))
 ·refine sr (ck 2 (en (cn H (λ H=>?_) (λ H=>?_))))
  ·exact sr (ck 9 (en (sq (sr (ck 1 (en (bk 1 (bx H λ y131 h407 H=>lX Pd h407 (tr (tr (tr (tr (tr (tr (Bz 1 3 1 (by kernel_rfl)) (Bz 1 4 2 (by kernel_rfl))) (Bz 1 8 3 (by kernel_rfl))) (Bz 2 3 1 (by kernel_rfl))) (Bz 2 4 2 (by kernel_rfl))) (Bz 2 8 3 (by kernel_rfl))) (sg [1,2,4,6,7,8])) rfl λ s hE100=>qH (qs (hE100) (sr (ck 2 (ae (qs (tr (fzc (enc:=AE) (xs:=y131.F) 0 4 6 2) (fzc (enc:=As) (xs:=y131.Pic.F) 0 8 7 3)) (re (qR (qr (by cases H;exact pr (rO (v:=.agg [.d (.int .i64 z.Kind),.d (.int .i64 z.Level),.d (.str z.Text),.osl 5 1 0 (z.Rows.length),.d (.sl (z.F.map AE)),.d (.int .i64 z.Pic.W),.d (.int .i64 z.Pic.H),.d (.int .i64 z.Pic.Gap),.d (.sl (z.Pic.F.map As)),.d (.int .i64 z.Page)]) [5] (a1 (c1 vd (c1 vd (c1 vd (c1 vo (c1 vd (c1 vd (c1 vd (c1 vd (c1 vd (c1 vd (c0))))))))))))))))))))))))))))))
  ·refine sj (λ (x:Bool)=>Ji2 p0_ r150 x) (λ (x:Bool)=>DE n p0_ r150 x) z ?_ (λ hFR17_Block_J2=>?_)
   ·intro x_27 H
    refine cn H (λ H=>?_) (λ H=>?_)
    ·exact sr (ck 3 (en (re (qR (qr (by cases H;exact pr (rO (v:=.agg [.d (.int .i64 4),.d (.int .i64 0),.d (.str r150),.d (.nil),.d (.nil),.d (.int .i64 0),.d (.int .i64 0),.d (.int .i64 0),.d (.nil),.d (.int .i64 0)]) [] (a1 (c1 vd (c1 vd (c1 vd (c1 vz (c1 vn (c1 vd (c1 vd (c1 vd (c1 vn (c1 vd (c0)))))))))))))))))))
    ·refine sr (ck 2 (en (cn H (λ H=>?_) (λ H=>?_))))
     ·exact sr (ck 2 (bx H λ r152 h408 H=>ca false (UA h408) (ck 2 (en (re (qR (qr (by cases H;exact pr (rO (v:=.agg [.d (.int .i64 5),.d (.int .i64 0),.d (.str []),.d (.nil),.d (.sl (r152.map AE)),.d (.int .i64 0),.d (.int .i64 0),.d (.int .i64 0),.d (.nil),.d (.int .i64 0)]) [] (a1 (c1 vd (c1 vd (c1 vd (c1 vz (c1 vd (c1 vd (c1 vd (c1 vd (c1 vn (c1 vd (c0)))))))))))))))))))))
     ·refine sr (ck 2 (en (cn H (λ H=>?_) (λ H=>?_))))
      ·refine sr (ck 6 (sp (Av (JH eU8) p0_.P.F) (ck 1 (bx H λ l51 h409 H=>sp (Jbl (JH eU8) 6 h409) (ck 3 (en (sr (ck 2 (bx H λ r153 h410 H=>ca false (UB h410) (ck 2 (en (sr (ck 1 (bx H λ r154 h411 H=>ca false (K3 h411) (en (cn H (λ H=>?_) (λ H=>?_)))))))))))))))))
       ·exact sr (ck 3 (en (re (qR (qr (by cases H;exact pr (rO (v:=.agg [.d (.int .i64 6),.d (.int .i64 0),.d (.str []),.d (.nil),.d (.nil),.d (.int .i64 r153.W),.d (.int .i64 r153.H),.d (.int .i64 r153.Gap),.d (.sl (r153.F.map As)),.d (.int .i64 0)]) [] (a1 (c1 vd (c1 vd (c1 vd (c1 vz (c1 vn (c1 vd (c1 vd (c1 vd (c1 vd (c1 vd (c0)))))))))))))))))))
       ·exact sk (qN (qs (sg [4,5]) (hFR17_Block_J1 () H)))
      ·refine sr (ck 2 (en (cn H (λ H=>?_) (λ H=>?_))))
       ·exact sr (ck 6 (en (re (qR (qr (by cases H;exact pr (rO (v:=.agg [.d (.int .i64 7),.d (.int .i64 0),.d (.str []),.d (.nil),.d (.nil),.d (.int .i64 0),.d (.int .i64 0),.d (.int .i64 0),.d (.nil),.d (.int .i64 (Ai .i64 1 (IntKind.i64.wrap p0_.N)))]) [] (a1 (c1 vd (c1 vd (c1 vd (c1 vz (c1 vn (c1 vd (c1 vd (c1 vd (c1 vn (c1 vd (c0)))))))))))))))))))
       ·exact sk (qN (qs (sg [4,5]) (hFR17_Block_J1 () H)))
   refine sr (ck 2 (en (cn H (λ H=>?_) (λ H=>?_))))
   ·exact sk (qs (tr (tr (tr (Bz 1 3 1 (by kernel_rfl)) (Bz 1 4 2 (by kernel_rfl))) (Bz 1 8 3 (by kernel_rfl))) (sg [2,4,5,19,77])) (hFR17_Block_J2 ((Al p0_.Kind 9)==3) H))
   ·exact rz (ck 2 (ae (qs (tr (tr (tr (Bz 1 3 1 (by kernel_rfl)) (Bz 1 4 2 (by kernel_rfl))) (Bz 1 8 3 (by kernel_rfl))) (sg [2,4,5,19,77])) (hFR17_Block_J2 ((Al p0_.Kind 9)==4) H))))
end
section
variable (p0_:Af)
def Ji3:St:=⟨(0,.agg [.d (.int .i64 p0_.W),.d (.int .i64 p0_.H),.d (.int .i64 p0_.Gap),.d (.sl (p0_.F.map As))])::[],[]⟩
variable {p0_}
theorem NW {z} (H:Kz n p0_=some z):Aq Tryz.prog 64 [.agg (AH p0_)] (.d (.bool z)):=by
 exact fO 22 (Ji3 p0_) Tryz.func64 (sr (ck 2 (en (sr (ck 5 (gc 2 (p0_.W==0) (pA (ck 2 (gc 2 ((p0_.W==0)&&(p0_.H==0)) (pA (ck 2 (gc 1 (((p0_.W==0)&&(p0_.H==0))&&(p0_.Gap==0)) (sE (g:=(((p0_.W==0)&&(p0_.H==0))&&(p0_.Gap==0))) (λ hg=>Av As p0_.F) (gc 1 (((p0_.W==0)&&(p0_.H==0))&&(p0_.Gap==0)) (pA (ck 1 (en (re (by cases H;exact pr rd)))))))))))))))))))
end
section
variable (p0_:Int)
def Ji4:St:=⟨(0,.d (.int .u8 p0_))::[],[]⟩
variable {p0_}
theorem Pe {z} (H:Ic n p0_=some z):Aq Tryz.prog 87 [.d (.int .u8 p0_)] (.d (.bool z)):=by
 exact fO 11 (Ji4 p0_) Tryz.func87 (sr (ck 1 (en (sr (ck 5 (gc 2 (decide (Ei .u8 p0_ 127>=32)) (pA (ck 1 (en (re (by cases H;exact pr rd)))))))))))
end
section
variable (p0_:(List UInt8)) (i_31:Int)
def Ji5:St:=⟨(0,.d (.str p0_))::[],[]⟩
def Ji6:St:=⟨(0,.d (.str p0_))::(4,.d (.int .i64 i_31))::[],[]⟩
def Ji7:St:=⟨(0,.d (.str p0_))::[],[]⟩
def S3:(Unit⊕(Int×Int))->Ex->St->Prop:=xS (xX 0 0 (λ (y:Unit)=>Ji7 p0_)) (xR ty Tryz.f68 (λ (y:(Int×Int))=>.tup [.d (.int .i64 y.1),.d (.int .i64 y.2)]))
def Mk:Int->St:=(λ (x:Int)=>Ji6 p0_ x)
variable {p0_ i_31}
theorem K4 (x:Int) (z:(Int⊕(Unit⊕(Int×Int)))) (H:HK n p0_ x=some z):WP (cxk 19 0) (Aw Tryz.f68) [1,0,1,0,0] (Au 0 (Mk p0_) (S3 p0_) z) (Mk p0_ x):=by
 revert H
 generalize x=i_31
 intro H
 refine sq (sr (ck 4 (en (cn H (λ H=>?_) (λ H=>?_)))))
 ·refine sk (qz (sq (bk 1 (sr (ck 2 (bx H λ b6 h412 H=>sp (Gm h412) (bx H λ r155 h413 H=>ca false (Pe h413) (ck 1 (en (cn H (λ H=>?_) (λ H=>?_)))))))))))
  ·exact sr (ck 3 (en (re (qR (qr (by cases H;exact ro rfl rdT))))))
  ·exact sk (qN (qz (rz (ck 3 (ae (by cases H;exact og (sg [0,4])))))))
 ·exact ex 0 (qx (by cases H;exact xo rfl (sg [0])))
theorem Wg {z} (H:NA n p0_=some z):Aq Tryz.prog 68 [.d (.str p0_)] (.tup [.d (.int .i64 z.1),.d (.int .i64 z.2)]):=by
 refine fO 19 (Ji5 p0_) Tryz.func68 (sr (ck 2 (en (sq (sr (ck 1 (en (bk 0 (bx H λ y132 h414 H=>?_)))))))))
 rcases y132 with y133|y134
 ·exact lX K4 h414 (sg [0,4]) rfl λ s hE101=>qH (qs (hE101) (sr (ck 4 (en (re (by cases H;exact pr rdT))))))
 ·exact lR K4 h414 (sg [0,4]) rfl λ s hE102=>qR (qr (by cases H;exact pr hE102))
end
section
variable (p0_:(List UInt8))
def Ji8:St:=⟨(0,.d (.str p0_))::[],[]⟩
variable {p0_}
theorem S4 {z} (H:Jp n p0_=some z):Aq Tryz.prog 48 [.d (.str p0_)] (.d (.bool z)):=by
 exact fO 12 (Ji8 p0_) Tryz.func48 (sr (ck 1 (en (sr (ck 1 (bx H λ r156 h415 H=>ca false (Wg h415) (ck 5 (en (sr (ck 3 (en (re (by cases H;exact pr rd)))))))))))))
end
section
variable (p0_:Int)
def Ji9:St:=⟨(0,.d (.int .u8 p0_))::[],[]⟩
variable {p0_}
theorem GI {z} (H:GM n p0_=some z):Aq Tryz.prog 49 [.d (.int .u8 p0_)] (.d (.bool z)):=by
 exact fO 6 (Ji9 p0_) Tryz.func49 (sr (ck 1 (en (sr (ck 4 (en (re (by cases H;exact pr rd))))))))
end
section
variable (p0_:(List UInt8)) (i_32:Int)
def Jja:St:=⟨(0,.d (.str p0_))::[],[]⟩
def Jjb:St:=⟨(0,.d (.str p0_))::(3,.d (.int .i64 i_32))::[],[]⟩
def Jjc:St:=⟨[],[]⟩
def Se:(Unit⊕Bool)->Ex->St->Prop:=xS (xX 0 0 (λ (y:Unit)=>Jjc)) (xR ty Tryz.f33 (λ (y:Bool)=>.d (.bool y)))
def K5:Int->St:=(λ (x:Int)=>Jjb p0_ x)
variable {p0_ i_32}
theorem J0 (x:Int) (z:(Int⊕(Unit⊕Bool))) (H:Jq n p0_ x=some z):WP (cxk 47 0) (Aw Tryz.f33) [1,1,0,1,0,0] (Au 0 (K5 p0_) (Se) z) (K5 p0_ x):=by
 revert H
 generalize x=i_32
 intro H
 refine sq (sr (ck 4 (en (cn H (λ H=>?_) (λ H=>?_)))))
 ·refine sk (qz (sq (bk 1 (sr (ck 2 (bx H λ b9 h421 H=>sp (Gm h421) (bx H λ r160 h422 H=>ca false (GI h422) (ck 3 (gc 1 r160 (bx H λ b10 h423 H=>sE (λ hg=>Gm (Ba h423 hg)) (bx H λ r161 h424 H=>cG false (leZ) rfl (λ hg=>GI (Ba h424 hg)) (Or.inl rfl) (BW (λ hh=>hh) (C9)) rfl (pA (en (cn H (λ H=>?_) (λ H=>?_)))))))))))))))
  ·exact sr (ck 1 (en (re (qR (qr (by cases H;exact ro rfl rd))))))
  ·exact sk (qN (qz (rz (ck 3 (ae (by cases H;exact og (sg [0,3])))))))
 ·exact ex 0 (qx (by cases H;exact xo rfl (sg [])))
theorem GJ {z} (H:GN n p0_=some z):Aq Tryz.prog 33 [.d (.str p0_)] (.d (.bool z)):=by
 refine fO 47 (Jja p0_) Tryz.func33 (sr (ck 1 (en (sq (sr (ck 1 (bx H λ r157 h416 H=>ca false (S4 h416) (ck 3 (gc 2 (!(!r157)) (pO (ck 2 (gc 2 (!((!r157)||(((p0_.length:Nat):Int)==0))) (pO (ck 2 (bx H λ b7 h417 H=>sE (λ hg=>Gm (Ba h417 hg)) (bx H λ r158 h418 H=>cG false (leZ) rfl (λ hg=>GI (Ba h418 hg)) (Or.inl rfl) (BW (λ hh=>hh) (C9)) rfl (pO (ck 3 (gc 2 (!((((!r157)||(((p0_.length:Nat):Int)==0))||(decide (((p0_.length:Nat):Int)>400)))||r158)) (bx H λ b8 h419 H=>sE (λ hg=>Gm (Ba h419 hg)) (bx H λ r159 h420 H=>cG false (leZ) rfl (λ hg=>GI (Ba h420 hg)) (Or.inl rfl) (BW (λ hh=>hh) (C9)) rfl (pO (en (cn H (λ H=>?_) (λ H=>?_)))))))))))))))))))))))))
 ·exact sr (ck 1 (en (re (qr (by cases H;exact pr rd)))))
 ·refine sk (qz (sq (sr (ck 1 (en (bk 0 (bx H λ y135 h425 H=>?_)))))))
  rcases y135 with y136|y137
  ·exact lX J0 h425 (sg [0,3]) rfl λ s hE103=>qH (qs (hE103) (sr (ck 1 (en (re (by cases H;exact pr rd))))))
  ·exact lR J0 h425 (sg [0,3]) rfl λ s hE104=>qR (qr (by cases H;exact pr hE104))
end
section
variable (p0_:(List (List (List UInt8)))) (i_33:Int) (k_22:Int)
def Jjd:St:=⟨(0,.d (.sl (p0_.map (eL eS))))::[],[]⟩
def Jje:St:=⟨(0,.d (.sl (p0_.map (eL eS))))::(3,.d (.int .i64 i_33))::[],[]⟩
def Jjf:St:=⟨[],[]⟩
def Jjg:St:=⟨(0,.d (.sl (p0_.map (eL eS))))::(3,.d (.int .i64 i_33))::(4,.d (.int .i64 k_22))::[],[]⟩
def Jjh:St:=⟨(0,.d (.sl (p0_.map (eL eS))))::(3,.d (.int .i64 i_33))::[],[]⟩
def NX:(Unit⊕Bool)->Ex->St->Prop:=xS (xX 0 2 (λ (y:Unit)=>Jjh p0_ i_33)) (xR ty Tryz.f65 (λ (y:Bool)=>.d (.bool y)))
def HS:Int->St:=(λ (x:Int)=>Jjg p0_ i_33 x)
def NY:(Unit⊕Bool)->Ex->St->Prop:=xS (xX 0 0 (λ (y:Unit)=>Jjf)) (xR ty Tryz.f65 (λ (y:Bool)=>.d (.bool y)))
def HT:Int->St:=(λ (x:Int)=>Jje p0_ x)
variable {p0_ i_33 k_22}
theorem Hi (x:Int) (z:(Int⊕(Unit⊕Bool))) (H:DO n p0_ i_33 x=some z):WP (cxk 74 0) (Aw Tryz.f65) [1,1,0,1,0,0,1,0,0,1,1,0,0] (Au 0 (HS p0_ i_33) (NX p0_ i_33) z) (HS p0_ i_33 x):=by
 revert H
 generalize x=k_22
 intro H
 refine sq (sr (ck 3 (bx H λ x116 h430 H=>sp (Ak (eL eS) h430) (ck 1 (sp (Av eS x116) (ck 1 (en (cn H (λ H=>?_) (λ H=>?_)))))))))
 ·refine sk (qz (sq (bk 3 (sr (ck 2 (bx H λ x117 h431 H=>sp (Ak (eL eS) h431) (ck 2 (bx H λ x118 h432 H=>sp (Ak eS h432) (ck 1 (bx H λ r162 h433 H=>ca false (GJ h433) (ck 4 (bx H λ x119 h434 H=>sE (λ hg=>Ak (eL eS) (Ba h434 hg)) (gc 1 (!(!r162)) (ck 1 (bx H λ x120 h435 H=>sE (λ hg=>Ak eS (Ba h435 hg)) (gc 3 (!(!r162)) (pO (en (cn H (λ H=>?_) (λ H=>?_))))))))))))))))))))
  ·exact sr (ck 1 (en (re (qR (qr (by cases H;exact ro rfl rd))))))
  ·exact sk (qN (qz (rz (ck 3 (ae (by cases H;exact og (sg [0,3,4])))))))
 ·exact ex 2 (qx (by cases H;exact xo rfl (sg [0,3])))
theorem Hj (x:Int) (z:(Int⊕(Unit⊕Bool))) (H:DP n p0_ x=some z):WP (cxk 74 0) (Aw Tryz.f65) [1,1,0,1,0,0] (Au 0 (HT p0_) (NY) z) (HT p0_ x):=by
 revert H
 generalize x=i_33
 intro H
 refine sq (sr (ck 2 (sp (Av (eL eS) p0_) (ck 1 (en (cn H (λ H=>?_) (λ H=>?_)))))))
 ·refine sk (qz (sq (bk 1 (sq (sr (ck 2 (bx H λ x112 h426 H=>sp (Ak (eL eS) h426) (ck 1 (sp (Av eS x112) (ck 1 (bx H λ x113 h427 H=>sp (Ak (eL eS) h427) (ck 1 (sp (Av eS x113) (ck 4 (bx H λ x114 h428 H=>sE (λ hg=>Ak (eL eS) (Ba h428 hg)) (gc 1 (!(((x112.length:Nat):Int) != ((x113.length:Nat):Int))) (sE (g:=(!(((x112.length:Nat):Int) != ((x113.length:Nat):Int)))) (λ hg=>Av eS x114) (gc 1 (!(((x112.length:Nat):Int) != ((x113.length:Nat):Int))) (pO (ck 3 (bx H λ x115 h429 H=>sE (λ hg=>Ak (eL eS) (Ba h429 hg)) (gc 1 (!((((x112.length:Nat):Int) != ((x113.length:Nat):Int))||(decide (((x114.length:Nat):Int)<1)))) (sE (g:=(!((((x112.length:Nat):Int) != ((x113.length:Nat):Int))||(decide (((x114.length:Nat):Int)<1))))) (λ hg=>Av eS x115) (gc 1 (!((((x112.length:Nat):Int) != ((x113.length:Nat):Int))||(decide (((x114.length:Nat):Int)<1)))) (pO (en (cn H (λ H=>?_) (λ H=>?_))))))))))))))))))))))))))))
  ·exact sr (ck 1 (en (re (qr (qR (qr (by cases H;exact ro rfl rd)))))))
  ·refine sk (qz (sr (ck 1 (en (bk 2 (bx H λ y138 h436 H=>?_))))))
   rcases y138 with y139|y140
   ·exact lX Hi h436 (sg [0,3,4]) rfl λ s hE105=>qH (qN (qs (hE105) (rz (ck 3 (ae (by cases H;exact og (sg [0,3])))))))
   ·exact lR Hi h436 (sg [0,3,4]) rfl λ s hE106=>qR (qR (qr (by cases H;exact ro rfl hE106)))
 ·exact ex 0 (qx (by cases H;exact xo rfl (sg [])))
theorem Qm {z} (H:EG n p0_=some z):Aq Tryz.prog 65 [.d (.sl (p0_.map (eL eS)))] (.d (.bool z)):=by
 refine fO 74 (Jjd p0_) Tryz.func65 (sr (ck 1 (en (sq (sr (ck 1 (sp (Av (eL eS) p0_) (ck 3 (sE (g:=(!(decide (((p0_.length:Nat):Int)<1)))) (λ hg=>Av (eL eS) p0_) (gc 1 (!(decide (((p0_.length:Nat):Int)<1))) (pO (en (cn H (λ H=>?_) (λ H=>?_))))))))))))))
 ·exact sr (ck 1 (en (re (qr (by cases H;exact pr rd)))))
 ·refine sk (qz (sq (sr (ck 1 (en (bk 0 (bx H λ y141 h437 H=>?_)))))))
  rcases y141 with y142|y143
  ·exact lX Hj h437 (sg [0,3]) rfl λ s hE107=>qH (qs (hE107) (sr (ck 1 (en (re (by cases H;exact pr rd))))))
  ·exact lR Hj h437 (sg [0,3]) rfl λ s hE108=>qR (qr (by cases H;exact pr hE108))
end
section
variable (p0_:(List Ag)) (p1_:Int) (text_1:Bool) (level_1:Bool) (rows_1:Bool) (tree_1:Bool) (picture_1:Bool) (page_1:Bool) (x121:Ag) (r163:Bool) (page_2:Bool) (k_23:Int) (page_3:Bool)
def Jji:St:=⟨(0,.d (.sl (p0_.map Ay)))::(1,.d (.int .i64 p1_))::[],[]⟩
def Jjj:St:=⟨(6,.d (.bool text_1))::(7,.d (.bool level_1))::(8,.d (.bool rows_1))::(9,.d (.bool tree_1))::(10,.d (.bool picture_1))::(11,.d (.bool page_1))::[],[]⟩
def Jjk:St:=⟨(0,.d (.sl (p0_.map Ay)))::(1,.d (.int .i64 p1_))::(5,.ptr 0 0)::(6,.d (.bool (x121.Text==[])))::(7,.d (.bool (x121.Level==0)))::(8,.d (.bool (((x121.Rows.length:Nat):Int)==0)))::(9,.d (.bool (((x121.F.length:Nat):Int)==0)))::(10,.d (.bool r163))::(11,.d (.bool page_2))::(12,.d (.int .i64 k_23))::[],[some (.box (Up x121))]⟩
def Jjl:St:=⟨(6,.d (.bool (x121.Text==[])))::(7,.d (.bool (x121.Level==0)))::(8,.d (.bool (((x121.Rows.length:Nat):Int)==0)))::(9,.d (.bool (((x121.F.length:Nat):Int)==0)))::(10,.d (.bool r163))::(11,.d (.bool page_3))::[],[]⟩
def Qn:Bool->Ex->St->Prop:=xX 0 1 (λ (y:Bool)=>Jjl x121 r163 y)
def J1:(Bool×Int)->St:=(λ (x:(Bool×Int))=>Jjk p0_ p1_ x121 r163 x.1 x.2)
variable {p0_ p1_ text_1 level_1 rows_1 tree_1 picture_1 page_1 x121 r163 page_2 k_23 page_3}
theorem Pf (x:(Bool×Int)) (z:((Bool×Int)⊕Bool)) (H:FC n p0_ p1_ x121 r163 x.1 x.2=some z):WP (cxk 149 0) (Aw Tryz.f45) [1,1,1,1,0,1,0,1,1,1,1,1,1,1,1,1,1,1,1,1,0,1,1,0,0] (Au 0 (J1 p0_ p1_ x121 r163) (Qn x121 r163) z) (J1 p0_ p1_ x121 r163 x):=by
 obtain ⟨page_2,k_23⟩:=x
 refine sq (sr (ck 3 (en (cn H (λ H=>?_) (λ H=>?_)))))
 ·exact sk (qz (sq (bk 2 (rz (ck 4 (bx H λ x124 h448 H=>sE (λ hg=>Ak Ay (Ba h448 hg)) (gc 4 page_2 (ck 2 (bx H λ x125 h449 H=>sE (λ hg=>Ak Ay (Ba h449 hg)) (gc 2 (page_2&&!(x124.Kind != 7)) (ck 1 (gc 2 (page_2&&!(x124.Kind != 7)) (pG (g:=page_2) (v:=.d (.bool ((x124.Kind != 7)||(decide (x125.Page<x121.Page))))) (λ hg=>CX (c:=.gv page_2 (.d (.bool (x124.Kind != 7)))) (a:=.d (.bool true)) (b:=.gv (page_2&&!(x124.Kind != 7)) (.d (.bool (decide (x125.Page<x121.Page))))) rfl rfl rfl ((λ hh=>hh) hg) trivial (λ ht=>by rw [(λ hh=>hh) hg,ht];rfl)) (pA (ck 1 (ae (qN (qz (rz (ck 3 (ae (by cases H;exact og (sg [0,1,5,6,7,8,9,10,11,12])))))))))))))))))))))))
 ·exact ex 1 (qx (by cases H;exact xo rfl (sg [6,7,8,9,10,11])))
theorem S5 {z} (H:MF n p0_ p1_=some z):Aq Tryz.prog 45 [.d (.sl (p0_.map Ay)),.d (.int .i64 p1_)] (.d (.bool z)):=by
 refine fO 149 (Jji p0_ p1_) Tryz.func45 (sr (ck 1 (en (sr (ck 2 (bx H λ x121 h438 H=>sp (Ak Ay h438) (ck 3 (en (sr (ck 8 (en (sr (ck 2 (sp (Av (eL eS) x121.Rows) (ck 3 (sp (Av AE x121.F) (ck 3 (bx H λ r163 h439 H=>ca false (NW h439) (ck 7 (en (sj (λ (x:(Bool×Bool×Bool×Bool×Bool×Bool))=>Jjj x.1 x.2.1 x.2.2.1 x.2.2.2.1 x.2.2.2.2.1 x.2.2.2.2.2) (λ (x:(Bool×Bool×Bool×Bool×Bool×Bool))=>B4 n x.1 x.2.1 x.2.2.1 x.2.2.2.1 x.2.2.2.2.1 x.2.2.2.2.2) z ?_ (λ hFR17_Right_J1=>?_))))))))))))))))))))))
 ·rintro ⟨text_1,level_1,rows_1,tree_1,picture_1,page_1⟩ H
  exact sr (ck 3 (pA (ck 2 (pA (ck 2 (pA (ck 2 (pA (ck 2 (pA (ck 1 (en (re (by cases H;exact pr rd))))))))))))))
 refine sr (ck 2 (en (bk 0 (sr (ck 2 (en (cn H (λ H=>?_) (λ H=>?_))))))))
 ·exact rz (ck 2 (bx H λ r164 h440 H=>ca false (GJ h440) (ck 1 (ae (qN (qs (sg [6,7,8,9,10,11]) (hFR17_Right_J1 (r164,(x121.Level==0),(((x121.Rows.length:Nat):Int)==0),(((x121.F.length:Nat):Int)==0),r163,(x121.Page==0)) H)))))))
 ·refine sr (ck 2 (en (cn H (λ H=>?_) (λ H=>?_))))
  ·exact rz (ck 2 (bx H λ r165 h441 H=>ca false (GJ h441) (ck 5 (gc 2 (decide (x121.Level>=1)) (pA (ck 2 (ae (qN (qs (sg [6,7,8,9,10,11]) (hFR17_Right_J1 (r165,((decide (x121.Level>=1))&&(decide (x121.Level<=3))),(((x121.Rows.length:Nat):Int)==0),(((x121.F.length:Nat):Int)==0),r163,(x121.Page==0)) H))))))))))
  ·refine sr (ck 2 (en (cn H (λ H=>?_) (λ H=>?_))))
   ·exact rz (ck 2 (bx H λ r166 h442 H=>ca false (Qm h442) (ck 1 (ae (qN (qs (sg [6,7,8,9,10,11]) (hFR17_Right_J1 ((x121.Text==[]),(x121.Level==0),r166,(((x121.F.length:Nat):Int)==0),r163,(x121.Page==0)) H)))))))
   ·refine sr (ck 2 (en (cn H (λ H=>?_) (λ H=>?_))))
    ·exact rz (ck 2 (bx H λ r167 h443 H=>ca false (GJ h443) (ck 2 (gc 1 r167 (pA (ck 3 (gc 1 (r167&&(decide (p1_>0))) (bx H λ x122 h444 H=>sE (λ hg=>Ak Ay (Ba h444 hg)) (gc 4 (r167&&(decide (p1_>0))) (ck 2 (gc 1 ((r167&&(decide (p1_>0)))&&!(x122.Kind==1)) (bx H λ x123 h445 H=>sE (λ hg=>Ak Ay (Ba h445 hg)) (gc 3 ((r167&&(decide (p1_>0)))&&!(x122.Kind==1)) (pG (g:=(r167&&(decide (p1_>0)))) (v:=.d (.bool ((x122.Kind==1)||(x123.Kind==4)))) (λ hg=>CX (c:=.gv (r167&&(decide (p1_>0))) (.d (.bool (x122.Kind==1)))) (a:=.d (.bool true)) (b:=.gv ((r167&&(decide (p1_>0)))&&!(x122.Kind==1)) (.d (.bool (x123.Kind==4)))) rfl rfl rfl ((λ hh=>hh) hg) trivial (λ ht=>by rw [(λ hh=>hh) hg,ht];rfl)) (pA (ck 1 (ae (qN (qs (sg [6,7,8,9,10,11]) (hFR17_Right_J1 (((r167&&(decide (p1_>0)))&&((x122.Kind==1)||(x123.Kind==4))),(x121.Level==0),(((x121.Rows.length:Nat):Int)==0),(((x121.F.length:Nat):Int)==0),r163,(x121.Page==0)) H))))))))))))))))))))
    ·refine sr (ck 2 (en (cn H (λ H=>?_) (λ H=>?_))))
     ·exact rz (ck 2 (bx H λ r168 h446 H=>ca false (NI h446) (ck 1 (ae (qN (qs (sg [6,7,8,9,10,11]) (hFR17_Right_J1 ((x121.Text==[]),(x121.Level==0),(((x121.Rows.length:Nat):Int)==0),r168,r163,(x121.Page==0)) H)))))))
     ·refine sr (ck 2 (en (cn H (λ H=>?_) (λ H=>?_))))
      ·exact rz (ck 2 (bx H λ r169 h447 H=>ca false (K3 h447) (ck 1 (ae (qN (qs (sg [6,7,8,9,10,11]) (hFR17_Right_J1 ((x121.Text==[]),(x121.Level==0),(((x121.Rows.length:Nat):Int)==0),(((x121.F.length:Nat):Int)==0),r169,(x121.Page==0)) H)))))))
      ·refine sr (ck 2 (en (cn H (λ H=>?_) (λ H=>?_))))
       ·exact sr (ck 5 (gc 2 (decide (x121.Page>=1)) (pA (ck 1 (en (sr (ck 1 (en (bk 1 (bx H λ y144 h450 H=>lX Pf h450 (sg [0,1,5,6,7,8,9,10,11,12]) rfl λ s hE109=>qH (qN (qs (tr (hE109) (sg [6,7,8,9,10,11])) (hFR17_Right_J1 ((x121.Text==[]),(x121.Level==0),(((x121.Rows.length:Nat):Int)==0),(((x121.F.length:Nat):Int)==0),r163,y144) H)))))))))))))
       ·exact sr (ck 1 (en (re (qR (qr (by cases H;exact pr rd))))))
end
section
variable (p0_:(List Bd)) (p1_:Int) (p2_:(List UInt8)) (out_55:(List Ag)) (i_34:Int) (out_56:(List Ag)) (out_57:(List Ag))
def Jjm:St:=⟨(0,.d (.sl (p0_.map BO)))::(1,.d (.int .i64 p1_))::(2,.d (.str p2_))::[],[]⟩
def Jjn:St:=⟨(0,.d (.sl (p0_.map BO)))::(1,.d (.int .i64 p1_))::(2,.d (.str p2_))::(7,.osl 0 10 0 (out_55.length))::(8,.d (.int .i64 i_34))::[],[some (.arr 10 (out_55.map Ay))]⟩
def Jjo:St:=⟨(7,.osl 0 10 0 (out_56.length))::[],[some (.arr 10 (out_56.map Ay))]⟩
def Jjp:St:=⟨(0,.d (.sl (p0_.map BO)))::(1,.d (.int .i64 p1_))::(2,.d (.str p2_))::(7,.osl 0 10 0 (out_57.length))::(8,.d (.int .i64 i_34))::[],[some (.arr 10 (out_57.map Ay))]⟩
def Sf:(List Ag)->Ex->St->Prop:=xX 0 0 (λ (y:(List Ag))=>Jjo y)
def K6:((List Ag)×Int)->St:=(λ (x:((List Ag)×Int))=>Jjn p0_ p1_ p2_ x.1 x.2)
variable {p0_ p1_ p2_ out_55 i_34 out_56 out_57}
theorem Qo (x:((List Ag)×Int)) (z:(((List Ag)×Int)⊕(List Ag))) (H:GE n p0_ p1_ p2_ x.1 x.2=some z):WP (cxk 42 0) (Aw Tryz.f29) [1,1,0,1,0,0] (Au 0 (K6 p0_ p1_ p2_) (Sf) z) (K6 p0_ p1_ p2_ x):=by
 obtain ⟨out_55,i_34⟩:=x
 refine sq (sr (ck 2 (sp (Av BO p0_) (ck 4 (gc 1 (decide (i_34<((p0_.length:Nat):Int))) (pA (en (cn H (λ H=>?_) (λ H=>?_)))))))))
 ·refine sk (qz (sj (λ (x:(List Ag))=>Jjp p0_ p1_ p2_ i_34 x) (λ (x:(List Ag))=>Jr n i_34 x) z ?_ (λ hFR17_Made_J1=>?_)))
  ·intro out_57 H
   exact rz (ck 3 (ae (by cases H;exact og (sg [0,1,2,7,8]))))
  refine bk 1 (sr (ck 3 (bx H λ x126 h451 H=>sp (Ak BO h451) (ck 2 (bx H λ r170 h452 H=>ca false (S2 h452) (ck 1 (bx H λ l52 h453 H=>sp (A3 Ay 0 10 h453) (ck 1 (en (sr (ck 4 (bx H λ r171 h454 H=>cb (ks:=[2]) (obl:=[(0+List.length l52,List.length (l52.map Ay))]) false (leK leM (leZ)) (CJ Ga (CJ rfl rfl)) (S5 h454) (Or.inr trivial) rfl (ck 1 (en (cn H (λ H=>?_) (λ H=>?_))))))))))))))))
  ·exact rz (ck 4 (bx H λ l53 h455 H=>sp (My 2 10 h455) (ck 1 (ae (qN (qs (tr (XB (k:=2) (sz:=10) 7 (l53.map Ay) (l53.length) (by kernel_rfl) (QA h455) (Ui (enc:=Ay) h455) (Yp h455)) (sg [0,1,2,7,8])) (hFR17_Made_J1 l53 H)))))))
  ·exact sk (qN (qs (sg [0,1,2,7,8]) (hFR17_Made_J1 l52 H)))
 ·exact ex 0 (qx (by cases H;exact xo rfl (sg [7])))
theorem UF {z} (H:OK n p0_ p1_ p2_=some z):Aq Tryz.prog 29 [.d (.sl (p0_.map BO)),.d (.int .i64 p1_),.d (.str p2_)] (.own 10 (z.map Ay)):=by
 exact fO 42 (Jjm p0_ p1_ p2_) Tryz.func29 (sr (ck 1 (en (sr (ck 2 (en (sq (sr (ck 1 (en (bk 0 (bx H λ y145 h456 H=>lX Qo h456 (sg [0,1,2,7,8]) rfl λ s hE110=>qH (qs (hE110) (sr (ck 2 (en (re (by cases H;exact pr (rO (v:=.osl 0 10 0 (z.length)) [0] (ao vo))))))))))))))))))))
end
section
variable (p0_:(List Bd))
def Jlc:St:=⟨(0,.d (.sl (p0_.map BO)))::[],[]⟩
variable {p0_}
theorem UG {z} (H:OL n p0_=some z):Aq Tryz.prog 9 [.d (.sl (p0_.map BO))] (.own 10 (z.map Ay)):=by
 exact fO 5 (Jlc p0_) Tryz.func9 (sr (ck 1 (en (sr (ck 1 (bx H λ r172 h457 H=>cl [List.length r172] (UF h457) (ck 1 (en (re (by cases H;exact pr (rO (v:=.osl 0 10 0 (z.length)) [0] (ao vo))))))))))))
end
section
variable (p0_:(List Ag)) (p1_:Int)
def Jjq:St:=⟨(0,.d (.sl (p0_.map Ay)))::(1,.d (.int .i64 p1_))::[],[]⟩
variable {p0_ p1_}
theorem K7 {z} (H:FP n p0_ p1_=some z):Aq Tryz.prog 22 [.d (.sl (p0_.map Ay)),.d (.int .i64 p1_)] (.d (.bool z)):=by
 exact fO 37 (Jjq p0_ p1_) Tryz.func22 (sr (ck 1 (en (sr (ck 5 (sE (g:=decide (p1_>=0)) (λ hg=>Av Ay p0_) (gc 1 (decide (p1_>=0)) (pA (ck 3 (bx H λ x127 h458 H=>sE (λ hg=>Ak Ay (Ba h458 hg)) (gc 4 ((decide (p1_>=0))&&(decide (p1_<((p0_.length:Nat):Int)))) (ck 2 (bx H λ x128 h459 H=>sE (λ hg=>Ak Ay (Ba h459 hg)) (gc 3 (((decide (p1_>=0))&&(decide (p1_<((p0_.length:Nat):Int))))&&!(x127.Kind==1)) (pG (g:=((decide (p1_>=0))&&(decide (p1_<((p0_.length:Nat):Int))))) (v:=.d (.bool ((x127.Kind==1)||(x128.Kind==2)))) (λ hg=>CX (c:=.gv ((decide (p1_>=0))&&(decide (p1_<((p0_.length:Nat):Int)))) (.d (.bool (x127.Kind==1)))) (a:=.d (.bool true)) (b:=.gv (((decide (p1_>=0))&&(decide (p1_<((p0_.length:Nat):Int))))&&!(x127.Kind==1)) (.d (.bool (x128.Kind==2)))) rfl rfl rfl ((λ hh=>hh) hg) trivial (λ ht=>by rw [(λ hh=>hh) hg,ht];rfl)) (gc 1 ((decide (p1_>=0))&&(decide (p1_<((p0_.length:Nat):Int)))) (ck 2 (bx H λ x129 h460 H=>sE (λ hg=>Ak Ay (Ba h460 hg)) (gc 3 (((decide (p1_>=0))&&(decide (p1_<((p0_.length:Nat):Int))))&&!((x127.Kind==1)||(x128.Kind==2))) (pG (g:=((decide (p1_>=0))&&(decide (p1_<((p0_.length:Nat):Int))))) (v:=.d (.bool (((x127.Kind==1)||(x128.Kind==2))||(x129.Kind==4)))) (λ hg=>CX (c:=.gv ((decide (p1_>=0))&&(decide (p1_<((p0_.length:Nat):Int)))) (.d (.bool ((x127.Kind==1)||(x128.Kind==2))))) (a:=.d (.bool true)) (b:=.gv (((decide (p1_>=0))&&(decide (p1_<((p0_.length:Nat):Int))))&&!((x127.Kind==1)||(x128.Kind==2))) (.d (.bool (x129.Kind==4)))) rfl rfl rfl ((λ hh=>hh) hg) trivial (λ ht=>by rw [(λ hh=>hh) hg,ht];rfl)) (pA (ck 1 (en (re (by cases H;exact pr rd)))))))))))))))))))))))))
end
end Go.AI
end
section
namespace Go.AI
open Go.Proofs
set_option maxRecDepth 10000
variable {n:Nat}
section
variable (p0_:(List Ag)) (p1_:AS) (p2_:(List UInt8)) (l_1:(List Int)) (i_35:Int) (l_2:(List Int)) (l_3:(List Int)) (c_4:Ab)
def Jjr:St:=⟨(0,.d (.sl (p0_.map Ay)))::(1,.agg [.d (.int .u8 p1_.Block),.d (.int .u8 p1_.At),.d (.int .u8 p1_.Cut),.d (.sl (p1_.Put.map eU8))])::(2,.d (.str p2_))::[],[]⟩
def Jjs:St:=⟨(0,.d (.sl (p0_.map Ay)))::(2,.d (.str p2_))::(4,.ptr 0 0)::(6,.ptr 1 0)::(7,.osl 2 1 0 (l_1.length))::(8,.d (.int .i64 i_35))::[],[some (.box (DS p1_)),some (.box [.d (.int .i64 0),.d (.int .i64 0),.d (.int .i64 0),.d (.str [])]),some (.arr 1 (l_1.map A6))]⟩
def Jjt:St:=⟨(0,.d (.sl (p0_.map Ay)))::(2,.d (.str p2_))::(4,.ptr 0 0)::(6,.ptr 1 0)::(7,.osl 2 1 0 (l_2.length))::[],[some (.box (DS p1_)),some (.box [.d (.int .i64 0),.d (.int .i64 0),.d (.int .i64 0),.d (.str [])]),some (.arr 1 (l_2.map A6))]⟩
def Jju:St:=⟨(0,.d (.sl (p0_.map Ay)))::(2,.d (.str p2_))::(4,.ptr 0 0)::(6,.ptr 1 0)::(7,.osl 2 1 0 (l_3.length))::(8,.d (.int .i64 i_35))::[],[some (.box (DS p1_)),some (.box [.d (.int .i64 0),.d (.int .i64 0),.d (.int .i64 0),.d (.str [])]),some (.arr 1 (l_3.map A6))]⟩
def Sg:(List Int)->Ex->St->Prop:=xX 0 0 (λ (y:(List Int))=>Jjt p0_ p1_ p2_ y)
def K8:((List Int)×Int)->St:=(λ (x:((List Int)×Int))=>Jjs p0_ p1_ p2_ x.1 x.2)
def Jjv:St:=⟨(6,.ptr 0 0)::(9,.ptr 1 0)::[],[some (.box [.d (.int .i64 0),.d (.int .i64 0),.d (.int .i64 0),.d (.str [])]),some (.box (Bi c_4))]⟩
variable {p0_ p1_ p2_ l_1 i_35 l_2 l_3 c_4}
theorem Qp (x:((List Int)×Int)) (z:(((List Int)×Int)⊕(List Int))) (H:GG n p0_ p1_ p2_ x.1 x.2=some z):WP (cxk 77 0) (Aw Tryz.f10) [1,1,0,1,0,0] (Au 0 (K8 p0_ p1_ p2_) (Sg p0_ p1_ p2_) z) (K8 p0_ p1_ p2_ x):=by
 obtain ⟨l_1,i_35⟩:=x
 refine sq (sr (ck 2 (sp (Av Ay p0_) (ck 1 (en (cn H (λ H=>?_) (λ H=>?_)))))))
 ·refine sk (qz (sj (λ (x:(List Int))=>Jju p0_ p1_ p2_ i_35 x) (λ (x:(List Int))=>Js n i_35 x) z ?_ (λ hFR32_Made_J1=>?_)))
  ·intro l_3 H
   exact rz (ck 3 (ae (by cases H;exact og (sg [0,2,4,6,7,8]))))
  refine bk 1 (sr (ck 2 (bx H λ r173 h461 H=>ca false (K7 h461) (en (cn H (λ H=>?_) (λ H=>?_))))))
  ·exact rz (ck 3 (bx H λ l54 h462 H=>sp (A3 A6 2 1 h462) (ck 1 (ae (qN (qs (sg [0,2,4,6,7,8]) (hFR32_Made_J1 l54 H)))))))
  ·exact sk (qN (qs (sg [0,2,4,6,7,8]) (hFR32_Made_J1 l_1 H)))
 ·exact ex 0 (qx (by cases H;exact xo rfl (sg [0,2,4,6,7])))
theorem UH {z} (H:OM n p0_ p1_ p2_=some z):Aq Tryz.prog 10 [.d (.sl (p0_.map Ay)),.agg (DS p1_),.d (.str p2_)] (.agg [.d (.int .i64 z.Block),.d (.int .i64 z.At),.d (.int .i64 z.Cut),.d (.str z.Put)]):=by
 refine fO 77 (Jjr p0_ p1_ p2_) Tryz.func10 (sr (ck 2 (en (sr (ck 2 (en (sq (sr (ck 1 (en (bk 0 (bx H λ y146 h463 H=>lX Qp h463 (sg [0,2,4,6,7,8]) rfl λ s hE111=>qH (qs (hE111) (sq (sr (ck 3 (en (cn H (λ H=>?_) (λ H=>?_)))))))))))))))))))
 ·exact sr (ck 5 (en (re (qr (by cases H;exact pr rd)))))
 ·refine sk (qz (sr (ck 6 (bx H λ gd12 h464 H=>so (DB h464) (bx H λ x130 h465 H=>sp (Bl 2 1 h465) (sp (B3 A6 2 0 (ty 3) h465) (ck 3 (en (sr (ck 3 (bx H λ x131 h466 H=>sp (Ak Ay h466) (ck 4 (en (sr (ck 5 (bx H λ gd13 h467 H=>so (DB h467) (ck 2 (en (sr (ck 9 (bx H λ gd14 h468 H=>so (DB h468) (ck 2 (en (sj (λ (x:Ab)=>Jjv x) (λ (x:Ab)=>Jt n x) z ?_ (λ hFR32_Made_J2=>?_)))))))))))))))))))))))))
  ·intro c_4 H
   exact sr (ck 2 (en (re (by cases H;exact pr rd))))
  refine sr (ck 2 (sp (Av eU8 p1_.Put) (ck 1 (en (cn H (λ H=>?_) (λ H=>?_))))))
  ·exact rz (ck 3 (bx H λ r174 h469 H=>ca false (Jw h469) (ck 2 (ae (qs (sg [6,9]) (hFR32_Made_J2 ({ Block:=x130,At:=Al (IntKind.i64.wrap p1_.At) (Ai .i64 ((x131.Text.length:Nat):Int) 1),Cut:=Al (IntKind.i64.wrap (Al p1_.Cut 4)) (Ai .i64 (AU .i64 ((x131.Text.length:Nat):Int) (Al (IntKind.i64.wrap p1_.At) (Ai .i64 ((x131.Text.length:Nat):Int) 1))) 1),Put:=r174 }:Ab) H))))))
  ·exact sk (qs (sg [6,9]) (hFR32_Made_J2 ({ Block:=x130,At:=Al (IntKind.i64.wrap p1_.At) (Ai .i64 ((x131.Text.length:Nat):Int) 1),Cut:=Al (IntKind.i64.wrap (Al p1_.Cut 4)) (Ai .i64 (AU .i64 ((x131.Text.length:Nat):Int) (Al (IntKind.i64.wrap p1_.At) (Ai .i64 ((x131.Text.length:Nat):Int) 1))) 1),Put:=[] }:Ab) H))
end
section
variable (p0_:(List UInt8)) (p1_:Ab)
def Jjw:St:=⟨(0,.d (.str p0_))::(1,.agg [.d (.int .i64 p1_.Block),.d (.int .i64 p1_.At),.d (.int .i64 p1_.Cut),.d (.str p1_.Put)])::[],[]⟩
variable {p0_ p1_}
theorem UI {z} (H:Lr n p0_ p1_=some z):Aq Tryz.prog 23 [.d (.str p0_),.agg (Bi p1_)] (.tup [.d (.str z.1),.d (.bool z.2)]):=by
 refine fO 46 (Jjw p0_ p1_) Tryz.func23 (sr (ck 3 (en (sq (sr (ck 5 (gc 2 (!(decide (p1_.At<0))) (pO (ck 2 (gc 1 (!((decide (p1_.At<0))||(decide (p1_.Cut<0)))) (ck 1 (gc 2 (!((decide (p1_.At<0))||(decide (p1_.Cut<0)))) (pO (ck 2 (gc 1 (!(((decide (p1_.At<0))||(decide (p1_.Cut<0)))||(decide (p1_.At>((p0_.length:Nat):Int))))) (ck 1 (gc 1 (!(((decide (p1_.At<0))||(decide (p1_.Cut<0)))||(decide (p1_.At>((p0_.length:Nat):Int))))) (ck 1 (gc 3 (!(((decide (p1_.At<0))||(decide (p1_.Cut<0)))||(decide (p1_.At>((p0_.length:Nat):Int))))) (pO (en (cn H (λ H=>?_) (λ H=>?_)))))))))))))))))))))))
 ·exact sr (ck 2 (en (re (qr (by cases H;exact pr rdT)))))
 ·exact sk (qz (sr (ck 3 (bx H λ s10 h470 H=>sp (Gn h470) (ck 2 (bx H λ s11 h471 H=>sp (Jk h471) (ck 6 (bx H λ s12 h472 H=>sp (Gn h472) (bx H λ s13 h473 H=>sp (Jk h473) (ck 2 (en (re (by cases H;exact pr rdT)))))))))))))
end
section
variable (p0_:(List Ag)) (p1_:(List AS)) (p2_:Int) (out_58:(List AB)) (i_38:Int) (out_59:(List AB))
def Jjx:St:=⟨(0,.d (.sl (p0_.map Ay)))::(1,.d (.sl (p1_.map A8)))::(2,.d (.int .i64 p2_))::[],[]⟩
def Jjy:St:=⟨(0,.d (.sl (p0_.map Ay)))::(1,.d (.sl (p1_.map A8)))::(2,.d (.int .i64 p2_))::(7,.osl 0 5 0 (out_58.length))::(8,.d (.int .i64 i_38))::[],[some (.arr 5 (out_58.map A1))]⟩
def Jjz:St:=⟨(7,.osl 0 5 0 (out_59.length))::[],[some (.arr 5 (out_59.map A1))]⟩
def Pg:(List AB)->Ex->St->Prop:=xX 0 0 (λ (y:(List AB))=>Jjz y)
def IZ:((List AB)×Int)->St:=(λ (x:((List AB)×Int))=>Jjy p0_ p1_ p2_ x.1 x.2)
variable {p0_ p1_ p2_ out_58 i_38 out_59}
theorem NZ (x:((List AB)×Int)) (z:(((List AB)×Int)⊕(List AB))) (H:EH n p0_ p1_ p2_ x.1 x.2=some z):WP (cxk 39 0) (Aw Tryz.f16) [1,1,0,1,0,0] (Au 0 (IZ p0_ p1_ p2_) (Pg) z) (IZ p0_ p1_ p2_ x):=by
 obtain ⟨out_58,i_38⟩:=x
 refine sq (sr (ck 2 (sp (Av A8 p1_) (ck 4 (gc 1 (decide (i_38<((p1_.length:Nat):Int))) (pA (en (cn H (λ H=>?_) (λ H=>?_)))))))))
 ·exact sk (qz (sq (bk 1 (rz (ck 3 (bx H λ x136 h507 H=>sp (Ak A8 h507) (ck 7 (bx H λ x137 h508 H=>sp (Ak A8 h508) (ck 1 (bx H λ r200 h509 H=>ca false (UH h509) (ck 2 (bx H λ l57 h510 H=>sp (A3 A1 0 5 h510) (ck 1 (ae (qN (qz (rz (ck 3 (ae (by cases H;exact og (sg [0,1,2,7,8])))))))))))))))))))))
 ·exact ex 0 (qx (by cases H;exact xo rfl (sg [7])))
theorem Sh {z} (H:KA n p0_ p1_ p2_=some z):Aq Tryz.prog 16 [.d (.sl (p0_.map Ay)),.d (.sl (p1_.map A8)),.d (.int .i64 p2_)] (.own 5 (z.map A1)):=by
 exact fO 39 (Jjx p0_ p1_ p2_) Tryz.func16 (sr (ck 1 (en (sr (ck 2 (en (sq (sr (ck 1 (en (bk 0 (bx H λ y153 h511 H=>lX NZ h511 (sg [0,1,2,7,8]) rfl λ s hE116=>qH (qs (hE116) (sr (ck 2 (en (re (by cases H;exact pr (rO (v:=.osl 0 5 0 (z.length)) [0] (ao vo))))))))))))))))))))
end
section
variable (p0_:Ab) (p1_:Ab)
def JjA:St:=⟨(0,.agg [.d (.int .i64 p0_.Block),.d (.int .i64 p0_.At),.d (.int .i64 p0_.Cut),.d (.str p0_.Put)])::(1,.agg [.d (.int .i64 p1_.Block),.d (.int .i64 p1_.At),.d (.int .i64 p1_.Cut),.d (.str p1_.Put)])::[],[]⟩
variable {p0_ p1_}
theorem K9 {z} (H:FQ n p0_ p1_=some z):Aq Tryz.prog 58 [.agg (Bi p0_),.agg (Bi p1_)] (.d (.bool z)):=by
 exact fO 20 (JjA p0_ p1_) Tryz.func58 (sr (ck 3 (en (sr (ck 7 (gc 1 (p0_.Block==p1_.Block) (ck 1 (gc 2 (p0_.Block==p1_.Block) (ck 1 (gc 2 (p0_.Block==p1_.Block) (pA (ck 1 (en (re (by cases H;exact pr rd)))))))))))))))
end
section
variable (p0_:Ab) (p1_:Ab)
def JjB:St:=⟨(0,.agg [.d (.int .i64 p0_.Block),.d (.int .i64 p0_.At),.d (.int .i64 p0_.Cut),.d (.str p0_.Put)])::(1,.agg [.d (.int .i64 p1_.Block),.d (.int .i64 p1_.At),.d (.int .i64 p1_.Cut),.d (.str p1_.Put)])::[],[]⟩
variable {p0_ p1_}
theorem UJ {z} (H:Ls n p0_ p1_=some z):Aq Tryz.prog 41 [.agg (Bi p0_),.agg (Bi p1_)] (.d (.bool z)):=by
 exact fO 19 (JjB p0_ p1_) Tryz.func41 (sr (ck 3 (en (sr (ck 8 (bx H λ r201 h512 H=>cG false (leZ) rfl (λ hg=>K9 (Ba h512 hg)) (Or.inl rfl) (BW (λ hh=>hh) (BW (λ hh=>hh) (C9))) rfl (ck 2 (bx H λ r202 h513 H=>cG false (leZ) rfl (λ hg=>K9 (Ba h513 hg)) (Or.inl rfl) (BW (λ hh=>hh) (BW (λ hh=>hh) (C9))) rfl (gc 1 (!(p0_.Block != p1_.Block)) (pO (ck 1 (en (re (by cases H;exact pr rd))))))))))))))
end
section
variable (p0_:Ab) (p1_:Ab)
def JjC:St:=⟨(0,.agg [.d (.int .i64 p0_.Block),.d (.int .i64 p0_.At),.d (.int .i64 p0_.Cut),.d (.str p0_.Put)])::(1,.agg [.d (.int .i64 p1_.Block),.d (.int .i64 p1_.At),.d (.int .i64 p1_.Cut),.d (.str p1_.Put)])::[],[]⟩
variable {p0_ p1_}
theorem UK {z} (H:Lt n p0_ p1_=some z):Aq Tryz.prog 60 [.agg (Bi p0_),.agg (Bi p1_)] (.d (.bool z)):=by
 refine fO 34 (JjC p0_ p1_) Tryz.func60 (sr (ck 3 (en (sq (sr (ck 5 (en (cn H (λ H=>?_) (λ H=>?_)))))))))
 ·exact sr (ck 6 (en (re (qr (by cases H;exact pr rd)))))
 ·exact sk (qz (sr (ck 7 (gc 1 (!(decide (p0_.At<p1_.At))) (ck 1 (gc 3 (!(decide (p0_.At<p1_.At))) (ck 1 (gc 1 ((!(decide (p0_.At<p1_.At)))&&(p0_.At==p1_.At)) (ck 1 (gc 2 ((!(decide (p0_.At<p1_.At)))&&(p0_.At==p1_.At)) (pG (g:=(!(decide (p0_.At<p1_.At)))) (v:=.d (.bool ((p0_.At==p1_.At)&&(decide (p0_.Cut<p1_.Cut))))) (λ hg=>CX (c:=.gv (!(decide (p0_.At<p1_.At))) (.d (.bool (p0_.At==p1_.At)))) (a:=.gv ((!(decide (p0_.At<p1_.At)))&&(p0_.At==p1_.At)) (.d (.bool (decide (p0_.Cut<p1_.Cut))))) (b:=.d (.bool false)) rfl rfl rfl ((λ hh=>hh) hg) (λ ht=>by rw [(λ hh=>hh) hg,ht];rfl) trivial) (pO (ck 1 (en (re (by cases H;exact pr rd))))))))))))))))
end
section
variable (p1_:Ab) (o0_:(List Ab)) (x_28:(List Ab)) (i_41:Int) (out_64:(List Ab)) (done_4:Bool) (i_42:Int) (out_65:(List Ab)) (done_5:Bool) (out_66:(List Ab)) (done_6:Bool) (out_67:(List Ab))
def Jb3:St:=⟨(0,.osl 0 4 0 (o0_.length))::(1,.agg [.d (.int .i64 p1_.Block),.d (.int .i64 p1_.At),.d (.int .i64 p1_.Cut),.d (.str p1_.Put)])::[],[some (.arr 4 (o0_.map Ae))]⟩
def Wh:St:=⟨(4,.osl 1 4 0 (x_28.length))::[],[none,some (.arr 4 (x_28.map Ae))]⟩
def Jb4:St:=⟨(0,.osl 0 4 0 (o0_.length))::(3,.ptr 1 0)::(5,.osl 2 4 0 (List.length ([]:List Ab)))::(6,.d (.bool false))::(7,.d (.int .i64 i_41))::[],[some (.arr 4 (o0_.map Ae)),some (.box (Bi p1_)),some (.arr 4 (List.map Ae ([]:List Ab)))]⟩
def Jb5:St:=⟨(0,.osl 0 4 0 (o0_.length))::(3,.ptr 1 0)::(5,.osl 2 4 0 (List.length ([]:List Ab)))::(6,.d (.bool false))::[],[some (.arr 4 (o0_.map Ae)),some (.box (Bi p1_)),some (.arr 4 (List.map Ae ([]:List Ab)))]⟩
def N0:(Unit⊕(List Ab))->Ex->St->Prop:=xS (xX 1 0 (λ (y:Unit)=>Jb5 p1_ o0_)) (xL 1 ty Tryz.f43 (λ (y:(List Ab))=>.osl 1 4 0 (y.length)) (λ (y:(List Ab))=>[none,some (.arr 4 (y.map Ae))]))
def HU:Int->St:=(λ (x:Int)=>Jb4 p1_ o0_ x)
def Jb6:St:=⟨(0,.osl 0 4 0 (o0_.length))::(3,.ptr 1 0)::(5,.osl 2 4 0 (out_64.length))::(6,.d (.bool done_4))::(8,.d (.int .i64 i_42))::[],[some (.arr 4 (o0_.map Ae)),some (.box (Bi p1_)),some (.arr 4 (out_64.map Ae))]⟩
def Jb7:St:=⟨(3,.ptr 1 0)::(5,.osl 2 4 0 (out_65.length))::(6,.d (.bool done_5))::[],[some (.arr 4 (o0_.map Ae)),some (.box (Bi p1_)),some (.arr 4 (out_65.map Ae))]⟩
def Jb8:St:=⟨(0,.osl 0 4 0 (o0_.length))::(3,.ptr 1 0)::(5,.osl 2 4 0 (out_66.length))::(6,.d (.bool done_6))::(8,.d (.int .i64 i_42))::[],[some (.arr 4 (o0_.map Ae)),some (.box (Bi p1_)),some (.arr 4 (out_66.map Ae))]⟩
def N3:((List Ab)×Bool)->Ex->St->Prop:=xX 1 2 (λ (y:((List Ab)×Bool))=>Jb7 p1_ o0_ y.1 y.2)
def HV:((List Ab)×Bool×Int)->St:=(λ (x:((List Ab)×Bool×Int))=>Jb6 p1_ o0_ x.1 x.2.1 x.2.2)
def Jb9:St:=⟨(5,.osl 1 4 0 (out_67.length))::[],[some (.arr 4 (o0_.map Ae)),some (.arr 4 (out_67.map Ae))]⟩
variable {p1_ o0_ x_28 i_41 out_64 done_4 i_42 out_65 done_5 out_66 done_6 out_67}
theorem Hk (x:Int) (z:(Int⊕(Unit⊕(List Ab)))) (H:DQ n p1_ o0_ x=some z):WP (cxk 57 1) (Aw Tryz.f43) [1,1,0,1,0,0] (Au 1 (HU p1_ o0_) (N0 p1_ o0_) z) (HU p1_ o0_ x):=by
 revert H
 generalize x=i_41
 intro H
 refine sq (sr (ck 4 (en (cn H (λ H=>?_) (λ H=>?_)))))
 ·refine sk (qz (sq (bk 1 (sr (ck 2 (bx H λ x141 h523 H=>sp (Bl 0 4 h523) (sp (B3 Ae 0 0 (ty 33) h523) (ck 2 (en (cn H (λ H=>?_) (λ H=>?_)))))))))))
  ·exact sr (ck 2 (en (re (qR (qr (by cases H;exact lo rfl (rl (s':=Wh o0_) (tr (XB (k:=0) (sz:=4) 4 (o0_.map Ae) (o0_.length) (by kernel_rfl) FM leM rfl) (sg [4])))))))))
  ·exact sk (qN (qz (rz (ck 3 (ae (by cases H;exact og (sg [0,3,5,6,7])))))))
 ·exact ex 0 (qx (by cases H;exact xo rfl (sg [0,3,5,6])))
theorem MV (x:((List Ab)×Bool×Int)) (z:(((List Ab)×Bool×Int)⊕((List Ab)×Bool))) (H:DR n p1_ o0_ x.1 x.2.1 x.2.2=some z):WP (cxk 57 1) (Aw Tryz.f43) [1,1,1,0,1,0,0] (Au 1 (HV p1_ o0_) (N3 p1_ o0_) z) (HV p1_ o0_ x):=by
 obtain ⟨out_64,done_4,i_42⟩:=x
 refine sq (sr (ck 4 (en (cn H (λ H=>?_) (λ H=>?_)))))
 ·refine sk (qz (sq (bk 3 (sj (λ (x:((List Ab)×Bool))=>Jb8 p1_ o0_ i_42 x.1 x.2) (λ (x:((List Ab)×Bool))=>F6 n o0_ i_42 x.1 x.2) z ?_ (λ hFR32_insertx_J1=>?_)))))
  ·rintro ⟨out_66,done_6⟩ H
   exact rz (ck 3 (bx H λ x142 h525 H=>sp (Bl 0 4 h525) (sp (B3 Ae 0 0 (ty 33) h525) (ck 1 (bx H λ l61 h526 H=>sp (A3 Ae 2 4 h526) (ck 1 (ae (qN (qz (rz (ck 3 (ae (by cases H;exact og (sg [0,3,5,6,8]))))))))))))))
  refine sr (ck 6 (bx H λ x143 h527 H=>sE (λ hg=>Bl 0 4 (Ba h527 hg)) (sE (g:=(!done_4)) (λ hg=>B3 Ae 0 0 (ty 33) (Ba h527 hg)) (bx H λ r204 h528 H=>cG false (leZ) rfl (λ hg=>UK (Ba h528 hg)) (Or.inl rfl) (BW (λ hh=>hh) (BW (λ hh=>hh) (C9))) rfl (pA (en (cn H (λ H=>?_) (λ H=>?_))))))))
  ·exact sr (ck 3 (bx H λ l62 h529 H=>sp (A3 Ae 2 4 h529) (ck 1 (en (rz (ck 1 (ae (qs (sg [0,3,5,6,8]) (hFR32_insertx_J1 (l62,true) H)))))))))
  ·exact sk (qs (sg [0,3,5,6,8]) (hFR32_insertx_J1 (out_64,done_4) H))
 ·exact ex 2 (qx (by cases H;exact xo rfl (sg [3,5,6])))
theorem Qq {z} (H:Ju n p1_ o0_=some z):BM Tryz.prog 43 [.osl 0 4 0 (o0_.length),.agg (Bi p1_)] [some (.arr 4 (o0_.map Ae))] 1 (.osl 1 4 0 (z.length)) [none,some (.arr 4 (z.map Ae))]:=by
 refine fL 57 1 (Jb3 p1_ o0_) Tryz.func43 (sr (ck 2 (en (sr (ck 3 (en (sq (sr (ck 1 (en (bk 0 (bx H λ y158 h524 H=>?_))))))))))))
 rcases y158 with y159|y160
 ·refine lX Hk h524 (sg [0,3,5,6,7]) rfl λ s hE120=>qH (qs (hE120) (sq (sr (ck 1 (en (bk 2 (bx H λ y161 h530 H=>lX MV h530 (sg [0,3,5,6,8]) rfl λ s hE121=>qH (qs (hE121) (sj (λ (x:(List Ab))=>Jb9 o0_ x) (λ (x:(List Ab))=>F7 n x) z ?_ (λ hFR32_insertx_J2=>?_))))))))))
  ·intro out_67 H
   exact sr (ck 2 (en (re (by cases H;exact pL (rl (s':=Wh z) (tr (Uj 0 rfl) (sg [4])))))))
  refine sr (ck 2 (en (cn H (λ H=>?_) (λ H=>?_))))
  ·exact rz (ck 3 (bx H λ l63 h531 H=>sp (A3 Ae 2 4 h531) (ck 1 (ae (qs (sg [5]) (hFR32_insertx_J2 l63 H))))))
  ·exact sk (qs (sg [5]) (hFR32_insertx_J2 y161.1 H))
 ·exact lL Hk h524 (sg [0,3,5,6,7]) rfl λ s hE122=>qR (qr (by cases H;exact pL hE122))
end
section
variable (p0_:(List AB)) (out_68:(List Ab)) (i_43:Int) (out_69:(List Ab)) (out_70:(List Ab)) (free_9:Bool) (k_24:Int) (free_10:Bool)
def JjD:St:=⟨(0,.d (.sl (p0_.map A1)))::[],[]⟩
def JjE:St:=⟨(0,.d (.sl (p0_.map A1)))::(3,.osl 0 4 0 (out_68.length))::(4,.d (.int .i64 i_43))::[],[some (.arr 4 (out_68.map Ae))]⟩
def JjF:St:=⟨(3,.osl 0 4 0 (out_69.length))::[],[some (.arr 4 (out_69.map Ae))]⟩
def JjG:St:=⟨(0,.d (.sl (p0_.map A1)))::(3,.osl 0 4 0 (out_70.length))::(4,.d (.int .i64 i_43))::[],[some (.arr 4 (out_70.map Ae))]⟩
def JjH:St:=⟨(0,.d (.sl (p0_.map A1)))::(3,.osl 0 4 0 (out_68.length))::(4,.d (.int .i64 i_43))::(5,.d (.bool free_9))::(6,.d (.int .i64 k_24))::[],[some (.arr 4 (out_68.map Ae))]⟩
def JjI:St:=⟨(0,.d (.sl (p0_.map A1)))::(3,.osl 0 4 0 (out_68.length))::(4,.d (.int .i64 i_43))::(5,.d (.bool free_10))::[],[some (.arr 4 (out_68.map Ae))]⟩
def Ph:Bool->Ex->St->Prop:=xX 0 2 (λ (y:Bool)=>JjI p0_ out_68 i_43 y)
def I0:(Bool×Int)->St:=(λ (x:(Bool×Int))=>JjH p0_ out_68 i_43 x.1 x.2)
def Pi:(List Ab)->Ex->St->Prop:=xX 0 0 (λ (y:(List Ab))=>JjF y)
def I1:((List Ab)×Int)->St:=(λ (x:((List Ab)×Int))=>JjE p0_ x.1 x.2)
variable {p0_ out_68 i_43 out_69 out_70 free_9 k_24 free_10}
theorem N4 (x:(Bool×Int)) (z:((Bool×Int)⊕Bool)) (H:EI n p0_ out_68 i_43 x.1 x.2=some z):WP (cxk 56 0) (Aw Tryz.f20) [1,1,0,1,0,0,1,0,0,1,0,1,0,0] (Au 0 (I0 p0_ out_68 i_43) (Ph p0_ out_68 i_43) z) (I0 p0_ out_68 i_43 x):=by
 obtain ⟨free_9,k_24⟩:=x
 refine sq (sr (ck 2 (sp (Av A1 p0_) (ck 1 (en (cn H (λ H=>?_) (λ H=>?_)))))))
 ·exact sk (qz (sq (bk 3 (rz (ck 4 (bx H λ x144 h532 H=>sE (λ hg=>Ak A1 (Ba h532 hg)) (gc 2 free_9 (ck 2 (bx H λ x145 h533 H=>sE (λ hg=>Ak A1 (Ba h533 hg)) (gc 4 free_9 (ck 2 (bx H λ x146 h534 H=>sE (λ hg=>Ak A1 (Ba h534 hg)) (gc 2 (free_9&&!((x144.C.Block==x145.C.Block)&&((x144.C.At==x145.C.At)&&((x144.C.Cut==x145.C.Cut)&&((x144.C.Put==x145.C.Put)&&true))))) (ck 2 (bx H λ x147 h535 H=>sE (λ hg=>Ak A1 (Ba h535 hg)) (gc 2 (free_9&&!((x144.C.Block==x145.C.Block)&&((x144.C.At==x145.C.At)&&((x144.C.Cut==x145.C.Cut)&&((x144.C.Put==x145.C.Put)&&true))))) (bx H λ r205 h536 H=>cG false (leZ) rfl (λ hg=>UJ (Ba h536 hg)) (Or.inl rfl) (BW (λ hh=>hh) (BW (λ hh=>hh) (C9))) rfl (pG (g:=free_9) (v:=.d (.bool (((x144.C.Block==x145.C.Block)&&((x144.C.At==x145.C.At)&&((x144.C.Cut==x145.C.Cut)&&((x144.C.Put==x145.C.Put)&&true))))||r205))) (λ hg=>CX (c:=.gv free_9 (.d (.bool ((x144.C.Block==x145.C.Block)&&((x144.C.At==x145.C.At)&&((x144.C.Cut==x145.C.Cut)&&((x144.C.Put==x145.C.Put)&&true))))))) (a:=.d (.bool true)) (b:=.gv (free_9&&!((x144.C.Block==x145.C.Block)&&((x144.C.At==x145.C.At)&&((x144.C.Cut==x145.C.Cut)&&((x144.C.Put==x145.C.Put)&&true))))) (.d (.bool r205))) rfl rfl rfl ((λ hh=>hh) hg) trivial (λ ht=>by rw [(λ hh=>hh) hg,ht];rfl)) (pA (ck 1 (ae (qN (qz (rz (ck 3 (ae (by cases H;exact og (sg [0,3,4,5,6]))))))))))))))))))))))))))))
 ·exact ex 2 (qx (by cases H;exact xo rfl (sg [0,3,4,5])))
theorem N5 (x:((List Ab)×Int)) (z:(((List Ab)×Int)⊕(List Ab))) (H:EJ n p0_ x.1 x.2=some z):WP (cxk 56 0) (Aw Tryz.f20) [1,1,0,1,0,0] (Au 0 (I1 p0_) (Pi) z) (I1 p0_ x):=by
 obtain ⟨out_68,i_43⟩:=x
 refine sq (sr (ck 2 (sp (Av A1 p0_) (ck 1 (en (cn H (λ H=>?_) (λ H=>?_)))))))
 ·refine sk (qz (sj (λ (x:(List Ab))=>JjG p0_ i_43 x) (λ (x:(List Ab))=>G6 n i_43 x) z ?_ (λ hFR32_Agreed_J1=>?_)))
  ·intro out_70 H
   exact rz (ck 3 (ae (by cases H;exact og (sg [0,3,4]))))
  refine bk 1 (sr (ck 1 (en (sq (sr (ck 1 (en (bk 2 (bx H λ y162 h537 H=>lX N4 h537 (sg [0,3,4,5,6]) rfl λ s hE123=>qH (qs (hE123) (sr (ck 1 (en (cn H (λ H=>?_) (λ H=>?_)))))))))))))))
  ·exact rz (ck 3 (bx H λ x148 h538 H=>sp (Ak A1 h538) (ck 2 (bx H λ r206 h539 H=>lt [0] (Qq h539) (ck 1 (ae (qN (qs (sg [0,3,4]) (hFR32_Agreed_J1 r206 H)))))))))
  ·exact sk (qN (qs (sg [0,3,4]) (hFR32_Agreed_J1 out_68 H)))
 ·exact ex 0 (qx (by cases H;exact xo rfl (sg [3])))
theorem Si {z} (H:KB n p0_=some z):Aq Tryz.prog 20 [.d (.sl (p0_.map A1))] (.own 4 (z.map Ae)):=by
 exact fO 56 (JjD p0_) Tryz.func20 (sr (ck 1 (en (sr (ck 2 (en (sq (sr (ck 1 (en (bk 0 (bx H λ y163 h540 H=>lX N5 h540 (sg [0,3,4]) rfl λ s hE124=>qH (qs (hE124) (sr (ck 2 (en (re (by cases H;exact pr (rO (v:=.osl 0 4 0 (z.length)) [0] (ao vo))))))))))))))))))))
end
section
variable (p0_:(List UInt8)) (p1_:(List Ab)) (p2_:Int) (out_71:(List UInt8)) (at_4:Int) (i_48:Int) (out_72:(List UInt8)) (at_5:Int) (out_73:(List UInt8)) (at_6:Int)
def JjJ:St:=⟨(0,.d (.str p0_))::(1,.d (.sl (p1_.map Ae)))::(2,.d (.int .i64 p2_))::[],[]⟩
def JjK:St:=⟨(0,.d (.str p0_))::(1,.d (.sl (p1_.map Ae)))::(2,.d (.int .i64 p2_))::(7,.d (.str out_71))::(8,.d (.int .i64 at_4))::(9,.d (.int .i64 i_48))::[],[]⟩
def JjL:St:=⟨(0,.d (.str p0_))::(7,.d (.str out_72))::(8,.d (.int .i64 at_5))::[],[]⟩
def JjM:St:=⟨(0,.d (.str p0_))::(1,.d (.sl (p1_.map Ae)))::(2,.d (.int .i64 p2_))::(7,.d (.str out_73))::(8,.d (.int .i64 at_6))::(9,.d (.int .i64 i_48))::[],[]⟩
def MW:((List UInt8)×Int)->Ex->St->Prop:=xX 0 0 (λ (y:((List UInt8)×Int))=>JjL p0_ y.1 y.2)
def Hl:((List UInt8)×Int×Int)->St:=(λ (x:((List UInt8)×Int×Int))=>JjK p0_ p1_ p2_ x.1 x.2.1 x.2.2)
variable {p0_ p1_ p2_ out_71 at_4 i_48 out_72 at_5 out_73 at_6}
theorem LT (x:((List UInt8)×Int×Int)) (z:(((List UInt8)×Int×Int)⊕((List UInt8)×Int))) (H:Dr n p0_ p1_ p2_ x.1 x.2.1 x.2.2=some z):WP (cxk 61 0) (Aw Tryz.f24) [1,1,0,1,0,0] (Au 0 (Hl p0_ p1_ p2_) (MW p0_) z) (Hl p0_ p1_ p2_ x):=by
 obtain ⟨out_71,at_4,i_48⟩:=x
 refine sq (sr (ck 2 (sp (Av Ae p1_) (ck 1 (en (cn H (λ H=>?_) (λ H=>?_)))))))
 ·refine sk (qz (sj (λ (x:((List UInt8)×Int))=>JjM p0_ p1_ p2_ i_48 x.1 x.2) (λ (x:((List UInt8)×Int))=>Fn n i_48 x.1 x.2) z ?_ (λ hFL32_replaced_J1=>?_)))
  ·rintro ⟨out_73,at_6⟩ H
   exact rz (ck 3 (ae (by cases H;exact og (sg [0,1,2,7,8,9]))))
  refine bk 1 (sr (ck 2 (bx H λ x159 h573 H=>sp (Ak Ae h573) (ck 3 (en (sr (ck 6 (gc 1 (x159.Block==p2_) (ck 1 (gc 1 (x159.Block==p2_) (pA (ck 2 (gc 1 ((x159.Block==p2_)&&(decide (x159.At>=at_4))) (ck 1 (gc 1 ((x159.Block==p2_)&&(decide (x159.At>=at_4))) (ck 1 (gc 3 ((x159.Block==p2_)&&(decide (x159.At>=at_4))) (pA (en (cn H (λ H=>?_) (λ H=>?_)))))))))))))))))))))
  ·exact sr (ck 5 (bx H λ s14 h574 H=>sp (Gn h574) (ck 2 (bx H λ s15 h575 H=>sp (Jk h575) (bx H λ s16 h576 H=>sp (Jk h576) (ck 1 (en (rz (ck 6 (ae (qN (qs (sg [0,1,2,7,8,9]) (hFL32_replaced_J1 (s16,(Ai .i64 x159.At x159.Cut)) H)))))))))))))
  ·exact sk (qN (qs (sg [0,1,2,7,8,9]) (hFL32_replaced_J1 (out_71,at_4) H)))
 ·exact ex 0 (qx (by cases H;exact xo rfl (sg [0,7,8])))
theorem Pj {z} (H:Id n p0_ p1_ p2_=some z):Aq Tryz.prog 24 [.d (.str p0_),.d (.sl (p1_.map Ae)),.d (.int .i64 p2_)] (.d (.str z)):=by
 exact fO 61 (JjJ p0_ p1_ p2_) Tryz.func24 (sr (ck 1 (en (sr (ck 2 (en (sq (sr (ck 1 (en (bk 0 (bx H λ y175 h577 H=>lX LT h577 (sg [0,1,2,7,8,9]) rfl λ s hE134=>qH (qs (hE134) (sr (ck 3 (bx H λ s17 h578 H=>sp (Gn h578) (bx H λ s18 h579 H=>sp (Jk h579) (ck 1 (en (re (by cases H;exact pr rd)))))))))))))))))))))
end
section
variable (p0_:(List Bd)) (p1_:(List AS)) (p2_:Int) (r220:Bool) (r221:(List Ag)) (r222:(List AB)) (r223:Ao) (turned_1:(List AB)) (i_49:Int) (turned_2:(List AB)) (r226:(List Ab)) (i_50:Int) (s_4:(List UInt8)) (n_6:Int) (s_5:(List UInt8)) (s_6:(List UInt8))
def Jld:St:=⟨(0,.d (.sl (p0_.map BO)))::(1,.d (.sl (p1_.map A8)))::(2,.d (.int .u8 p2_))::[],[]⟩
def Jle:St:=⟨(2,.d (.int .u8 p2_))::(7,.d (.bool r220))::(8,.d (.sl (r221.map Ay)))::(9,.d (.sl (r222.map A1)))::(10,.ptr 0 0)::(11,.osl 1 5 0 (turned_1.length))::(12,.d (.int .i64 i_49))::[],[some (.box [.d (.sl (r223.Agreed.map Ae)),.d (.sl (r223.Quarrels.map (Bc A6)))]),some (.arr 5 (turned_1.map A1))]⟩
def Jlf:St:=⟨(7,.d (.bool r220))::(8,.d (.sl (r221.map Ay)))::(9,.d (.sl (r222.map A1)))::(10,.ptr 0 0)::(11,.osl 1 5 0 (turned_2.length))::[],[some (.box [.d (.sl (r223.Agreed.map Ae)),.d (.sl (r223.Quarrels.map (Bc A6)))]),some (.arr 5 (turned_2.map A1))]⟩
def J9:(List AB)->Ex->St->Prop:=xX 0 0 (λ (y:(List AB))=>Jlf r220 r221 r222 r223 y)
def E0:((List AB)×Int)->St:=(λ (x:((List AB)×Int))=>Jle p2_ r220 r221 r222 r223 x.1 x.2)
def Jlg:St:=⟨(7,.d (.bool r220))::(8,.d (.sl (r221.map Ay)))::(10,.ptr 0 0)::(13,.d (.sl (r226.map Ae)))::(14,.d (.int .i64 i_50))::[],[some (.box [.d (.sl (r223.Agreed.map Ae)),.d (.sl (r223.Quarrels.map (Bc A6)))])]⟩
def Jlh:St:=⟨(7,.d (.bool r220))::[],[]⟩
def Jli:St:=⟨(7,.d (.bool r220))::(8,.d (.sl (r221.map Ay)))::(10,.ptr 0 0)::(13,.d (.sl (r226.map Ae)))::(14,.d (.int .i64 i_50))::[],[some (.box [.d (.sl (r223.Agreed.map Ae)),.d (.sl (r223.Quarrels.map (Bc A6)))])]⟩
def Jlj:St:=⟨(7,.d (.bool r220))::(8,.d (.sl (r221.map Ay)))::(10,.ptr 0 0)::(13,.d (.sl (r226.map Ae)))::(14,.d (.int .i64 i_50))::(15,.d (.str s_4))::(16,.d (.int .i64 n_6))::[],[some (.box [.d (.sl (r223.Agreed.map Ae)),.d (.sl (r223.Quarrels.map (Bc A6)))])]⟩
def Jlk:St:=⟨(7,.d (.bool r220))::(8,.d (.sl (r221.map Ay)))::(10,.ptr 0 0)::(13,.d (.sl (r226.map Ae)))::(14,.d (.int .i64 i_50))::(15,.d (.str s_5))::[],[some (.box [.d (.sl (r223.Agreed.map Ae)),.d (.sl (r223.Quarrels.map (Bc A6)))])]⟩
def Jll:St:=⟨(7,.d (.bool r220))::(8,.d (.sl (r221.map Ay)))::(10,.ptr 0 0)::(13,.d (.sl (r226.map Ae)))::(14,.d (.int .i64 i_50))::(15,.d (.str s_6))::(16,.d (.int .i64 n_6))::[],[some (.box [.d (.sl (r223.Agreed.map Ae)),.d (.sl (r223.Quarrels.map (Bc A6)))])]⟩
def Ka:((List UInt8)⊕Bool)->Ex->St->Prop:=xS (xX 0 4 (λ (y:(List UInt8))=>Jlk r220 r221 r223 r226 i_50 y)) (xR ty Tryz.f6 (λ (y:Bool)=>.d (.bool y)))
def E1:((List UInt8)×Int)->St:=(λ (x:((List UInt8)×Int))=>Jlj r220 r221 r223 r226 i_50 x.1 x.2)
def Kb:(Unit⊕Bool)->Ex->St->Prop:=xS (xX 0 2 (λ (y:Unit)=>Jlh r220)) (xR ty Tryz.f6 (λ (y:Bool)=>.d (.bool y)))
def E2:Int->St:=(λ (x:Int)=>Jlg r220 r221 r223 r226 x)
variable {p0_ p1_ p2_ r220 r221 r222 r223 turned_1 i_49 turned_2 r226 i_50 s_4 n_6 s_5 s_6}
theorem Jy (x:((List AB)×Int)) (z:(((List AB)×Int)⊕(List AB))) (H:Cw n p2_ r220 r221 r222 r223 x.1 x.2=some z):WP (cxk 118 0) (Aw Tryz.f6) [1,1,1,1,1,0,1,0,0] (Au 0 (E0 p2_ r220 r221 r222 r223) (J9 r220 r221 r222 r223) z) (E0 p2_ r220 r221 r222 r223 x):=by
 obtain ⟨turned_1,i_49⟩:=x
 refine sq (sr (ck 2 (sp (Av A1 r222) (ck 1 (en (cn H (λ H=>?_) (λ H=>?_)))))))
 ·exact sk (qz (sq (bk 1 (rz (ck 7 (sp (Av A1 r222) (bx H λ gd15 h584 H=>so (DB h584) (bx H λ x160 h585 H=>sp (Ak A1 h585) (ck 2 (bx H λ l66 h586 H=>sp (A3 A1 1 5 h586) (ck 1 (ae (qN (qz (rz (ck 3 (ae (by cases H;exact og (sg [2,7,8,9,10,11,12])))))))))))))))))))
 ·exact ex 0 (qx (by cases H;exact xo rfl (sg [7,8,9,10,11])))
theorem EO (x:((List UInt8)×Int)) (z:(((List UInt8)×Int)⊕((List UInt8)⊕Bool))) (H:Cy n r220 r221 r223 r226 i_50 x.1 x.2=some z):WP (cxk 118 0) (Aw Tryz.f6) [1,1,1,1,1,1,1,1,0,1,0,0,1,0,0,1,1,0,1,0,0] (Au 0 (E1 r220 r221 r223 r226 i_50) (Ka r220 r221 r223 r226 i_50) z) (E1 r220 r221 r223 r226 i_50 x):=by
 obtain ⟨s_4,n_6⟩:=x
 refine sq (sr (ck 3 (sp (Av Ae r223.Agreed) (ck 1 (en (cn H (λ H=>?_) (λ H=>?_)))))))
 ·refine sk (qz (sj (λ (x:(List UInt8))=>Jll r220 r221 r223 r226 i_50 n_6 x) (λ (x:(List UInt8))=>Dx n n_6 x) z ?_ (λ hFL32_CarryAgrees_J2=>?_)))
  ·intro s_6 H
   exact rz (ck 3 (ae (by cases H;exact og (sg [7,8,10,13,14,15,16]))))
  refine bk 5 (sq (sr (ck 3 (bx H λ x162 h593 H=>sp (Ak Ae h593) (ck 4 (en (cn H (λ H=>?_) (λ H=>?_))))))))
  ·exact ex 5 (qx (qH (qs (sg [7,8,10,13,14,15,16]) (hFL32_CarryAgrees_J2 s_4 H))))
  ·refine sk (qz (sr (ck 4 (bx H λ x163 h594 H=>sp (Ak Ae h594) (ck 1 (bx H λ r228 h595 H=>ca false (UI h595) (ck 5 (en (sq (sr (ck 2 (en (cn H (λ H=>?_) (λ H=>?_))))))))))))))
   ·exact sr (ck 1 (en (re (qr (qR (qr (by cases H;exact ro rfl rd)))))))
   ·exact sk (qz (rz (ck 2 (ae (qN (qs (sg [7,8,10,13,14,15,16]) (hFL32_CarryAgrees_J2 r228.1 H)))))))
 ·exact ex 4 (qx (by cases H;exact xo rfl (sg [7,8,10,13,14,15])))
theorem EP (x:Int) (z:(Int⊕(Unit⊕Bool))) (H:Cz n r220 r221 r223 r226 x=some z):WP (cxk 118 0) (Aw Tryz.f6) [1,1,1,1,1,1,1,1,0,1,0,0] (Au 0 (E2 r220 r221 r223 r226) (Kb r220) z) (E2 r220 r221 r223 r226 x):=by
 revert H
 generalize x=i_50
 intro H
 refine sq (sr (ck 2 (sp (Av Ay r221) (ck 1 (en (cn H (λ H=>?_) (λ H=>?_)))))))
 ·refine sk (qz (sj (λ (x:Unit)=>Jli r220 r221 r223 r226 i_50) (λ (x:Unit)=>Dw n i_50) z ?_ (λ hFL32_CarryAgrees_J1=>?_)))
  ·intro _ H
   exact rz (ck 3 (ae (by cases H;exact og (sg [7,8,10,13,14]))))
  refine bk 3 (sq (sr (ck 2 (bx H λ r227 h591 H=>ca false (K7 h591) (ck 1 (en (cn H (λ H=>?_) (λ H=>?_))))))))
  ·exact ex 3 (qx (qH (qs (sg [7,8,10,13,14]) (hFL32_CarryAgrees_J1 () H))))
  ·refine sk (qz (sr (ck 2 (bx H λ x161 h592 H=>sp (Ak Ay h592) (ck 3 (en (sq (sr (ck 1 (en (bk 4 (bx H λ y177 h596 H=>?_))))))))))))
   rcases y177 with y178|y179
   ·refine lX EO h596 (sg [7,8,10,13,14,15,16]) rfl λ s hE136=>qH (qs (hE136) (sr (ck 3 (bx H λ x164 h597 H=>sp (Ak Ay h597) (ck 4 (bx H λ r229 h598 H=>ca false (Pj h598) (ck 1 (en (cn H (λ H=>?_) (λ H=>?_))))))))))
    ·exact sr (ck 1 (en (re (qR (qr (by cases H;exact ro rfl rd))))))
    ·exact sk (qN (qs (sg [7,8,10,13,14]) (hFL32_CarryAgrees_J1 () H)))
   ·exact lR EO h596 (sg [7,8,10,13,14,15,16]) rfl λ s hE137=>qR (qr (qR (qr (by cases H;exact ro rfl hE137))))
 ·exact ex 2 (qx (by cases H;exact xo rfl (sg [7])))
theorem LU {z} (H:Fp n p0_ p1_ p2_=some z):Aq Tryz.prog 6 [.d (.sl (p0_.map BO)),.d (.sl (p1_.map A8)),.d (.int .u8 p2_)] (.d (.bool z)):=by
 refine fO 118 (Jld p0_ p1_ p2_) Tryz.func6 (sr (ck 1 (en (sr (bx H λ r220 h580 H=>ca true (RY h580) (ck 1 (en (sr (ck 1 (bx H λ r221 h581 H=>ca false (UG h581) (ck 1 (en (sr (ck 2 (bx H λ r222 h582 H=>ca false (Sh h582) (ck 1 (en (sr (ck 1 (bx H λ r223 h583 H=>ca false (KF h583) (ck 4 (en (sq (sr (ck 1 (en (bk 0 (bx H λ y176 h587 H=>lX Jy h587 (sg [2,7,8,9,10,11,12]) rfl λ s hE135=>qH (qs (hE135) (sq (sr (ck 3 (bx H λ r224 h588 H=>cb (ks:=[1]) (obl:=[(0+List.length y176,List.length (y176.map A1))]) false (leK leM (leZ)) (CJ Ga rfl) (KF h588) (Or.inr ⟨(ZA λ _=>rfl),⟨(ZA λ _=>rfl),trivial⟩⟩) rfl (ck 1 (bx H λ r225 h589 H=>ca false (Gd h589) (ck 3 (gc 1 (!(!r225)) (sE (g:=(!(!r225))) (λ hg=>Av Ae r223.Agreed) (ck 1 (sE (g:=(!(!r225))) (λ hg=>Av A1 r222) (gc 1 (!(!r225)) (pO (en (cn H (λ H=>?_) (λ H=>?_)))))))))))))))))))))))))))))))))))))))))))))
 ·exact sr (ck 1 (en (re (qr (by cases H;exact pr rd)))))
 ·refine sk (qz (sr (ck 1 (bx H λ r226 h590 H=>ca false (Si h590) (ck 1 (en (sq (sr (ck 1 (en (bk 2 (bx H λ y180 h599 H=>?_))))))))))))
  rcases y180 with y181|y182
  ·exact lX EP h599 (sg [7,8,10,13,14]) rfl λ s hE138=>qH (qs (hE138) (sr (ck 2 (en (re (by cases H;exact pr rd))))))
  ·exact lR EP h599 (sg [7,8,10,13,14]) rfl λ s hE139=>qR (qr (by cases H;exact pr hE139))
end
end Go.AI
end
section
namespace Go.AI
def CRd (F:Nat->Option Obj) (l:List D) (cs:List Value):Prop:=l.length=cs.length/\∀ (i:Nat) (y:D) (v:Value),l[i]? = some y->cs[i]? = some v->Bf F y v
def E3 {α:Type} (P:Program) (t:TypeId) (enc:α->List D) (ok:α->Prop):Prop:=
 ∀ (H:Type) (e:TypeId×Value->H) (w:World) (base:Nat) (spare:Nat->Bool) (held:Bool) (fuel:Nat) (cs:List Value) (x:DataW H×List MemPlace),DataW.trod e P w base spare held fuel t cs=some x->∃ a:α,ok a/\CRd (λ b=>w.heap[b]?) (enc a) cs
theorem UL {F:Nat->Option Obj} {y:D} {v:Value} (h:Bf F y v):CRd F [y] [v]:=by
 refine ⟨rfl,λ i a b ha hb=>?_⟩
 cases i with
 | zero=>simp at ha hb;subst ha;subst hb;exact h
 | succ i=>simp at ha
theorem ZN {P:Program} {t:TypeId} {k:IntKind} (ht:P.underlying t=some (.int k)):E3 P t (λ n=>[.int k n]) (λ n=>(Lit.int k n).wf=true):=by
 intro H e w base spare held fuel cs x h
 obtain ⟨n,rfl,_,hw⟩:=DataW.trod_int ht h
 exact ⟨n,hw,UL (.int k n)⟩
theorem Wi {α:Type} {Q:Nat->α->Prop}:∀ n,(∀ i,i<n->∃ a,Q i a)->∃ l:List α,l.length=n/\∀ i a,l[i]? = some a->Q i a:=by
 intro n
 induction n with
 | zero=>intro _;exact ⟨[],rfl,λ i a h=>by simp at h⟩
 | succ n ih=>
  intro h
  obtain ⟨l,hl,hq⟩:=ih λ i hi=>h i (by omega)
  obtain ⟨a,ha⟩:=h n (by omega)
  refine ⟨l++[a],by simp [hl],λ i b hb=>?_⟩
  rcases JmE i l.length with hlt|hge
  ·rw [JmU hlt] at hb;exact hq i b hb
  ·rw [Jm3 hge] at hb
   have:i-l.length=0:=by have:=Ad hb;simp at this;omega
   rw [this] at hb
   simp at hb
   subst hb
   have:i=n:=by omega
   subst this
   exact ha
theorem Wj {α β:Type} {f:α->Option β}:∀ {l:List α} {r:List β},l.mapM f=some r->r.length=l.length/\∀ (i:Nat) (a:α),l[i]? = some a->r[i]? = f a:=by
 intro l
 induction l with
 | nil=>intro r h;simp at h;subst h;exact ⟨rfl,λ i a h=>by simp at h⟩
 | cons a l ih=>
  intro r h
  rw [List.mapM_cons] at h
  simp only [Option.bind_eq_bind,Option.bind_eq_some_iff,Option.pure_def,JmX] at h
  obtain ⟨b,hb,r',hr',rfl⟩:=h
  obtain ⟨h1,h2⟩:=ih hr'
  refine ⟨by simp [h1],λ i x hx=>?_⟩
  cases i with
  | zero=>simp at hx;subst hx;simp [hb]
  | succ i=>simpa using h2 i x (by simpa using hx)
theorem EQ {α:Type} {P:Program} {t e:TypeId} {enc:α->List D} {ok:α->Prop} {sz:Nat} (ht:P.underlying t=some (.slice e)) (hsz:P.cellsOf e=sz) (h1:Nat.ble 1 sz=true) (hl:∀ a,(enc a).length=sz) (he:E3 P e enc ok):E3 P t (eL enc) (λ l=>l.length<=9223372036854775807/\∀ a∈l,ok a):=by
 intro H en w base spare held fuel cs x h
 have h1:=Jm1 h1
 rcases DataW.trod_slice ht h with ⟨rfl,_⟩|⟨a,len,cap,elems,rest,n,_,rfl,_,_,hcap,hmx,hel,hget,_,_⟩
 ·exact ⟨[],⟨by simp,λ a h=>by simp at h⟩,UL (.sl0 _ _)⟩
 ·rw [hsz] at hget
  have hex:∀ i,i<len->∃ y:α,ok y/\∃ ci,w.cells? base (a.add (i*sz)) sz=some ci/\CRd (λ b=>w.heap[b]?) (enc y) ci:=λ i hi=>by
   have hg:=hget i hi
   rw [JmM (show i<elems.length by omega)] at hg
   simp only [Option.bind_eq_some_iff] at hg
   obtain ⟨ci,hc,htr⟩:=hg
   obtain ⟨y,hy,hcr⟩:=he H en w base spare held n ci _ htr
   exact ⟨y,hy,ci,hc,hcr⟩
  obtain ⟨l,hll,hq⟩:=Wi len hex
  refine ⟨l,⟨by unfold maxLen at hmx;omega,λ y hy=>?_⟩,UL ?_⟩
  ·obtain ⟨i,hi⟩:=List.mem_iff_getElem?.1 hy
   exact (hq i y hi).1
  ·rcases Nat.eq_zero_or_pos len with h0|hpos
   ·have:l=[]:=List.length_eq_zero_iff.1 (by omega)
    subst this;subst h0
    exact .sl0 _ _
   ·
    have hcell:∀ i y,l[i]? = some y->∀ j,j<sz->∃ v,w.cell? ((a.add (i*sz)).add j)=some v/\∀ d,(enc y)[j]? = some d->Bf (λ b=>w.heap[b]?) d v:=λ i y hy j hj=>by
     obtain ⟨_,ci,hc,hcr⟩:=hq i y hy
     unfold World.cells? at hc
     split at hc
     ·obtain ⟨g1,g2⟩:=Wj hc
      have:=g2 j j (by simp [hj])
      have hjc:j<ci.length:=by rw [g1];simpa using hj
      rw [JmM hjc] at this
      exact ⟨ci[j],this.symm,λ d hd=>hcr.2 j d _ hd (JmM hjc)⟩
     ·cases hc
    have h0:l[0]? = some l[0]:=JmM (by omega)
    obtain ⟨v0,hv0,_⟩:=hcell 0 _ h0 0 (by omega)
    have ha0:(a.add (0*sz)).add 0=a:=by simp [Addr.add]
    rw [ha0] at hv0
    obtain ⟨b,off,spot⟩:=a
    unfold World.cell? at hv0
    simp only at hv0
    split at hv0
    ·rename_i c ty fr hblk
     cases spot with
     | some s=>simp at hv0
     | none=>
      have hcell':∀ i y,l[i]? = some y->∀ j d,(enc y)[j]? = some d->∃ v,c[off+i*sz+j]? = some v/\Bf (λ b=>w.heap[b]?) d v:=λ i y hy j d hd=>by
       have hj:j<sz:=by rw [← hl y];exact Ad hd
       obtain ⟨v,hv,hr⟩:=hcell i y hy j hj
       rw [BK,BK,Kg hblk] at hv
       exact ⟨v,hv,hr d hd⟩
      have hlen:(l.map enc).length=len:=by simp [hll]
      have:=Bf.sl (F:=λ b=>w.heap[b]?) (l.map enc) b off cap sz c ty fr (λ i j=>(c[off+i*sz+j]?).getD undef) hblk (λ e he=>by
        simp only [JmG] at he
        obtain ⟨y,_,rfl⟩:=he
        exact hl y) (by omega) (λ i e hi j d hd=>by
        simp only [JmQ,JmP] at hi
        obtain ⟨y,hy,rfl⟩:=hi
        obtain ⟨v,hv,_⟩:=hcell' i y hy j d hd
        simp only [hv,JmA]) (λ i e hi j d hd=>by
        simp only [JmQ,JmP] at hi
        obtain ⟨y,hy,rfl⟩:=hi
        obtain ⟨v,hv,hr⟩:=hcell' i y hy j d hd
        simp only [hv,JmA]
        exact hr)
      rw [hlen] at this
      exact this
    ·cases hv0
theorem Bh {F:Nat->Option Obj} {l m:List D} {cs:List Value} {o n:Nat} (h:CRd F l ((cs.drop o).take n)) (hn:Nat.beq l.length n=true) (h':CRd F m (cs.drop (o+n))):CRd F (l++m) (cs.drop o):=by
 have hn:=JmT hn
 have e:cs.drop o=(cs.drop o).take n++cs.drop (o+n):=by rw [← List.drop_drop,List.take_append_drop]
 rw [e]
 refine ⟨by simp only [List.length_append,h.1,h'.1],λ i y v hy hv=>?_⟩
 rcases JmE i l.length with hlt|hge
 ·rw [JmU hlt] at hy
  rw [JmU (by rw [← h.1];exact hlt)] at hv
  exact h.2 i y v hy hv
 ·rw [Jm3 hge] at hy
  rw [Jm3 (by rw [← h.1];exact hge),← h.1] at hv
  exact h'.2 _ y v hy hv
theorem Lu {F:Nat->Option Obj} {cs:List Value} {o:Nat} (h:cs.length<=o):CRd F [] (cs.drop o):=by
 rw [List.drop_eq_nil_of_le h];exact ⟨rfl,λ i y v hy=>by simp at hy⟩
theorem Sj {H:Type} {enc:TypeId×Value->H} {P:Program} {w:World} {base:Nat} {spare:Nat->Bool} {held:Bool} {fuel:Nat} {t e:TypeId} {n:Nat} {cs:List Value} {x:DataW H×List MemPlace} (ht:P.underlying t=some (.array n e)) (h:DataW.trod enc P w base spare held fuel t cs=some x) :
  ∃ m,cs.length=P.cellsOf t/\∀ i,i<n->∃ y,DataW.trod enc P w base spare held m e ((cs.drop (i*P.cellsOf e)).take (P.cellsOf e))=some y:=by
 cases fuel with
 | zero=>simp [DataW.trod] at h
 | succ m=>
  unfold DataW.trod at h
  rw [ht] at h
  split at h<;>simp_all
  obtain ⟨xs,hp,_⟩:=h.2
  refine ⟨m,λ i hi=>?_⟩
  obtain ⟨g1,g2⟩:=Wj hp
  have:=g2 i i (by simp [hi])
  have hlt:i<xs.length:=by rw [g1];simpa using hi
  rw [JmM hlt] at this
  exact ⟨_,_,this.symm⟩
end Go.AI
end
section
namespace Go.AI
open Go.ChangeShapes Go.WideShapes Go.ChangeAt Go.RowKit
variable {P:Program} {H:Type} {en:TypeId×Value->H} {W W':World} {base:Nat} {spare:Nat->Bool} {held:Bool} {t e:TypeId} {v:Value} {d:DataW H} {ps:List MemPlace} {α:Type} {enc:α->List D} {ok:α->Prop}
theorem UM {y:α->D} (hc:v.cells=#[v]) (hd:DataW.Trod en P W base spare held t v d ps) (hr:E3 P t enc ok) (he:∀ a,enc a=[y a]):∃ a,ok a/\Ah (λ b=>W.heap[b]?) noR (.d (y a)) v:=by
 obtain ⟨fuel,hf⟩:=hd
 obtain ⟨a,h1,h2,h3⟩:=hr H en W base spare held fuel _ _ hf
 refine ⟨a,h1,.d _ _ (h3 0 (y a) v (by rw [he];rfl) (by rw [hc];rfl))⟩
theorem JjN {F:Nat->Option Obj} {ρ:Nat->Option Loc}:CR F ρ [] []:=⟨rfl,λ i a v h=>by simp at h⟩
theorem UN {F:Nat->Option Obj} {ρ:Nat->Option Loc} {a:AV} {v:Value} {l:List AV} {vs:List Value} (h:Ah F ρ a v) (h':CR F ρ l vs):CR F ρ (a::l) (v::vs):=by
 refine ⟨by simp [h'.1],λ i x u hx hu=>?_⟩
 cases i with
 | zero=>simp at hx hu;subst hx;subst hu;exact h
 | succ i=>exact h'.2 i x u (by simpa using hx) (by simpa using hu)
theorem fld {w:World} {fuel:Nat} {cs:List Value} {fs:Array Field} {xs:List (DataW H×List MemPlace)} (hg:∀ (i:Nat) (f:Field),fs[i]? = some f->DataW.trod en P w base spare held fuel f.type ((cs.drop f.offset).take (P.cellsOf f.type))=xs[i]?) (hxl:xs.length=fs.size) (i:Nat) {f:Field} (hf:fs[i]? = some f) (u o n:Nat) (hu:f.type=u) (ho:f.offset=o) (hn:P.cellsOf u=n) (hr:E3 P u enc ok) :
  ∃ a,ok a/\CRd (λ b=>w.heap[b]?) (enc a) ((cs.drop o).take n):=by
 have:=hg i f hf
 have hi:i<xs.length:=by rw [hxl];exact Ap hf
 rw [JmM hi,hu,ho,hn] at this
 exact hr H en w base spare held fuel _ _ this
theorem Wk {w:World} {fuel:Nat} {cs:List Value} {m:Nat} (hg:∀ i,i<m->∃ y,DataW.trod en P w base spare held fuel e ((cs.drop (i*P.cellsOf e)).take (P.cellsOf e))=some y) (i:Nat) (hi:Nat.ble (i+1) m=true) (o n:Nat) (hn:P.cellsOf e=n) (ho:i*n=o) (hr:E3 P e enc ok) :
  ∃ a,ok a/\CRd (λ b=>w.heap[b]?) (enc a) ((cs.drop o).take n):=by
 obtain ⟨y,hy⟩:=hg i (Jm1 hi)
 rw [hn,ho] at hy
 exact hr H en w base spare held fuel _ _ hy
theorem Jca {f:FuncId} {args:List AV} {vs:Array Value} (hc:Aq P f args (.d (.bool true))) (hcr:CR (λ b=>W.heap[b]?) noR args vs.toList):Calls P f vs W λ e W'=>e=.returned (.bool true)/\(∀ before:List MemPlace,W.keptBut W' (·∈before))/\∀ b,b<W.heap.size->W'.heap[b]? = W.heap[b]? := by
 refine (hc.2 (λ b=>W.heap[b]?) W vs hcr λ b o h=>h).mono λ e W' h=>?_
 obtain ⟨v,F',ρ,rfl,hS,hr,hmu⟩:=h
 have hv:v=.bool true:=by
  have:(BB true 0 (.d (.bool true))).1=.d (.bool true):=rfl
  rw [this] at hr
  exact hr.bool
 subst hv
 have hold:∀ b,b<W.heap.size->W'.heap[b]? = W.heap[b]? := λ b hb=>hS.old b (by omega)
 refine ⟨rfl,λ before=>World.keptBut_mono (λ p hp=>hp.elim) (?_:W.keptBut W' λ _=>False),hold⟩
 refine ⟨hmu.os,hmu.out,λ i hi=>?_⟩
 rw [hold i hi]
 cases hh:W.heap[i]? with
 | none=>rfl
 | some o=>cases o<;>first|exact ⟨rfl,rfl,rfl,λ _ _=>rfl⟩|exact .inr ⟨rfl,rfl⟩|rfl
theorem ZO {f:Func} {s:ChangeSpec} {apart fresh handsOn again:Bool} {args:Array Value} {ds gs:List (DataW H)} {before pa pv:List MemPlace}
  (hW:DataW.Whole en P f.params.toList s.vars apart W args.toList ds gs before)
  (hres:∀ (b:Nat) (sp:Nat->Bool) (hd:Bool),DataW.TrodAll en P W' b sp hd f.resultTypes.toList (v.resultList f.resultTypes.size) (s.fn H (ds++gs)).results [])
  (hargs:∀ sp:Nat->Bool,(∀ p∈before,sp p.block=true)->DataW.TrodAll en P W' 0 sp true f.params.toList args.toList (s.fn H (ds++gs)).args pa)
  (hvars:∀ sp:Nat->Bool,(∀ p∈before,sp p.block=true)->DataW.TrodVars en P W' sp s.vars (s.fn H (ds++gs)).vars pv)
  (hps:before=pa++pv) (hk:W.keptBut W' (·∈before)) (hold:∀ b,b<W.heap.size->W'.heap[b]? = W.heap[b]?)
  (hok:∀ (j:Nat) (t:TypeId) (r:Value),f.resultTypes[j]? = some t->(v.resultList f.resultTypes.size)[j]? = some r->Value.okWide P W' .any 0 t r) :
  s.post en P f apart fresh handsOn again W args v W':=by
 have hin:∀ p∈before,(λ b=>decide (b<W.heap.size)) p.block=true:=λ p hp=>by simpa using hW.lt p hp
 have hlt:=hW.lt
 refine ⟨ds,gs,before,[],pa,pv,hW,hres _ _ _,hargs _ hin,hvars _ hin,World.keptBut_mono (λ p hp=>⟨hp,?_⟩) hk,λ _=>?_⟩
 ·rw [hps,List.mem_append] at hp
  exact Or.inr hp
 ·obtain ⟨_,_,_,_,_,hz,hn⟩:=hW
  refine ⟨hok,_,_,([]++pa)++pv,⟨[]++pa,pv,trodAll_append (hargs _ (λ _ _=>rfl)) (hres _ _ _),hvars _ (λ _ _=>rfl),rfl,?_,?_⟩,?_⟩
  ·intro b off hp
   have hp:MemPlace.cell b off∈before:=by rw [hps];simpa using hp
   have:=hz b off hp
   simp only [World.frozen?,hold b (hlt _ hp)] at this ⊢
   exact this
  ·intro ha
   have:=hn ha
   rw [hps] at this
   simpa using this
  ·intro p hp _
   rw [hps]
   simpa using hp
theorem Jcb (hl:laidOutB P=true) (hr:P.readableRec t=true) (hrow:t<P.types.size) (h:DataW.Trod en P W 0 (λ _=>true) true t v d ps) (hb:∀ p∈ps,p.block<W.heap.size) {sp:Nat->Bool} (hs:∀ p∈ps,sp p.block=true) (hold:∀ b,b<W.heap.size->W'.heap[b]? = W.heap[b]?):DataW.Trod en P W' 0 sp true t v d ps:=by
 refine WideElems.Trod_stays hl hr hrow h (λ p hp=>?_) hs
 have:=hb p hp
 cases p with
 | cell b o=>exact World.cell?_of_block (w:=W) (hold b this)
 | map b=>exact hold b this
end Go.AI
end
section
namespace Go.AI
open Go.Proofs Go.ChangeShapes Go.WideShapes Go.ChangeAt Go.RowKit
def okI (k:IntKind) (n:Int):Prop:=(Lit.int k n).wf=true
theorem rd5:E3 Tryz.prog 5 eU8 (okI .u8):=ZN Tryz.underlying5
theorem Jlm:E3 Tryz.prog 23 (eL eU8) (λ l=>l.length<=9223372036854775807/\∀ a∈l,okI .u8 a):=EQ (sz:=1) Tryz.underlying23 (by kernel_rfl) rfl (λ _=>rfl) rd5
theorem Jln:E3 Tryz.prog 139 (Bc eU8) (λ x=>okI .u8 x.a0/\okI .u8 x.a1):=by
 intro H e w base spare held fuel cs x h
 obtain ⟨m,hcl,hg⟩:=Sj Tryz.underlying139 h
 have hcl:cs.length=2:=hcl.trans (by kernel_rfl)
 obtain ⟨a0,k0,c0⟩:=Wk hg 0 rfl 0 1 (by kernel_rfl) rfl rd5
 obtain ⟨a1,k1,c1⟩:=Wk hg 1 rfl 1 1 (by kernel_rfl) rfl rd5
 refine ⟨⟨a0,a1⟩,⟨k0,k1⟩,?_⟩
 have:=Bh c0 rfl (Bh c1 rfl (Lu (Nat.le_of_eq hcl)))
 exact this
theorem Jmh:E3 Tryz.prog 92 (eL (Bc eU8)) (λ l=>l.length<=9223372036854775807/\∀ a∈l,(okI .u8 a.a0/\okI .u8 a.a1)):=EQ (sz:=2) Tryz.underlying92 (by kernel_rfl) rfl (λ _=>rfl) Jln
def Jcc (x:RH):Prop:=okI .u8 x.Kind/\okI .u8 x.N/\(x.L.length<=9223372036854775807/\∀ a∈x.L,(okI .u8 a.a0/\okI .u8 a.a1))
theorem Jmi:E3 Tryz.prog 94 Jk8 Jcc:=by
 intro H e w base spare held fuel cs x h
 obtain ⟨xs,n,_,_,hcl,hxl,hg⟩:=DataW.trod_struct Tryz.underlying94 h
 have hcl:cs.length=3:=hcl.trans (by kernel_rfl)
 obtain ⟨a0,k0,c0⟩:=fld hg hxl 0 rfl 5 0 1 rfl rfl (by kernel_rfl) rd5
 obtain ⟨a1,k1,c1⟩:=fld hg hxl 1 rfl 5 1 1 rfl rfl (by kernel_rfl) rd5
 obtain ⟨a2,k2,c2⟩:=fld hg hxl 2 rfl 92 2 1 rfl rfl (by kernel_rfl) Jmh
 refine ⟨⟨a0,a1,a2⟩,⟨k0,k1,k2⟩,?_⟩
 have:=Bh c0 rfl (Bh c1 rfl (Bh c2 rfl (Lu (Nat.le_of_eq hcl))))
 exact this
theorem Jlo:E3 Tryz.prog 141 (JH eU8) (λ x=>okI .u8 x.a0/\okI .u8 x.a1/\okI .u8 x.a2/\okI .u8 x.a3/\okI .u8 x.a4/\okI .u8 x.a5):=by
 intro H e w base spare held fuel cs x h
 obtain ⟨m,hcl,hg⟩:=Sj Tryz.underlying141 h
 have hcl:cs.length=6:=hcl.trans (by kernel_rfl)
 obtain ⟨a0,k0,c0⟩:=Wk hg 0 rfl 0 1 (by kernel_rfl) rfl rd5
 obtain ⟨a1,k1,c1⟩:=Wk hg 1 rfl 1 1 (by kernel_rfl) rfl rd5
 obtain ⟨a2,k2,c2⟩:=Wk hg 2 rfl 2 1 (by kernel_rfl) rfl rd5
 obtain ⟨a3,k3,c3⟩:=Wk hg 3 rfl 3 1 (by kernel_rfl) rfl rd5
 obtain ⟨a4,k4,c4⟩:=Wk hg 4 rfl 4 1 (by kernel_rfl) rfl rd5
 obtain ⟨a5,k5,c5⟩:=Wk hg 5 rfl 5 1 (by kernel_rfl) rfl rd5
 refine ⟨⟨a0,a1,a2,a3,a4,a5⟩,⟨k0,k1,k2,k3,k4,k5⟩,?_⟩
 have:=Bh c0 rfl (Bh c1 rfl (Bh c2 rfl (Bh c3 rfl (Bh c4 rfl (Bh c5 rfl (Lu (Nat.le_of_eq hcl)))))))
 exact this
theorem Jmj:E3 Tryz.prog 95 (eL (JH eU8)) (λ l=>l.length<=9223372036854775807/\∀ a∈l,(okI .u8 a.a0/\okI .u8 a.a1/\okI .u8 a.a2/\okI .u8 a.a3/\okI .u8 a.a4/\okI .u8 a.a5)):=EQ (sz:=6) Tryz.underlying95 (by kernel_rfl) rfl (λ _=>rfl) Jlo
def HW (x:Br):Prop:=okI .u8 x.W/\okI .u8 x.H/\okI .u8 x.Gap/\(x.F.length<=9223372036854775807/\∀ a∈x.F,(okI .u8 a.a0/\okI .u8 a.a1/\okI .u8 a.a2/\okI .u8 a.a3/\okI .u8 a.a4/\okI .u8 a.a5))
theorem Jmk:E3 Tryz.prog 97 ON HW:=by
 intro H e w base spare held fuel cs x h
 obtain ⟨xs,n,_,_,hcl,hxl,hg⟩:=DataW.trod_struct Tryz.underlying97 h
 have hcl:cs.length=4:=hcl.trans (by kernel_rfl)
 obtain ⟨a0,k0,c0⟩:=fld hg hxl 0 rfl 5 0 1 rfl rfl (by kernel_rfl) rd5
 obtain ⟨a1,k1,c1⟩:=fld hg hxl 1 rfl 5 1 1 rfl rfl (by kernel_rfl) rd5
 obtain ⟨a2,k2,c2⟩:=fld hg hxl 2 rfl 5 2 1 rfl rfl (by kernel_rfl) rd5
 obtain ⟨a3,k3,c3⟩:=fld hg hxl 3 rfl 95 3 1 rfl rfl (by kernel_rfl) Jmj
 refine ⟨⟨a0,a1,a2,a3⟩,⟨k0,k1,k2,k3⟩,?_⟩
 have:=Bh c0 rfl (Bh c1 rfl (Bh c2 rfl (Bh c3 rfl (Lu (Nat.le_of_eq hcl)))))
 exact this
def HX (x:Bd):Prop:=okI .u8 x.Kind/\okI .u8 x.N/\(x.T.length<=9223372036854775807/\∀ a∈x.T,okI .u8 a)/\Jcc x.F/\HW x.P
theorem Jml:E3 Tryz.prog 99 BO HX:=by
 intro H e w base spare held fuel cs x h
 obtain ⟨xs,n,_,_,hcl,hxl,hg⟩:=DataW.trod_struct Tryz.underlying99 h
 have hcl:cs.length=10:=hcl.trans (by kernel_rfl)
 obtain ⟨a0,k0,c0⟩:=fld hg hxl 0 rfl 5 0 1 rfl rfl (by kernel_rfl) rd5
 obtain ⟨a1,k1,c1⟩:=fld hg hxl 1 rfl 5 1 1 rfl rfl (by kernel_rfl) rd5
 obtain ⟨a2,k2,c2⟩:=fld hg hxl 2 rfl 23 2 1 rfl rfl (by kernel_rfl) Jlm
 obtain ⟨a3,k3,c3⟩:=fld hg hxl 3 rfl 94 3 3 rfl rfl (by kernel_rfl) Jmi
 obtain ⟨a4,k4,c4⟩:=fld hg hxl 4 rfl 97 6 4 rfl rfl (by kernel_rfl) Jmk
 refine ⟨⟨a0,a1,a2,a3,a4⟩,⟨k0,k1,k2,k3,k4⟩,?_⟩
 have:=Bh c0 rfl (Bh c1 rfl (Bh c2 rfl (Bh c3 rfl (Bh c4 rfl (Lu (Nat.le_of_eq hcl))))))
 exact this
theorem Jmm:E3 Tryz.prog 22 (eL BO) (λ l=>l.length<=9223372036854775807/\∀ a∈l,HX a):=EQ (sz:=10) Tryz.underlying22 (by kernel_rfl) rfl (λ _=>rfl) Jml
def C8 (x:AS):Prop:=okI .u8 x.Block/\okI .u8 x.At/\okI .u8 x.Cut/\(x.Put.length<=9223372036854775807/\∀ a∈x.Put,okI .u8 a)
theorem Jmn:E3 Tryz.prog 25 A8 C8:=by
 intro H e w base spare held fuel cs x h
 obtain ⟨xs,n,_,_,hcl,hxl,hg⟩:=DataW.trod_struct Tryz.underlying25 h
 have hcl:cs.length=4:=hcl.trans (by kernel_rfl)
 obtain ⟨a0,k0,c0⟩:=fld hg hxl 0 rfl 5 0 1 rfl rfl (by kernel_rfl) rd5
 obtain ⟨a1,k1,c1⟩:=fld hg hxl 1 rfl 5 1 1 rfl rfl (by kernel_rfl) rd5
 obtain ⟨a2,k2,c2⟩:=fld hg hxl 2 rfl 5 2 1 rfl rfl (by kernel_rfl) rd5
 obtain ⟨a3,k3,c3⟩:=fld hg hxl 3 rfl 23 3 1 rfl rfl (by kernel_rfl) Jlm
 refine ⟨⟨a0,a1,a2,a3⟩,⟨k0,k1,k2,k3⟩,?_⟩
 have:=Bh c0 rfl (Bh c1 rfl (Bh c2 rfl (Bh c3 rfl (Lu (Nat.le_of_eq hcl)))))
 exact this
theorem Jmo:E3 Tryz.prog 45 (eL A8) (λ l=>l.length<=9223372036854775807/\∀ a∈l,C8 a):=EQ (sz:=4) Tryz.underlying45 (by kernel_rfl) rfl (λ _=>rfl) Jmn
end Go.AI
end
section
namespace Go.AI
def Le {α:Type} (a b:Option α):Prop:=∀ z,a=some z->b=some z
theorem Le.refl {α:Type} (a:Option α):Le a a:=λ _ h=>h
theorem Le.bind {α β:Type} {a a':Option α} {f f':α->Option β} (h:Le a a') (hf:∀ x,Le (f x) (f' x)):Le (a.bind f) (a'.bind f'):=by
 intro z hz
 obtain ⟨x,h1,h2⟩:=bind_some hz
 rw [h x h1]
 exact hf x z h2
theorem Le.ite {α:Type} {c:Prop} [Decidable c] {a a' b b':Option α} (h:Le a a') (h':Le b b'):Le (if c then a else b) (if c then a' else b'):=by
 split
 ·exact h
 ·exact h'
theorem Le.whl {σ ρ:Type} {body body':σ->Option (σ⊕ρ)} (hb:∀ x,Le (body x) (body' x)):∀ {n m:Nat},n<=m->∀ x,Le (whl body n x) (whl body' m x):=by
 intro n
 induction n with
 | zero=>intro m _ x z hz;cases hz
 | succ n ih=>
  intro m hm x z hz
  cases m with
  | zero=>omega
  | succ m=>
   simp only [Go.AI.whl] at hz ⊢
   cases hx:body x with
   | none=>rw [hx] at hz;cases hz
   | some y=>
    rw [hb x y hx]
    rw [hx] at hz
    cases y with
    | inl y=>exact ih (by omega) y z hz
    | inr r=>exact hz
def Ev {α:Type} (f:Nat->Option α) (z:α):Prop:=∃ n,∀ m,n<=m->f m=some z
theorem Ev.const {α:Type} {z:α}:Ev (λ _=>some z) z:=⟨0,λ _ _=>rfl⟩
theorem Ev.of {α:Type} {f:Nat->Option α} {z:α} (hm:∀ n m,n<=m->Le (f n) (f m)) {n:Nat} (h:f n=some z):Ev f z:=⟨n,λ m hnm=>hm n m hnm z h⟩
theorem Ev.all {α:Type} {f:Nat->Option α} {z:α} (h:∀ n,f n=some z):Ev f z:=⟨0,λ m _=>h m⟩
theorem Ev.bind {α β:Type} {f:Nat->Option α} {g:Nat->α->Option β} {x:α} {z:β} (h:Ev f x) (hg:Ev (λ n=>g n x) z):Ev (λ n=>(f n).bind (g n)) z:=by
 obtain ⟨n,hn⟩:=h
 obtain ⟨m,hm⟩:=hg
 refine ⟨max n m,λ k hk=>?_⟩
 show (f k).bind (g k)=_
 rw [hn k (by omega)]
 exact hm k (by omega)
theorem Ev.out {α:Type} {f:Nat->Option α} {z:α} (h:Ev f z):∃ n,f n=some z:=by
 obtain ⟨n,hn⟩:=h
 exact ⟨n,hn n (JmD n)⟩
theorem Ev.congr {α:Type} {f g:Nat->Option α} {z:α} (h:Ev f z) (e:∀ n,g n=f n):Ev g z:=by
 obtain ⟨n,hn⟩:=h
 exact ⟨n,λ m hm=>by rw [e m];exact hn m hm⟩
theorem Ev.whl {σ ρ:Type} {body:Nat->σ->Option (σ⊕ρ)} {r:ρ} (I:Nat->σ->Prop) (h:∀ k x,I k x->(∃ y j,j<k/\I j y/\Ev (λ n=>body n x) (.inl y))\/Ev (λ n=>body n x) (.inr r)):∀ (k:Nat) (x:σ),I k x->Ev (λ n=>Go.AI.whl (body n) n x) r:=by
 have key:∀ (k:Nat) (x:σ),I k x->∃ N c,∀ n fuel,N<=n->c<=fuel->Go.AI.whl (body n) fuel x=some r:=by
  intro k
  induction k using Nat.strongRecOn with
  | _ k ih=>
   intro x hx
   rcases h k x hx with ⟨y,j,hj,hy,N1,h1⟩|⟨N1,h1⟩
   ·obtain ⟨N2,c,h2⟩:=ih j hj y hy
    refine ⟨max N1 N2,c+1,λ n fuel hn hf=>?_⟩
    cases fuel with
    | zero=>omega
    | succ fuel=>
     have e:=h1 n (by omega)
     simp only at e
     simp only [Go.AI.whl,e]
     exact h2 n fuel (by omega) (by omega)
   ·refine ⟨N1,1,λ n fuel hn hf=>?_⟩
    cases fuel with
    | zero=>omega
    | succ fuel=>
     have e:=h1 n hn
     simp only at e
     simp only [Go.AI.whl,e]
 intro k x hx
 obtain ⟨N,c,hh⟩:=key k x hx
 exact ⟨max N c,λ m hm=>hh m m (by omega) (by omega)⟩
end Go.AI
end
section
namespace Go.AI
def Tot {α:Type} (f:Nat->Option α) (P:α->Prop):Prop:=∃ z,P z/\Ev f z
def Rd2 {σ ρ:Type} (I:σ->Prop) (P:ρ->Prop):σ⊕ρ->Prop
 | .inl y=>I y
 | .inr r=>P r
variable {α β σ ρ:Type} {P R:α->Prop}
theorem Tot.ev {f:Nat->Option α} {z:α} (h:Tot f (λ x=>x=z)):Ev f z:=by obtain ⟨_,rfl,h⟩:=h;exact h
theorem Ev.tot {f:Nat->Option α} {z:α} (h:Ev f z) (hp:P z):Tot f P:=⟨z,hp,h⟩
theorem Tot.pure {z:α} (h:P z):Tot (λ _=>some z) P:=⟨z,h,Ev.const⟩
theorem Tot.all {f:Nat->Option α} {z:α} (h:∀ n,f n=some z) (hp:P z):Tot f P:=⟨z,hp,Ev.all h⟩
theorem Tot.mono {f:Nat->Option α} (h:Tot f R) (hp:∀ x,R x->P x):Tot f P:=by obtain ⟨z,hz,h⟩:=h;exact ⟨z,hp z hz,h⟩
theorem Tot.bind {f:Nat->Option β} {g:Nat->β->Option α} {R:β->Prop} (h:Tot f R) (k:∀ x,R x->Tot (λ n=>g n x) P):Tot (λ n=>(f n).bind (g n)) P:=by
 obtain ⟨x,hx,h⟩:=h
 obtain ⟨z,hz,h'⟩:=k x hx
 exact ⟨z,hz,Ev.bind h h'⟩
theorem Tot.bindE {f:Nat->Option β} {g:Nat->β->Option α} {x:β} (h:Ev f x) (k:Tot (λ n=>g n x) P):Tot (λ n=>(f n).bind (g n)) P:=by
 obtain ⟨z,hz,h'⟩:=k
 exact ⟨z,hz,Ev.bind h h'⟩
theorem Tot.bindC {x:Option β} {y:β} {g:Nat->β->Option α} (h:x=some y) (k:Tot (λ n=>g n y) P):Tot (λ n=>x.bind (g n)) P:=by subst h;exact k
theorem Tot.bindA {f:Nat->Option β} {y:β} {g:Nat->β->Option α} (h:∀ n,f n=some y) (k:Tot (λ n=>g n y) P):Tot (λ n=>(f n).bind (g n)) P:=Tot.bindE (Ev.all h) k
theorem Tot.ite {c:Bool} {a b:Nat->Option α} (h1:c=true->Tot a P) (h2:c=false->Tot b P):Tot (λ n=>if c=true then a n else b n) P:=by
 cases c with
 | true=>exact h1 rfl
 | false=>exact h2 rfl
theorem Tot.iteT {c:Bool} {a b:Nat->Option α} (h:c=true) (k:Tot a P):Tot (λ n=>if c=true then a n else b n) P:=by subst h;exact k
theorem Tot.iteF {c:Bool} {a b:Nat->Option α} (h:c=false) (k:Tot b P):Tot (λ n=>if c=true then a n else b n) P:=by subst h;exact k
theorem Tot.guard {c:Bool} {f:Nat->Option β} {d:β} {g:Nat->β->Option α} {R:β->Prop} (h:c=true->Tot f R) (k:∀ x,(c=true->R x)->Tot (λ n=>g n x) P):Tot (λ n=>(if c=true then f n else some d).bind (g n)) P:=by
 cases c with
 | true=>exact Tot.bind (h rfl) λ x hx=>k x λ _=>hx
 | false=>exact k d λ h=>by cases h
theorem Tot.congr {f g:Nat->Option α} (h:Tot f P) (e:∀ n,g n=f n):Tot g P:=by obtain ⟨z,hz,h⟩:=h;exact ⟨z,hz,h.congr e⟩
theorem Tot.whl {body:Nat->σ->Option (σ⊕ρ)} {P:ρ->Prop} (I:Nat->σ->Prop) (h:∀ k x,I k x->Tot (λ n=>body n x) (Rd2 (λ y=>∃ j,j<k/\I j y) P)):∀ (k:Nat) (x:σ),I k x->Tot (λ n=>Go.AI.whl (body n) n x) P:=by
 have key:∀ (k:Nat) (x:σ),I k x->∃ r,P r/\∃ N c,∀ n fuel,N<=n->c<=fuel->Go.AI.whl (body n) fuel x=some r:=by
  intro k
  induction k using Nat.strongRecOn with
  | _ k ih=>
   intro x hx
   obtain ⟨z,hz,N1,h1⟩:=h k x hx
   cases z with
   | inl y=>
    obtain ⟨j,hj,hy⟩:=hz
    obtain ⟨r,hr,N2,c,h2⟩:=ih j hj y hy
    refine ⟨r,hr,max N1 N2,c+1,λ n fuel hn hf=>?_⟩
    cases fuel with
    | zero=>omega
    | succ fuel=>
     have e:=h1 n (by omega)
     simp only at e
     simp only [Go.AI.whl,e]
     exact h2 n fuel (by omega) (by omega)
   | inr r=>
    refine ⟨r,hz,N1,1,λ n fuel hn hf=>?_⟩
    cases fuel with
    | zero=>omega
    | succ fuel=>
     have e:=h1 n hn
     simp only at e
     simp only [Go.AI.whl,e]
 intro k x hx
 obtain ⟨r,hr,N,c,hh⟩:=key k x hx
 exact ⟨r,hr,max N c,λ m hm=>hh m m (by omega) (by omega)⟩
theorem Tot.upto {body:Nat->σ->Option (σ⊕ρ)} {P:ρ->Prop} (N:Nat) (I:Nat->σ->Prop)
  (step:∀ i x,i<N->I i x->Tot (λ n=>body n x) (Rd2 (I (i+1)) P))
  (last:∀ x,I N x->Tot (λ n=>body n x) (Rd2 (λ _=>False) P)) (x:σ) (h0:I 0 x):Tot (λ n=>Go.AI.whl (body n) n x) P:=by
 refine Tot.whl (body:=body) (λ k x=>∃ i,i<=N/\k=N-i/\I i x) ?_ N x ⟨0,by omega,by omega,h0⟩
 rintro k x ⟨i,hi,rfl,hx⟩
 rcases JmE i N with hlt|hge
 ·refine (step i x hlt hx).mono λ z hz=>?_
  cases z with
  | inl y=>exact ⟨N-(i+1),by omega,i+1,by omega,rfl,hz⟩
  | inr r=>exact hz
 ·have:i=N:=by omega
  subst this
  refine (last x hx).mono λ z hz=>?_
  cases z with
  | inl y=>exact hz.elim
  | inr r=>exact hz
theorem Jcd {l:List α} {i:Nat} {x:α} (h:l[i]? = some x):idx l (i:Int)=some x:=by
 unfold idx
 rw [if_pos (by omega)]
 simpa using h
theorem AD {l:List α} {i:Nat} (h:i<l.length):idx l (i:Int)=some l[i]:=Jcd (JmM h)
theorem A9 {eb:Nat} {xs ys:List α} (h:(xs.length+ys.length)*eb<=70368744177664):app eb xs ys=some (xs++ys):=by
 unfold app;rw [if_pos h]
theorem Sk {l:List α} {i:Nat} {y:α} (h:i<l.length):put l (i:Int) y=some (l.set i y):=by
 unfold put;rw [if_pos (by omega),JmW]
theorem MX {x y:List UInt8} (h:x.length+y.length<=9223372036854775807):cat x y=some (x++y):=by
 unfold cat;rw [if_pos h]
end Go.AI
end
section
namespace Go.AI
theorem Jfe (a:Int):IntKind.i64.wrap a=if decide (a % 18446744073709551616>=9223372036854775808)=true then a % 18446744073709551616-18446744073709551616 else a % 18446744073709551616:=rfl
theorem w64 {a:Int} (h:-9223372036854775808<=a) (h':a<9223372036854775808):IntKind.i64.wrap a=a:=by
 rw [Jfe]
 simp only [decide_eq_true_eq]
 split<;>omega
theorem DG {a b:Int} (h:-9223372036854775808<=a+b) (h':a+b<9223372036854775808):Ai .i64 a b=a+b:=w64 h h'
theorem Cq {a b:Int} (h:-9223372036854775808<=a-b) (h':a-b<9223372036854775808):AU .i64 a b=a-b:=w64 h h'
theorem Gj {a b:Int} (h:-9223372036854775808<=a*b) (h':a*b<9223372036854775808):BV .i64 a b=a*b:=w64 h h'
theorem An {i:Nat} (h:i<9223372036854775807):Ai .i64 (i:Int) 1=((i+1:Nat):Int):=by rw [DG]<;>omega
theorem JjO (a:Int):IntKind.u8.wrap a=a % 256:=rfl
theorem w8 {a:Int} (h:0<=a) (h':a<256):IntKind.u8.wrap a=a:=by rw [JjO];omega
theorem BF {a m:Int} (h:0<=a) (hm:0<m):Al a m=a % m/\0<=Al a m/\Al a m<m:=by
 have e:Al a m=a % m:=by unfold Al;rw [Int.tmod_eq_emod_of_nonneg h]
 rw [e];exact ⟨rfl,Int.emod_nonneg _ (by omega),Int.emod_lt_of_pos _ hm⟩
variable {α β σ ρ:Type}
theorem Jce [Inhabited α] {l:List α} {i:Int} (h:0<=i) (h':i<l.length):idx l i=some (l.getD i.toNat default):=by
 unfold idx
 rw [if_pos h,JmV,JmM (by omega)];rfl
theorem Dg [Inhabited α] {l:List α} {i:Nat} (h:i<l.length):idx l (i:Int)=some (l.getD i default):=by
 rw [Jce (by omega) (by omega),JmW]
theorem Jlp {l:List α} {i:Int} {y:α} (h:0<=i) (h':i<l.length):put l i y=some (l.set i.toNat y):=by
 unfold put;rw [if_pos ⟨h,h'⟩]
theorem Hm {l:List α} {a b:Int} (h:0<=a) (h1:a<=b) (h2:b<=l.length):sub l a b=some ((l.take b.toNat).drop a.toNat):=by
 unfold sub;rw [if_pos ⟨h,h1,h2⟩]
theorem UO {l:List α} {k:Nat} (h:k<=l.length):sub l 0 (k:Int)=some (l.take k):=by
 rw [Hm (by omega) (by omega) (by omega)];simp
theorem Jlq {eb:Nat} {k:Int} {z:α} (h:0<=k) (h':k.toNat*eb<=70368744177664):mkl eb k z=some (List.replicate k.toNat z):=by
 unfold mkl;rw [if_pos ⟨h,h'⟩]
theorem Jcf:BJ true=some ():=rfl
theorem Eb {b:Bool} (h:b=true):BJ b=some ():=by subst h;rfl
theorem XM {body:σ->Option (σ⊕ρ)} {r:ρ} (st:Nat->σ) (k:Nat) (step:∀ i,i<k->body (st i)=some (.inl (st (i+1)))) (last:body (st k)=some (.inr r)):∀ n,k<n->whl body n (st 0)=some r:=by
 have key:∀ (j n i:Nat),i+j=k->j<n->whl body n (st i)=some r:=by
  intro j
  induction j with
  | zero=>
   intro n i hi hn
   cases n with
   | zero=>omega
   | succ n=>
    have:i=k:=by omega
    subst this;simp only [whl,last]
  | succ j ih=>
   intro n i hi hn
   cases n with
   | zero=>omega
   | succ n=>simp only [whl,step i (by omega)];exact ih n (i+1) (by omega) (by omega)
 intro n hn
 exact key k n 0 (by omega) hn
theorem Ev.to {body:Nat->σ->Option (σ⊕ρ)} {r:ρ} (st:Nat->σ) (k:Nat) (h:∃ N,∀ n,N<=n->(∀ i,i<k->body n (st i)=some (.inl (st (i+1))))/\body n (st k)=some (.inr r)):Ev (λ n=>Go.AI.whl (body n) n (st 0)) r:=by
 obtain ⟨N,h⟩:=h
 exact ⟨max N (k+1),λ n hn=>XM st k (h n (by omega)).1 (h n (by omega)).2 n (by omega)⟩
def HY (N:Nat) (stop:Nat->Option ρ) (d:ρ):ρ:=((List.range N).findSome? stop).getD d
theorem ZP {N:Nat} {stop:Nat->Option ρ} {d:ρ} (h:∀ i,i<N->stop i=none):HY N stop d=d:=by
 unfold HY
 rw [List.findSome?_eq_none_iff.2 λ i hi=>h i (List.mem_range.1 hi)];rfl
theorem ZQ {N:Nat} {stop:Nat->Option ρ} {d r:ρ} (k:Nat) (hk:k<N) (hr:stop k=some r) (h:∀ i,i<k->stop i=none):HY N stop d=r:=by
 unfold HY
 have:(List.range N).findSome? stop=some r:=by
  have e:List.range N=List.range k++(List.range (N-k)).map (k+·):=by rw [← List.range_add];congr 1;omega
  rw [e,List.findSome?_append,List.findSome?_eq_none_iff.2 λ i hi=>h i (List.mem_range.1 hi)]
  have:N-k=(N-k-1)+1:=by omega
  rw [this,List.range_succ_eq_map]
  simp [hr]
 rw [this];rfl
theorem S6 (N:Nat) (stop:Nat->Option ρ) (d:ρ):((∀ i,i<N->stop i=none)/\HY N stop d=d)\/∃ k r,k<N/\stop k=some r/\(∀ i,i<k->stop i=none)/\HY N stop d=r:=by
 by_cases h:∀ i,i<N->stop i=none
 ·exact .inl ⟨h,ZP h⟩
 ·right
  have hex:∃ k,k<N/\stop k≠none:=by
   apply Classical.byContradiction
   intro hh
   exact h λ i hi=>Classical.byContradiction λ hn=>hh ⟨i,hi,hn⟩
  have key:∀ m,(∃ k,k<m/\k<N/\stop k≠none)->∃ k,k<N/\stop k≠none/\∀ i,i<k->stop i=none:=by
   intro m
   induction m with
   | zero=>rintro ⟨k,hk,_⟩;omega
   | succ m ih=>
    rintro ⟨k,hk,h1,h2⟩
    by_cases hm:∃ k,k<m/\k<N/\stop k≠none
    ·exact ih hm
    ·refine ⟨k,h1,h2,λ i hi=>Classical.byContradiction λ hn=>hm ⟨i,by omega,by omega,hn⟩⟩
  obtain ⟨k0,h1,h2⟩:=hex
  obtain ⟨k,h3,h4,h5⟩:=key (k0+1) ⟨k0,by omega,h1,h2⟩
  obtain ⟨r,hr⟩:=Option.ne_none_iff_exists'.1 h4
  exact ⟨k,r,h3,hr,h5,ZQ k h3 hr h5⟩
theorem ZR {body:Int->Option (Int⊕ρ)} {N:Nat} (stop:Nat->Option ρ) {d:ρ} (h1:∀ i,i<N->body (i:Int)=some (match stop i with|some r=>.inr r|none=>.inl ((i+1:Nat):Int))) (h2:body (N:Int)=some (.inr d)):∀ n,N<n->whl body n 0=some (HY N stop d):=by
 intro n hn
 rcases S6 N stop d with ⟨h,e⟩|⟨k,r,hk,hr,h,e⟩
 ·rw [e]
  exact XM (λ i=>(i:Int)) N (λ i hi=>by rw [h1 i hi,h i hi]) h2 n hn
 ·rw [e]
  exact XM (λ i=>(i:Int)) k (λ i hi=>by rw [h1 i (by omega),h i hi]) (by rw [h1 k hk,hr]) n (by omega)
theorem Ev.first {body:Nat->Int->Option (Int⊕ρ)} {N:Nat} (stop:Nat->Option ρ) {d:ρ} (h:∃ M,∀ n,M<=n->(∀ i,i<N->body n (i:Int)=some (match stop i with|some r=>.inr r|none=>.inl ((i+1:Nat):Int)))/\body n (N:Int)=some (.inr d)):Ev (λ n=>Go.AI.whl (body n) n 0) (HY N stop d):=by
 obtain ⟨M,h⟩:=h
 exact ⟨max M (N+1),λ n hn=>ZR stop (h n (by omega)).1 (h n (by omega)).2 n (by omega)⟩
theorem Tot.gE {P:α->Prop} {c:Bool} {f:Nat->Option β} {d x:β} {g:Nat->β->Option α} (hc:c=true) (h:Ev f x) (k:Tot (λ n=>g n x) P):Tot (λ n=>(if c=true then f n else some d).bind (g n)) P:=by
 subst hc;exact Tot.bindE h k
theorem Tot.gF {P:α->Prop} {c:Bool} {f:Nat->Option β} {d:β} {g:Nat->β->Option α} (hc:c=false) (k:Tot (λ n=>g n d) P):Tot (λ n=>(if c=true then f n else some d).bind (g n)) P:=by
 subst hc;exact k
noncomputable def lim [Inhabited α] (f:Nat->Option α):α:=@dite α (∃ z,Ev f z) (Classical.propDecidable _) (λ h=>Classical.choose h) λ _=>default
theorem Ev.lim [Inhabited α] {f:Nat->Option α} {z:α} (h:Ev f z):lim f=z:=by
 have hex:∃ z,Ev f z:=⟨z,h⟩
 have e:AI.lim f=Classical.choose hex:=by unfold AI.lim;rw [dif_pos hex]
 rw [e]
 obtain ⟨n,hn⟩:=h
 obtain ⟨m,hm⟩:=Classical.choose_spec hex
 have h1:=hn (max n m) (by omega)
 have h2:=hm (max n m) (by omega)
 rw [h1] at h2;cases h2;rfl
theorem Tot.lim [Inhabited α] {f:Nat->Option α} {P:α->Prop} (h:Tot f P):P (lim f)/\Ev f (lim f):=by
 obtain ⟨z,hz,h⟩:=h
 rw [h.lim];exact ⟨hz,h⟩
theorem Ev.many {f:Nat->Nat->Option α} {z:Nat->α} (N:Nat) (h:∀ i,i<N->Ev (λ n=>f n i) (z i)):∃ M,∀ n,M<=n->∀ i,i<N->f n i=some (z i):=by
 induction N with
 | zero=>exact ⟨0,λ n _ i hi=>by omega⟩
 | succ N ih=>
  obtain ⟨M1,h1⟩:=ih λ i hi=>h i (by omega)
  obtain ⟨M2,h2⟩:=h N (by omega)
  exact ⟨max M1 M2,λ n hn i hi=>by
   by_cases e:i=N
   ·subst e;exact h2 n (by omega)
   ·exact h1 n (by omega) i (by omega)⟩
end Go.AI
end
section
namespace Go.AI
def EU (c d:Ab):Bool:=(c.Block==d.Block)&&decide (c.At+c.Cut<=d.At)
def frB (c d:Ab):Bool:=(c.Block != d.Block)||(!(EU c d==EU d c))
def noC:Ab:={ Block:=0,At:=0,Cut:=0,Put:=[] }
def shC (c d:Ab):Ab:=if EU d c=true then { Block:=c.Block,At:=c.At+((d.Put.length:Int)-d.Cut),Cut:=c.Cut,Put:=c.Put } else c
def ovS (c d:Ab):Ab×Bool:=if frB c d=true then (shC c d,true) else (noC,false)
def Qr:Ab->List Ab->Nat->Ab×Int×Bool
 | c,[],i=>(c,(i:Int),true)
 | c,d::l,i=>if frB c d=true then Qr (shC c d) l (i+1) else (noC,(i:Int),false)
theorem Sl {c d:Ab}:EU c d=true↔c.Block=d.Block/\c.At+c.Cut<=d.At:=by unfold EU;simp
theorem Jcg {c d:Ab}:EU c d=false↔¬(c.Block=d.Block/\c.At+c.Cut<=d.At):=by rw [← Bool.not_eq_true,Sl]
theorem Yz {c d:Ab}:frB c d=true↔c.Block≠d.Block\/EU c d≠EU d c:=by unfold frB;simp [Bool.beq_eq_decide_eq]
theorem Sm (c d:Ab):frB c d=frB d c:=by
 unfold frB
 rw [show (c.Block != d.Block)=(d.Block != c.Block) from bne_comm ..,show (EU c d==EU d c)=(EU d c==EU c d) from BEq.comm ..]
def CP (c d:Ab):Prop:=c.Block<d.Block\/c.Block=d.Block/\(c.At<d.At\/c.At=d.At/\c.Cut<d.Cut)
theorem Wl {c:Ab}:¬CP c c:=by unfold CP;omega
theorem YA {c d e:Ab} (h:CP c d) (h':CP d e):CP c e:=by unfold CP at *;omega
theorem ZS {c d:Ab} (h:CP c d):¬CP d c:=by unfold CP at *;omega
theorem Jff {c d:Ab} (h:frB c d=true):CP c d\/CP d c:=by
 rw [Yz] at h
 rcases h with h|h
 ·unfold CP;omega
 ·by_cases hb:c.Block=d.Block
  ·by_cases h1:c.At=d.At
   ·by_cases h2:c.Cut=d.Cut
    ·exfalso
     refine h ?_
     unfold EU
     rw [h1,h2,hb]
    ·unfold CP;omega
   ·unfold CP;omega
  ·unfold CP;omega
theorem Wm {c d:Ab} (hc:0<=c.Cut) (hd:0<=d.Cut) (h:frB c d=true) (hl:CP c d) (hb:c.Block=d.Block):EU c d=true/\EU d c=false:=by
 rw [Yz] at h
 have hne:=h.resolve_left (by simp [hb])
 rcases hcd:EU c d with _|_
 ·rw [hcd] at hne
  have hdc:EU d c=true:=by cases hx:EU d c with|true=>rfl|false=>rw [hx] at hne;exact absurd rfl hne
  rw [Jcg] at hcd
  rw [Sl] at hdc
  unfold CP at hl
  omega
 ·rw [hcd] at hne
  exact ⟨rfl,by cases hx:EU d c with|false=>rfl|true=>rw [hx] at hne;exact absurd rfl hne⟩
def Frs (l:List Ab):Prop:=l.Pairwise λ c d=>frB c d=true/\CP c d
def Jmp (l:List Ab):Prop:=∀ c∈l,0<=c.Cut
def D3 (b:Int):List Ab->Int
 | []=>0
 | d::l=>(if d.Block=b then (d.Put.length:Int)-d.Cut else 0)+D3 b l
theorem Sn (b:Int) (l m:List Ab):D3 b (l++m)=D3 b l+D3 b m:=by
 induction l with
 | nil=>simp [D3]
 | cons d l ih=>simp only [List.cons_append,D3,ih];omega
def mvC (k:Int) (c:Ab):Ab:={ Block:=c.Block,At:=c.At+k,Cut:=c.Cut,Put:=c.Put }
theorem Jlr (c:Ab):mvC 0 c=c:=by unfold mvC;simp
def CK (pre:List Ab):List Ab->List Ab
 | []=>[]
 | d::l=>mvC (D3 d.Block pre) d::CK (pre++[d]) l
theorem I2 (pre l:List Ab):(CK pre l).length=l.length:=by
 induction l generalizing pre with
 | nil=>rfl
 | cons d l ih=>simp only [CK,List.length_cons,ih]
theorem TC (pre l m:List Ab):CK pre (l++m)=CK pre l++CK (pre++l) m:=by
 induction l generalizing pre with
 | nil=>simp [CK]
 | cons d l ih=>simp only [List.cons_append,CK,ih,List.append_assoc,List.cons_append,List.nil_append]
theorem Jls {c d:Ab} {k j:Int} (h:c.Block=d.Block->k=j):frB (mvC k c) (mvC j d)=frB c d/\EU (mvC j d) (mvC k c)=EU d c:=by
 by_cases hb:c.Block=d.Block
 ·have:=h hb
  subst this
  unfold frB EU mvC
  simp only
  have e1:decide (d.At+k+d.Cut<=c.At+k)=decide (d.At+d.Cut<=c.At):=by rw [decide_eq_decide];omega
  have e2:decide (c.At+k+c.Cut<=d.At+k)=decide (c.At+c.Cut<=d.At):=by rw [decide_eq_decide];omega
  rw [e1,e2]
  exact ⟨rfl,rfl⟩
 ·have h1:(c.Block != d.Block)=true:=by simp [hb]
  have h2:(d.Block==c.Block)=false:=by simp;exact λ h=>hb h.symm
  unfold frB EU mvC
  simp only [h1,h2,Bool.true_or,Bool.false_and]
  exact ⟨trivial,trivial⟩
theorem XN (c:Ab) (hc:0<=c.Cut) (pre l:List Ab) (i:Nat) (hl:Jmp l) (h:∀ d∈l,frB c d=true/\CP d c) :
  Qr (mvC (D3 c.Block pre) c) (CK pre l) i=(mvC (D3 c.Block (pre++l)) c,((i+l.length:Nat):Int),true):=by
 induction l generalizing pre i with
 | nil=>simp [CK,Qr]
 | cons d l ih=>
  have hd:=h d (List.mem_cons_self ..)
  have hdc:=hl d (List.mem_cons_self ..)
  simp only [CK,Qr]
  have e:=Jls (c:=c) (d:=d) (k:=D3 c.Block pre) (j:=D3 d.Block pre) (λ hb=>by rw [hb])
  rw [e.1,if_pos hd.1]
  have hsh:shC (mvC (D3 c.Block pre) c) (mvC (D3 d.Block pre) d)=mvC (D3 c.Block (pre++[d])) c:=by
   unfold shC
   rw [e.2]
   by_cases hb:d.Block=c.Block
   ·have:=Wm hdc hc (by rw [Sm];exact hd.1) hd.2 hb
    rw [if_pos this.1,Sn]
    unfold mvC
    simp only [D3,if_pos hb]
    congr 1
    omega
   ·have:EU d c=false:=by rw [Jcg];exact λ hh=>hb hh.1
    rw [if_neg (by rw [this];simp),Sn]
    simp [D3,hb]
  rw [hsh]
  have:=ih (pre++[d]) (i+1) (λ x hx=>hl x (List.mem_cons_of_mem _ hx)) (λ x hx=>h x (List.mem_cons_of_mem _ hx))
  rw [this]
  simp only [List.append_assoc,List.cons_append,List.nil_append,List.length_cons]
  congr 3
  omega
end Go.AI
end
section
namespace Go.AI
def Okc (A:Int) (c:Ab):Prop:=-A<=c.At/\c.At<=A/\-1000<=c.Cut/\c.Cut<=1000/\c.Put.length<=1000
theorem Okc.mono {A B:Int} {c:Ab} (h:Okc A c) (hB:A<=B):Okc B c:=by unfold Okc at *;omega
theorem Okc.sh {A:Int} {c d:Ab} (h:Okc A c) {B:Int} (h':Okc B d):Okc (A+2000) (shC c d):=by
 unfold shC
 split
 ·unfold Okc at *;simp only;omega
 ·unfold Okc at *;omega
variable {A:Int} {c d:Ab}
theorem Pk (n:Nat) (hA:A<=1000000000000) (h:Okc A c) (h':Okc A d):Fd n c d=some (EU c d):=by
 unfold Fd EU
 unfold Okc at h h'
 rw [Cq (by omega) (by omega)]
 congr 2
 rw [decide_eq_decide];omega
theorem So (n:Nat) (hA:A<=1000000000000) (h:Okc A c):FQ n c d=some (EU c d):=by
 unfold FQ EU
 unfold Okc at h
 rw [DG (by omega) (by omega)]
theorem YB (n:Nat) (hA:A<=1000000000000) (h:Okc A c) (h':Okc A d):Kp n c d=some (frB c d):=by
 unfold Kp frB
 rw [Pk n hA h h',Pk n hA h' h]
 by_cases hb:c.Block=d.Block
 ·simp [hb]
 ·simp [hb]
theorem Jch (n:Nat) (hA:A<=1000000000000) (h:Okc A c) (h':Okc A d):Ls n c d=some (frB c d):=by
 unfold Ls frB
 rw [So n hA h,So n hA h']
 by_cases hb:c.Block=d.Block
 ·simp [hb]
 ·simp [hb]
theorem YC (n:Nat) (hA:A<=1000000000000) (h:Okc A c) (h':Okc A d):DC n c d=some (ovS c d):=by
 unfold DC ovS
 rw [YB n hA h h',Pk n hA h' h]
 cases frB c d with
 | false=>rfl
 | true=>
  simp only [Jmv,JmC,JmY,if_false,if_true]
  unfold shC
  have e:Ai .i64 c.At (AU .i64 ((d.Put.length:Nat):Int) d.Cut)=c.At+((d.Put.length:Int)-d.Cut):=by
   unfold Okc at h h'
   rw [Cq (by omega) (by omega),DG (by omega) (by omega)]
  split
  ·rw [e];rfl
  ·rfl
theorem ZT (c d:Ab) (l:List Ab) (i:Nat):Qr c (d::l) i=if frB c d=true then Qr (shC c d) l (i+1) else (noC,(i:Int),false):=rfl
theorem Wn {l:List Ab} {c:Ab} (hl:l.length<=1000) (hd:∀ d∈l,Okc 1000000000 d) (hc:Okc 1000000000 c):Ev (λ n=>Iv n c l) (Qr c l 0):=by
 refine Tot.ev ?_
 refine Tot.bind (R:=λ y=>(match y with | .inl c'=>(c',((l.length:Nat):Int),true) | .inr r=>r)=Qr c l 0) ?_ λ y hy=>by
  cases y with
  | inl c'=>exact Tot.pure hy
  | inr r=>exact Tot.pure hy
 refine Tot.upto l.length (λ i (x:Ab×Int)=>x.2=(i:Int)/\Qr x.1 (l.drop i) i=Qr c l 0/\Okc (1000000000+2000*i) x.1) ?_ ?_ _ ⟨rfl,by simp,by simpa using hc⟩
 ·rintro i ⟨c',x⟩ hi ⟨h1,h2,h3⟩
  simp only at h1 h2 h3
  subst h1
  unfold Gq
  have hdi:=hd _ (JmB hi)
  rw [List.drop_eq_getElem_cons hi] at h2
  refine Tot.iteT (decide_eq_true (by omega)) (Tot.bindC (AD hi) (Tot.bindA (λ n=>YC n (by omega) h3 (hdi.mono (by omega))) ?_))
  rw [ZT] at h2
  unfold ovS
  by_cases hf:frB c' l[i]=true
  ·rw [if_pos hf] at h2 ⊢
   refine Tot.iteF rfl (Tot.pure ⟨An (by omega),h2,?_⟩)
   have:=h3.sh hdi
   exact this.mono (by omega)
  ·rw [if_neg hf] at h2 ⊢
   exact Tot.iteT rfl (Tot.pure h2)
 ·rintro ⟨c',x⟩ ⟨h1,h2,h3⟩
  simp only at h1 h2 h3
  subst h1
  unfold Gq
  refine Tot.iteF (decide_eq_false (by omega)) (Tot.pure ?_)
  rw [List.drop_of_length_le (by omega)] at h2
  exact h2
theorem Jfg (n:Nat) (a b:Int):B6 n a b=some (if a<b then -1 else if b<a then 1 else 0):=by
 unfold B6 Ek
 simp only [Jmv,bne_self_eq_false,JmY,if_false,decide_eq_true_eq]
 by_cases h:a<b
 ·simp [h]
 ·by_cases h':b<a
  ·simp [h,h']
  ·simp [h,h']
theorem Jfh (n:Nat) (a b:List UInt8):Cs n a b=some (if Op.bytesLess a b=true then -1 else if a=b then 0 else 1):=by
 unfold Cs C3
 simp only [Jmv,BEq.rfl,JmC,JmY,if_false]
 by_cases h:Op.bytesLess a b=true
 ·simp [h]
 ·have h:Op.bytesLess a b=false:=by simpa using h
  by_cases h':a=b
  ·subst h'
   simp [h]
  ·simp [h,h']
def XO (c d:Ab):Int:=
 if c.Block<d.Block then -1 else if d.Block<c.Block then 1 else if c.At<d.At then -1 else if d.At<c.At then 1 else if c.Cut<d.Cut then -1 else if d.Cut<c.Cut then 1
 else if Op.bytesLess c.Put d.Put=true then -1 else if c.Put=d.Put then 0 else 1
theorem XP (a b c d:Int):∀ n,5<=n->HB n [a,b,c,d]=some (if a≠0 then a else if b≠0 then b else if c≠0 then c else d):=by
 intro n hn
 obtain ⟨m,rfl⟩:∃ m,n=m+5:=⟨n-5,by omega⟩
 unfold HB
 by_cases ha:a=0<;>by_cases hb:b=0<;>by_cases hc:c=0<;>by_cases hd:d=0 <;>
  simp [whl,GU,idx,ha,hb,hc,hd,show Ai .i64 0 1=1 from rfl,show Ai .i64 1 1=2 from rfl,show Ai .i64 2 1=3 from rfl,show Ai .i64 3 1=4 from rfl]
theorem Wo (c d:Ab):∀ n,5<=n->GL n c d=some (XO c d):=by
 intro n hn
 unfold GL
 simp only [Jfg,Jfh,Jmv]
 rw [XP _ _ _ _ n hn]
 unfold XO
 simp only [Jmv,JmX]
 by_cases h1:c.Block<d.Block<;>by_cases h2:d.Block<c.Block<;>by_cases h3:c.At<d.At<;>by_cases h4:d.At<c.At<;>by_cases h5:c.Cut<d.Cut<;>by_cases h6:d.Cut<c.Cut<;>simp [h1,h2,h3,h4,h5,h6]
end Go.AI
end
section
namespace Go.AI
theorem Ec {ρ ζ:Type} {body:Nat->Int->Option (Int⊕(Unit⊕ρ))} {k:Nat->(Unit⊕ρ)->Option ζ} {r:ζ} (N:Nat) (h:∀ i,i<N->Ev (λ n=>body n (i:Int)) (.inl ((i+1:Nat):Int))) (hl:∀ n,body n (N:Int)=some (.inr (.inl ()))) (hk:∀ n,k n (.inl ())=some r):Ev (λ n=>(whl (body n) n 0).bind (k n)) r:=by
 refine Tot.ev (Tot.bind (R:=λ y=>y=.inl ()) ?_ λ y hy=>?_)
 ·refine Tot.upto N (λ i (x:Int)=>x=(i:Int)) (λ i x hi hx=>?_) (λ x hx=>?_) _ rfl
  ·subst hx
   exact (h i hi).tot rfl
  ·subst hx
   exact Tot.all hl rfl
 ·subst hy
  exact Tot.all hk rfl
theorem JjP {f:List Am} (h:f.length<=1000000000):Ev (λ n=>OD n f f) true:=by
 refine Tot.ev (Tot.iteF (by simp) (Ev.tot (Ec f.length (λ i hi=>?_) (λ n=>?_) λ n=>rfl) rfl))
 ·unfold Gr
  exact Tot.ev (Tot.iteT (decide_eq_true (by omega)) (Tot.bindC (AD hi) (Tot.bindC (AD hi) (Tot.iteF (by simp) (Tot.pure (by rw [An (by omega)]))))))
 ·unfold Gr
  rw [if_neg (by simp)]
structure SzB (x:Ag):Prop where
 rows:x.Rows.length<=1000000000
 row:∀ r∈x.Rows,r.length<=1000000000
 f:x.F.length<=1000000000
 pf:x.Pic.F.length<=1000000000
 pp:∀ g∈x.Pic.F,g.P.length<=1000000000
theorem Jci {l:List (List (List UInt8))} (h:l.length<=1000000000) (h':∀ r∈l,r.length<=1000000000):Ev (λ n=>H8 n l l) true:=by
 refine Tot.ev (Tot.iteF (by simp) (Ev.tot (Ec l.length (λ i hi=>?_) (λ n=>?_) λ n=>rfl) rfl))
 ·unfold Dl
  have hr:=h' _ (JmB hi)
  refine Tot.ev (Tot.iteT (decide_eq_true (by omega)) (Tot.bindC (AD hi) (Tot.bindC (AD hi) (Tot.iteF (by simp) (Ev.tot (Ec l[i].length (λ j hj=>?_) (λ n=>?_) λ n=>rfl) (by rw [An (by omega)]))))))
  ·unfold Dk
   exact Tot.ev (Tot.bindC (AD hi) (Tot.iteT (decide_eq_true (by omega)) (Tot.bindC (AD hi) (Tot.bindC (AD hj) (Tot.bindC (AD hi) (Tot.bindC (AD hj) (Tot.iteF (by simp) (Tot.pure (by rw [An (by omega)])))))))))
  ·unfold Dk
   rw [AD hi]
   simp
 ·unfold Dl
  rw [if_neg (by simp)]
theorem Wp {p:Af} (h:p.F.length<=1000000000) (h':∀ g∈p.F,g.P.length<=1000000000):Ev (λ n=>Fe n p p) true:=by
 refine Tot.ev (Tot.iteF (by simp) (Ev.tot (Ec p.F.length (λ i hi=>?_) (λ n=>?_) λ n=>rfl) rfl))
 ·unfold Cu
  have hr:=h' _ (JmB hi)
  refine Tot.ev (Tot.iteT (decide_eq_true (by omega)) (Tot.bindC (AD hi) (Tot.bindC (AD hi) (Tot.iteF (by simp) (Ev.tot (Ec p.F[i].P.length (λ j hj=>?_) (λ n=>?_) λ n=>rfl) (by rw [An (by omega)]))))))
  ·unfold Ct
   exact Tot.ev (Tot.iteT (decide_eq_true (by omega)) (Tot.bindC (AD hj) (Tot.bindC (AD hj) (Tot.iteF (by simp) (Tot.pure (by rw [An (by omega)]))))))
  ·unfold Ct
   rw [if_neg (by simp)]
 ·unfold Cu
  rw [if_neg (by simp)]
theorem ZU {x:Ag} (h:SzB x):Ev (λ n=>GY n x x) true:=
 Tot.ev (Tot.gE (by simp) (JjP h.f) (Tot.iteF (by simp) (Tot.bindE (Jci h.rows h.row) (Tot.gE rfl (Wp h.pf h.pp) (Tot.pure rfl)))))
theorem Wq {b:List Ag} (h:b.length<=1000000000) (h':∀ x∈b,SzB x):Ev (λ n=>Ix n b b) true:=by
 refine Tot.ev (Tot.iteF (by simp) (Ev.tot (Ec b.length (λ i hi=>?_) (λ n=>?_) λ n=>rfl) rfl))
 ·unfold Gs
  exact Tot.ev (Tot.iteT (decide_eq_true (by omega)) (Tot.bindC (AD hi) (Tot.bindC (AD hi) (Tot.bindE (ZU (h' _ (JmB hi))) (Tot.iteF rfl (Tot.pure (by rw [An (by omega)])))))))
 ·unfold Gs
  rw [if_neg (by simp)]
theorem PX {l:List Ab} (h:l.length<=1000000000):Ev (λ n=>Dm n l l) true:=by
 refine Tot.ev (Tot.iteF (by simp) (Ev.tot (Ec l.length (λ i hi=>?_) (λ n=>?_) λ n=>rfl) rfl))
 ·unfold Cv
  exact Tot.ev (Tot.iteT (decide_eq_true (by omega)) (Tot.bindC (AD hi) (Tot.bindC (AD hi) (Tot.iteF (by simp) (Tot.pure (by rw [An (by omega)]))))))
 ·unfold Cv
  rw [if_neg (by simp)]
theorem Ws {v:Ao} (h:v.Agreed.length<=1000000000) (h':v.Quarrels.length<=1000000000):Ev (λ n=>OE n v v) true:=by
 refine Tot.ev (Tot.bindE (PX h) (Tot.iteF (by simp) (Ev.tot (Ec v.Quarrels.length (λ i hi=>?_) (λ n=>?_) λ n=>rfl) rfl)))
 ·unfold Gt
  exact Tot.ev (Tot.iteT (decide_eq_true (by omega)) (Tot.bindC (AD hi) (Tot.bindC (AD hi) (Tot.iteF (by simp) (Tot.pure (by rw [An (by omega)]))))))
 ·unfold Gt
  rw [if_neg (by simp)]
end Go.AI
end
section
namespace Go.AI
def scan {ρ:Type} (N:Nat) (stop:Nat->Option ρ):Unit⊕ρ:=match (List.range N).findSome? stop with
 | some r=>.inr r
 | none=>.inl ()
theorem YD {ρ:Type} {body:Nat->Int->Option (Int⊕(Unit⊕ρ))} (N:Nat) (stop:Nat->Option ρ)
  (h:∀ i,i<N->Ev (λ n=>body n (i:Int)) (match stop i with|some r=>.inr (.inr r)|none=>.inl ((i+1:Nat):Int)))
  (h2:Ev (λ n=>body n (N:Int)) (.inr (.inl ()))):Ev (λ n=>whl (body n) n 0) (AI.scan N stop):=by
 have key:∀ (k i:Nat),i+k=N->(List.range N).findSome? stop=((List.range k).map (i+·)).findSome? stop->∃ M c,∀ n fuel,M<=n->c<=fuel->whl (body n) fuel (i:Int)=some (AI.scan N stop):=by
  intro k
  induction k with
  | zero=>
   intro i hi hf
   have:i=N:=by omega
   subst this
   obtain ⟨M,hM⟩:=h2
   refine ⟨M,1,λ n fuel hn hfu=>?_⟩
   obtain ⟨fuel,rfl⟩:∃ f,fuel=f+1:=⟨fuel-1,by omega⟩
   have e:=hM n hn
   simp only at e
   simp only [AI.whl,e]
   unfold AI.scan
   rw [hf];rfl
  | succ k ih=>
   intro i hi hf
   obtain ⟨M,hM⟩:=h i (by omega)
   have hs:(List.range (k+1)).map (i+·)=i::(List.range k).map ((i+1)+·):=by
    rw [List.range_succ_eq_map]
    simp only [JmK,Nat.add_zero,List.map_map,List.cons.injEq,true_and]
    apply List.map_congr_left
    intro a _
    simp only [Function.comp];omega
   rw [hs,List.findSome?_cons] at hf
   cases hst:stop i with
   | some r=>
    rw [hst] at hf hM
    refine ⟨M,1,λ n fuel hn hfu=>?_⟩
    obtain ⟨fuel,rfl⟩:∃ f,fuel=f+1:=⟨fuel-1,by omega⟩
    have e:=hM n hn
    simp only at e
    simp only [AI.whl,e]
    unfold AI.scan
    rw [hf]
   | none=>
    rw [hst] at hf hM
    obtain ⟨M2,c,h3⟩:=ih (i+1) (by omega) hf
    refine ⟨max M M2,c+1,λ n fuel hn hfu=>?_⟩
    obtain ⟨fuel,rfl⟩:∃ f,fuel=f+1:=⟨fuel-1,by omega⟩
    have e:=hM n (by omega)
    simp only at e
    simp only [AI.whl,e]
    exact h3 n fuel (by omega) (by omega)
 obtain ⟨M,c,hh⟩:=key N 0 (by omega) (by simp)
 exact ⟨max M c,λ m hm=>hh m m (by omega) (by omega)⟩
theorem ZV {ρ:Type} {N:Nat} {stop:Nat->Option ρ} (h:∀ i,i<N->stop i=none):scan N stop=.inl ():=by
 unfold scan
 rw [List.findSome?_eq_none_iff.2 λ i hi=>h i (List.mem_range.1 hi)]
theorem ZW {ρ:Type} {N:Nat} {stop:Nat->Option ρ} {i:Nat} (hi:i<N) (h:(stop i).isSome=true):∃ k r,k<N/\stop k=some r/\scan N stop=.inr r:=by
 unfold scan
 cases hf:(List.range N).findSome? stop with
 | none=>rw [List.findSome?_eq_none_iff.1 hf i (List.mem_range.2 hi)] at h;cases h
 | some r=>
  obtain ⟨k,hk,hr⟩:=List.exists_of_findSome?_eq_some hf
  exact ⟨k,r,List.mem_range.1 hk,hr,rfl⟩
def ES (b:UInt8):Int:=(b.toNat:Int)
def Hn (b:UInt8):Bool:=decide (Ei .u8 (ES b) 127>=32)&&decide (Ei .u8 (ES b) 127<=126)
def CH (b:UInt8):Bool:=Ei .u8 (ES b) 127==32
theorem ET {s:List UInt8} {i:Nat} {b:UInt8} (h:s[i]? = some b):Jj s (i:Int)=some (ES b):=by
 have hi:=(List.getElem?_eq_some_iff.1 h).1
 unfold Jj ES
 rw [if_pos (by omega),JmW,h];rfl
theorem D4 {i n:Nat} (h:i<n):decide ((i:Int)<((n:Nat):Int))=true:=by simpa using h
theorem Cr (n:Nat):decide (((n:Nat):Int)<((n:Nat):Int))=false:=by simp
def PY (s:List UInt8):Int×Int:=match scan s.length (λ i=>if Hn (s.getD i 0) then none else some ((i:Int),(60:Int))) with
 | .inl _=>(((s.length:Nat):Int),0)
 | .inr p=>p
theorem BU {α:Type} {l:List α} {i:Nat} {d:α} (h:i<l.length):l.getD i d=l[i]:=by
 rw [JmV,JmM h];rfl
theorem Jfi {s:List UInt8} (hl:s.length<9223372036854775807):Ev (λ n=>Ny n s) (PY s):=by
 unfold Ny PY
 refine Ev.bind (YD s.length (λ i=>if Hn (s.getD i 0) then none else some ((i:Int),(60:Int))) (λ i hi=>Ev.all λ n=>?_) (Ev.all λ n=>?_)) ?_
 ·unfold HA
  have hg:s[i]? = some s[i]:=JmM hi
  rw [if_pos (D4 hi),ET hg,BU hi]
  have hc:F4 n (ES s[i])=some (Hn s[i]):=rfl
  simp only [Jmv,hc]
  cases Hn s[i] with
  | true=>simp [An (show i<9223372036854775807 by omega)]
  | false=>simp
 ·unfold HA
  rw [if_neg (by simp)]
 ·generalize scan s.length _=z;cases z<;>exact Ev.const
theorem Jcj {s:List UInt8} (hl:s.length<9223372036854775807):Ev (λ n=>NA n s) (PY s):=by
 unfold NA PY
 refine Ev.bind (YD s.length (λ i=>if Hn (s.getD i 0) then none else some ((i:Int),(60:Int))) (λ i hi=>Ev.all λ n=>?_) (Ev.all λ n=>?_)) ?_
 ·unfold HK
  have hg:s[i]? = some s[i]:=JmM hi
  rw [if_pos (D4 hi),ET hg,BU hi]
  have hc:Ic n (ES s[i])=some (Hn s[i]):=rfl
  simp only [Jmv,hc]
  cases Hn s[i] with
  | true=>simp [An (show i<9223372036854775807 by omega)]
  | false=>simp
 ·unfold HK
  rw [if_neg (by simp)]
 ·generalize scan s.length _=z;cases z<;>exact Ev.const
theorem Wt {s:List UInt8} (h:s.all Hn=true):PY s=(((s.length:Nat):Int),0):=by
 unfold PY
 rw [ZV λ i hi=>by rw [BU hi,Jmz.1 h _ (JmB hi)];rfl]
theorem TD {s:List UInt8} (h:s.all Hn=false):(PY s).2=60:=by
 rw [List.all_eq_false] at h
 obtain ⟨b,hb,hc⟩:=h
 obtain ⟨i,hi,e⟩:=List.getElem_of_mem hb
 unfold PY
 obtain ⟨k,r,hk,hr,hs⟩:=ZW (stop:=λ i=>if Hn (s.getD i 0) then none else some ((i:Int),(60:Int))) hi (by
  rw [BU hi,e];simp only [Bool.not_eq_true] at hc;rw [hc];rfl)
 rw [hs]
 simp only at hr ⊢
 split at hr
 ·cases hr
 ·cases hr;rfl
theorem ZX {s:List UInt8} (hl:s.length<9223372036854775807):Ev (λ n=>Jp n s) (s.all Hn):=by
 unfold Jp
 refine Ev.bind (Jcj hl) ?_
 cases h:s.all Hn with
 | true=>rw [Wt h];exact Ev.const
 | false=>rw [TD h];exact Ev.const
def Jz (b:Int):Int:=
 if (decide (97<=Ei .u8 b 127)&&decide (Ei .u8 b 127<=122))=true then 1
 else if (decide (65<=Ei .u8 b 127)&&decide (Ei .u8 b 127<=90))=true then 2
 else if (decide (48<=Ei .u8 b 127)&&decide (Ei .u8 b 127<=57))=true then 3
 else if (Ei .u8 b 127==32)=true then 4 else 5
theorem Jck (n:Nat) (b:Int):Lm n b=some (Jz b):=by
 unfold Lm Jz
 split
 ·rfl
 ·split
  ·rfl
  ·split
   ·rfl
   ·split<;>rfl
def Ho:Bool->List UInt8->Bool
 | p,[]=>!p
 | p,b::s=>if CH b=true then (if p=true then false else Ho true s) else Ho false s
def clS (s:List UInt8):Bool:=decide (s.length<=400)&&(s.all Hn&&Ho true s)
theorem TE (p:Bool) (b:UInt8) (s:List UInt8):Ho p (b::s)=if CH b=true then (if p=true then false else Ho true s) else Ho false s:=rfl
theorem Lv {p:Bool} {b:UInt8} {s:List UInt8} (h:(CH b&&p)=false):Ho p (b::s)=Ho (CH b) s:=by
 rw [TE]
 cases hb:CH b with
 | false=>simp
 | true=>
  rw [hb,Bool.true_and] at h
  simp [h]
theorem UP {p:Bool} {b:UInt8} {s:List UInt8} (h:(CH b&&p)=true):Ho p (b::s)=false:=by
 rw [JmN] at h
 rw [TE]
 simp [h.1,h.2]
theorem Pm:∀ (s:List UInt8) (p:Bool),s≠[]->CH (s.getD (s.length-1) 0)=true->Ho p s=false
 | [],_,h,_=>absurd rfl h
 | [b],p,_,h=>by
  have hb:CH b=true:=h
  unfold Ho
  rw [if_pos hb]
  cases p<;>rfl
 | b::c::s,p,_,h=>by
  have h':CH ((c::s).getD ((c::s).length-1) 0)=true:=h
  have e1:=Pm (c::s) true (by simp) h'
  have e2:=Pm (c::s) false (by simp) h'
  unfold Ho
  split
  ·split
   ·rfl
   ·exact e1
  ·exact e2
theorem Sp (b:UInt8):(Jz (ES b)==4)=CH b:=by
 unfold Jz CH
 generalize Ei .u8 (ES b) 127=v
 by_cases h:v=32
 ·subst h;rfl
 ·have e:(v==32)=false:=by simpa using h
  rw [e]
  split
  ·rfl
  ·split
   ·rfl
   ·split
    ·rfl
    ·rfl
theorem TF (b:UInt8):Jz (ES b)≠0:=by
 unfold Jz
 split
 ·decide
 ·split
  ·decide
  ·split
   ·decide
   ·split<;>decide
theorem Jfj {s:List UInt8} (h:clS s=true):1<=s.length/\s.length<=400:=by
 unfold clS at h
 simp only [JmN,decide_eq_true_eq] at h
 refine ⟨?_,h.1⟩
 cases s with
 | nil=>simp [Ho] at h
 | cons=>simp
theorem Jcl (s:List UInt8) (hl:s.length<9223372036854775807):Ev (λ n=>Is n s) (clS s):=by
 refine Tot.ev (Tot.ite (λ h=>Tot.pure ?_) λ h=>?_)
 ·simp only [Jm4,decide_eq_true_eq] at h
  unfold clS
  rcases h with h|h
  ·have:s=[]:=List.length_eq_zero_iff.1 (by omega)
   subst this;rfl
  ·rw [decide_eq_false (by omega)];rfl
 ·simp only [JmL,decide_eq_false_iff_not] at h
  have h4:decide (s.length<=400)=true:=decide_eq_true (by omega)
  unfold clS
  rw [h4,Bool.true_and]
  refine Tot.bindE (Jfi hl) ?_
  cases hc:s.all Hn with
  | false=>
   rw [TD hc]
   exact Tot.iteT rfl (Tot.pure rfl)
  | true=>
   rw [Wt hc]
   refine Tot.iteF rfl ?_
   rw [Bool.true_and]
   refine Tot.bind (R:=λ y=>(match y with | .inl l=>(l != 4) | .inr b=>b)=Ho true s) ?_ λ y hy=>by
    cases y with
    | inl l=>exact Tot.pure hy
    | inr b=>exact Tot.pure hy
   refine Tot.upto s.length (λ i (x:Int×Int)=>x.2=(i:Int)/\(x.1=0->i=0)/\Ho ((x.1==0)||(x.1==4)) (s.drop i)=Ho true s) ?_ ?_ _ ⟨rfl,λ _=>rfl,rfl⟩
   ·rintro i ⟨l,x⟩ hi ⟨h1,h2,h3⟩
    simp only at h1 h2 h3
    subst h1
    unfold Gp
    rw [List.drop_eq_getElem_cons hi] at h3
    refine Tot.iteT (decide_eq_true (by omega)) (Tot.bindC (ET (JmM hi)) (Tot.bindA (λ n=>Jck n _) ?_))
    rw [Sp]
    refine Tot.ite (λ hb=>Tot.pure ?_) λ hb=>Tot.pure ⟨An (by omega),λ h0=>absurd h0 (TF _),?_⟩
    ·show false=_
     rw [← h3,UP hb]
    ·rw [Lv hb] at h3
     rw [← h3]
     show Ho ((Jz (ES s[i])==0)||(Jz (ES s[i])==4)) (s.drop (i+1))=_
     rw [Sp,show (Jz (ES s[i])==0)=false by simpa using TF _,Bool.false_or]
   ·rintro ⟨l,x⟩ ⟨h1,h2,h3⟩
    simp only at h1 h2 h3
    subst h1
    unfold Gp
    refine Tot.iteF (decide_eq_false (by omega)) (Tot.pure ?_)
    rw [List.drop_of_length_le (JmD _)] at h3
    show (l != 4)=_
    rw [← h3]
    have:(l==0)=false:=by
     rw [beq_eq_false_iff_ne]
     intro h0
     have:=h2 h0
     omega
    rw [this]
    rfl
theorem N6 (n:Nat) (b:UInt8):GM n (ES b)=some (CH b):=rfl
theorem Lw (s:List UInt8) (hl:s.length<9223372036854775807):Ev (λ n=>GN n s) (clS s):=by
 refine Tot.ev (Tot.bindE (ZX hl) ?_)
 unfold clS
 cases hc:s.all Hn with
 | false=>
  refine Tot.gF rfl (Tot.gF rfl (Tot.gF rfl (Tot.gF rfl (Tot.iteT rfl (Tot.pure ?_)))))
  rw [Bool.false_and,Bool.and_false]
 | true=>
  rw [Bool.true_and]
  by_cases h0:s=[]
  ·subst h0
   exact Tot.gF rfl (Tot.gF rfl (Tot.gF rfl (Tot.gF rfl (Tot.iteT rfl (Tot.pure rfl)))))
  ·have hp:0<s.length:=List.length_pos_iff.2 h0
   have e0:(((s.length:Nat):Int)==0)=false:=by rw [beq_eq_false_iff_ne];omega
   rw [e0]
   by_cases h4:s.length<=400
   ·have e4:decide (((s.length:Nat):Int)>400)=false:=decide_eq_false (by omega)
    rw [e4,decide_eq_true h4,Bool.true_and]
    have ef:s.getD 0 0=s[0]:=BU hp
    have g0:Jj s 0=some (ES s[0]):=ET (i:=0) (JmM hp)
    have hm:s.length-1<s.length:=by omega
    have g1:Jj s (AU .i64 ((s.length:Nat):Int) 1)=some (ES s[s.length-1]):=by
     rw [Cq (by omega) (by omega),show ((s.length:Nat):Int)-1=((s.length-1:Nat):Int) by omega]
     exact ET (JmM hm)
    refine Tot.gE rfl (Ev.all λ n=>g0) (Tot.gE rfl (Ev.all λ n=>N6 n _) ?_)
    obtain ⟨b0,s',rfl⟩:∃ b s',s=b::s':=by cases s with|nil=>exact absurd rfl h0|cons b s'=>exact ⟨b,s',rfl⟩
    cases hb:CH (b0::s')[0] with
    | true=>
     refine Tot.gF rfl (Tot.gF rfl (Tot.iteT rfl (Tot.pure ?_)))
     exact (UP (by rw [Bool.and_true];exact hb)).symm
    | false=>
     refine Tot.gE rfl (Ev.all λ n=>g1) (Tot.gE rfl (Ev.all λ n=>N6 n _) ?_)
     cases hb1:CH (b0::s')[(b0::s').length-1] with
     | true=>
      refine Tot.iteT rfl (Tot.pure ?_)
      exact (Pm _ _ (by simp) (by rw [BU hm];exact hb1)).symm
     | false=>
      refine Tot.iteF rfl ?_
      have hst:Ho true (b0::s')=Ho false s':=by
       have:=Lv (p:=true) (b:=b0) (s:=s') (by rw [Bool.and_true];exact hb)
       rw [this,show CH b0=false from hb]
      generalize hS:b0::s'=S at *
      refine Tot.bind (R:=λ y=>(match y with | .inl _=>true | .inr b=>b)=Ho true S) ?_ λ y hy=>by
       cases y with
       | inl l=>exact Tot.pure hy
       | inr b=>exact Tot.pure hy
      refine Tot.whl (λ k (x:Int)=>∃ i:Nat,x=(i:Int)/\1<=i/\i+k=S.length/\Ho (CH (S.getD (i-1) 0)) (S.drop i)=Ho true S) ?_ (S.length-1) _ ⟨1,rfl,by omega,by omega,?_⟩
      ·rintro k _ ⟨i,rfl,hi1,hik,h3⟩
       unfold Jq
       rcases JmE i S.length with hi|hi
       ·rw [List.drop_eq_getElem_cons hi] at h3
        have gp:Jj S (AU .i64 (i:Int) 1)=some (ES (S.getD (i-1) 0)):=by
         rw [Cq (by omega) (by omega),show (i:Int)-1=((i-1:Nat):Int) by omega,BU (by omega)]
         exact ET (JmM (by omega))
        refine Tot.iteT (decide_eq_true (by omega)) (Tot.bindC (ET (JmM hi)) (Tot.bindA (λ n=>N6 n _) ?_))
        cases hsi:CH S[i] with
        | false=>
         rw [Lv (by rw [hsi];rfl),hsi] at h3
         refine Tot.gF rfl (Tot.gF rfl (Tot.iteF rfl (Tot.pure ⟨k-1,by omega,i+1,An (by omega),by omega,by omega,?_⟩)))
         rw [show i+1-1=i by omega,BU hi,hsi];exact h3
        | true=>
         refine Tot.gE rfl (Ev.all λ n=>gp) (Tot.gE rfl (Ev.all λ n=>N6 n _) ?_)
         cases hsp:CH (S.getD (i-1) 0) with
         | true=>
          rw [UP (by rw [hsi,hsp];rfl)] at h3
          exact Tot.iteT rfl (Tot.pure h3)
         | false=>
          rw [Lv (by rw [hsi,hsp];rfl),hsi] at h3
          refine Tot.iteF rfl (Tot.pure ⟨k-1,by omega,i+1,An (by omega),by omega,by omega,?_⟩)
          rw [show i+1-1=i by omega,BU hi,hsi];exact h3
       ·refine Tot.iteF (decide_eq_false (by omega)) (Tot.pure ?_)
        show true=_
        rw [← h3,List.drop_of_length_le hi]
        have:i=S.length:=by omega
        subst this
        rw [BU hm,hb1];rfl
      ·rw [hst]
       subst hS
       show Ho (CH b0) s'=_
       rw [show CH b0=false from hb]
   ·have e4:decide (((s.length:Nat):Int)>400)=true:=decide_eq_true (by omega)
    rw [e4,decide_eq_false h4]
    exact Tot.gF rfl (Tot.gF rfl (Tot.gF rfl (Tot.gF rfl (Tot.iteT rfl (Tot.pure rfl)))))
end Go.AI
end
section
namespace Go.AI
def U8 (n:Int):Prop:=0<=n/\n<256
theorem u8w {n:Int} (h:U8 n):IntKind.i64.wrap n=n:=by unfold U8 at h;exact w64 (by omega) (by omega)
theorem Hp {x:Int} (h:x≠0):BJ (!(x==0))=some ():=Eb (by simpa using h)
theorem Sr {l:List Int} (hl:l.length<=9223372036854775807) (hu:∀ x∈l,U8 x) {k:Nat} (hk:1<=k) (hk2:k<=100) {a:List UInt8} (ha:1<=a.length) (ha2:a.length<=100):Tot (λ n=>Iy n l (k:Int) a) (λ z=>z.length<=k):=by
 have e1:Ai .i64 ((a.length:Nat):Int) 1=((a.length+1:Nat):Int):=An (by omega)
 have e2:AU .i64 (k:Int) 1=((k-1:Nat):Int):=(Cq (by omega) (by omega)).trans (by omega)
 refine Tot.bind (R:=λ z=>z.length<=k) ?_ λ z hz=>?_
 ·refine Tot.upto l.length (λ i (x:List UInt8×Int)=>x.2=(i:Int)/\x.1.length<=k) ?_ ?_ _ ⟨rfl,by simp⟩
  ·rintro i ⟨o,x⟩ hi ⟨h1,h2⟩
   simp only at h1 h2
   subst h1
   unfold Gv
   refine Tot.ite (λ hb=>?_) λ hb=>Tot.pure h2
   rw [JmN,decide_eq_true_eq,decide_eq_true_eq] at hb
   simp only at hb
   have hlt:i<l.length:=by omega
   have hx:=hu _ (JmB hlt)
   rw [e1]
   refine Tot.bindC (AD hlt) (Tot.bindC (Hp (by omega)) ?_)
   rw [u8w hx]
   unfold U8 at hx
   obtain ⟨r1,r2,r3⟩:=BF (a:=l[i]) (m:=((a.length+1:Nat):Int)) (by omega) (by omega)
   refine Tot.ite (λ hr=>?_) λ hr=>?_
   ·rw [decide_eq_true_eq] at hr
    rw [Cq (by omega) (by omega)]
    refine Tot.bindC (Hm (by omega) (by omega) (by omega)) (Tot.bindC (MX ?_) (Tot.pure ⟨An (by omega),?_⟩))
    ·simp only [List.length_drop,List.length_take];omega
    ·simp only [List.length_append,List.length_drop,List.length_take];omega
   ·rw [e2]
    by_cases h0:0<o.length
    ·have hg:Jj o (AU .i64 ((o.length:Nat):Int) 1)=some (ES (o.getD (o.length-1) 0)):=by
      rw [Cq (by omega) (by omega),show ((o.length:Nat):Int)-1=((o.length-1:Nat):Int) by omega,BU (by omega)]
      exact ET (JmM (by omega))
     refine Tot.guard (R:=λ _=>True) (λ _=>Tot.all (λ n=>hg) trivial) λ b _=>Tot.ite (λ hc=>?_) λ hc=>Tot.pure ⟨An (by omega),h2⟩
     refine Tot.bindC (MX (by simp;omega)) (Tot.pure ⟨An (by omega),?_⟩)
     simp only [JmN,decide_eq_true_eq] at hc
     simp only [List.length_append,List.length_singleton];omega
    ·have hf:decide (((o.length:Nat):Int)>0)=false:=decide_eq_false (by omega)
     rw [hf]
     exact Tot.gF rfl (Tot.iteF rfl (Tot.pure ⟨An (by omega),h2⟩))
  ·rintro ⟨o,x⟩ ⟨h1,h2⟩
   simp only at h1 h2
   subst h1
   unfold Gv
   exact Tot.iteF (by rw [Bool.and_eq_false_iff,decide_eq_false_iff_not];left;omega) (Tot.pure h2)
 ·have hfin:∀ z':List UInt8,z'.length<=k->Tot (λ n=>Em n a z') (λ z=>z.length<=k):=λ z' hz'=>by
   unfold Em
   refine Tot.ite (λ _=>Tot.bindC (UO (k:=1) (by omega)) (Tot.pure ?_)) λ _=>Tot.pure hz'
   simp only [List.length_take];omega
  by_cases h0:0<z.length
  ·have hg:Jj z (AU .i64 ((z.length:Nat):Int) 1)=some (ES (z.getD (z.length-1) 0)):=by
    rw [Cq (by omega) (by omega),show ((z.length:Nat):Int)-1=((z.length-1:Nat):Int) by omega,BU (by omega)]
    exact ET (JmM (by omega))
   refine Tot.gE (decide_eq_true (by omega)) (Ev.all λ n=>hg) (Tot.ite (λ _=>?_) λ _=>hfin z hz)
   rw [Cq (by omega) (by omega),show ((z.length:Nat):Int)-1=((z.length-1:Nat):Int) by omega]
   refine Tot.bindC (UO (by omega)) (hfin _ ?_)
   simp only [List.length_take];omega
  ·have hf:decide (((z.length:Nat):Int)>0)=false:=decide_eq_false (by omega)
   rw [hf]
   exact Tot.gF rfl (Tot.iteF rfl (hfin z hz))
def wdK (x:Ag):Bool:=((x.Kind==1)||(x.Kind==2))||(x.Kind==4)
def CQ (b:List Ag) (i:Int):Ag:=b.getD i.toNat default
def wdB (b:List Ag) (i:Int):Bool:=(decide (0<=i)&&decide (i<((b.length:Nat):Int)))&&wdK (CQ b i)
theorem GK {b:List Ag} {i:Int}:wdB b i=true↔(0<=i/\i<(b.length:Int))/\wdK (CQ b i)=true:=by unfold wdB;simp
theorem Lx {b:List Ag} {i:Int} (h:0<=i) (h':i<(b.length:Int)):idx b i=some (CQ b i):=Jce h h'
theorem TG (n:Nat) (b:List Ag) (i:Int):FP n b i=some (wdB b i):=by
 unfold FP wdB wdK
 by_cases h:0<=i/\i<(b.length:Int)
 ·have e1:decide (i>=0)=true:=decide_eq_true h.1
  have e2:decide (i<((b.length:Nat):Int))=true:=decide_eq_true h.2
  rw [e1,e2,Lx h.1 h.2]
  generalize CQ b i=x
  by_cases h1:x.Kind=1
  ·simp [h1]
  ·by_cases h2:x.Kind=2
   ·simp [h2]
   ·simp [h1,h2]
 ·have e:(decide (i>=0)&&decide (i<((b.length:Nat):Int)))=false:=by simp only [Bool.and_eq_false_iff,decide_eq_false_iff_not];omega
  rw [e]
  rfl
structure BkT (b:List Ag):Prop where
 len:b.length<=100
 txt:∀ x∈b,x.Text.length<=400
theorem BkT.blk {b:List Ag} (h:BkT b) (i:Int):(CQ b i).Text.length<=400:=by
 unfold CQ
 rw [JmV]
 cases he:b[i.toNat]? with
 | none=>exact Nat.zero_le _
 | some x=>exact h.txt x (JmO he)
structure RwC (x:AS):Prop where
 b:U8 x.Block
 a:U8 x.At
 c:U8 x.Cut
 l:x.Put.length<=9223372036854775807
 p:∀ y∈x.Put,U8 y
structure MdC (b:List Ag) (c:Ab):Prop where
 bl:0<=c.Block/\c.Block<256
 at0:0<=c.At
 at1:c.At<=400
 cut0:0<=c.Cut
 cut1:c.Cut<=3
 put:c.Put.length<=4
 wd:(∃ i,wdB b i=true)->wdB b c.Block=true/\c.At+c.Cut<=((CQ b c.Block).Text.length:Int)
theorem MdC.ok {b:List Ag} {c:Ab} (h:MdC b c) {A:Int} (hA:400<=A):Okc A c:=by
 have:=h.at0;have:=h.at1;have:=h.cut0;have:=h.cut1;have:=h.put
 unfold Okc;omega
theorem Jcm {b:List Ag} (hb:BkT b) {x:AS} (hx:RwC x) {a:List UInt8} (ha:1<=a.length) (ha2:a.length<=100):Tot (λ n=>OM n b x a) (MdC b):=by
 have hbl:=hb.len
 refine Tot.bind (R:=λ l=>(l.length<=100/\∀ i∈l,wdB b i=true)/\(l=[]->∀ i,wdB b i=false)) ?_ λ l hl=>?_
 ·refine Tot.upto b.length (λ i (y:List Int×Int)=>y.2=(i:Int)/\(y.1.length<=i/\∀ j∈y.1,wdB b j=true)/\(y.1=[]->∀ j:Nat,j<i->wdB b (j:Int)=false)) ?_ ?_ _ ⟨rfl,⟨by simp,by simp⟩,λ _ j hj=>by omega⟩
  ·rintro i ⟨l,y⟩ hi ⟨h1,h2,h3⟩
   simp only at h1 h2 h3
   subst h1
   unfold GG
   refine Tot.iteT (decide_eq_true (by omega)) (Tot.bindA (λ n=>TG n b _) (Tot.ite (λ hw=>?_) λ hw=>Tot.pure ⟨An (by omega),⟨by have:=h2.1;show l.length<=i+1;omega,h2.2⟩,λ he j hj=>?_⟩))
   ·refine Tot.bindC (A9 (by simp;omega)) (Tot.pure ⟨An (by omega),⟨by simp;exact h2.1,λ j hj=>?_⟩,λ he=>?_⟩)
    ·rw [List.mem_append,List.mem_singleton] at hj
     rcases hj with hj|rfl
     ·exact h2.2 j hj
     ·exact hw
    ·simp at he
   ·rcases Nat.lt_succ_iff_lt_or_eq.1 hj with h|rfl
    ·exact h3 he j h
    ·exact hw
  ·rintro ⟨l,y⟩ ⟨h1,h2,h3⟩
   simp only at h1 h2 h3
   subst h1
   unfold GG
   refine Tot.iteF (decide_eq_false (by omega)) (Tot.pure ⟨⟨by show l.length<=100;omega,h2.2⟩,λ he i=>?_⟩)
   by_cases hi:0<=i/\i<(b.length:Int)
   ·have:=h3 he i.toNat (by omega)
    rwa [show ((i.toNat:Nat):Int)=i by omega] at this
   ·rw [← Bool.not_eq_true,GK]
    exact λ h=>hi h.1
 ·have hu:=hx.b
  refine Tot.ite (λ he=>Tot.pure ?_) λ he=>?_
  ·rw [beq_iff_eq] at he
   have hn:l=[]:=List.length_eq_zero_iff.1 (by omega)
   have hw:=hl.2 hn
   refine ⟨?_,Int.le_refl 0,by show (0:Int)<=400;decide,Int.le_refl 0,by show (0:Int)<=3;decide,Nat.zero_le _,λ ⟨i,hi⟩=>?_⟩
   ·show 0<=IntKind.i64.wrap x.Block/\IntKind.i64.wrap x.Block<256
    rw [u8w hu];exact hu
   ·rw [hw i] at hi;cases hi
  ·rw [beq_eq_false_iff_ne] at he
   rw [u8w hu,u8w hx.a]
   have hlp:0<l.length:=by omega
   unfold U8 at hu
   obtain ⟨r1,r2,r3⟩:=BF (a:=x.Block) (m:=((l.length:Nat):Int)) (by omega) (by omega)
   have hmem:l.getD (Al x.Block ((l.length:Nat):Int)).toNat default∈l:=by
    rw [JmV,JmM (by omega)]
    exact JmB _
   refine Tot.bindC (Hp (by omega)) (Tot.bindC (Jce r2 (by omega)) ?_)
   generalize hj:l.getD (Al x.Block ((l.length:Nat):Int)).toNat default=j at hmem ⊢
   have hw:=hl.1.2 j hmem
   have hw':=GK.1 hw
   have ht:=hb.blk j
   refine Tot.bindC (Lx hw'.1.1 hw'.1.2) ?_
   generalize hq:CQ b j=q at *
   have e1:Ai .i64 ((q.Text.length:Nat):Int) 1=((q.Text.length+1:Nat):Int):=An (by omega)
   rw [e1]
   have ha':=hx.a
   unfold U8 at ha'
   obtain ⟨s1,s2,s3⟩:=BF (a:=x.At) (m:=((q.Text.length+1:Nat):Int)) (by omega) (by omega)
   generalize Al x.At ((q.Text.length+1:Nat):Int)=A at s1 s2 s3 ⊢
   have e2:Ai .i64 (AU .i64 ((q.Text.length:Nat):Int) A) 1=((q.Text.length:Int)-A+1):=by
    rw [Cq (by omega) (by omega),DG (by omega) (by omega)]
   rw [e2]
   have hc:=hx.c
   unfold U8 at hc
   obtain ⟨t1,t2,t3⟩:=BF (a:=x.Cut) (m:=4) (by omega) (by omega)
   rw [w64 (a:=Al x.Cut 4) (by omega) (by omega)]
   obtain ⟨v1,v2,v3⟩:=BF (a:=Al x.Cut 4) (m:=((q.Text.length:Int)-A+1)) (by omega) (by omega)
   have v4:Al (Al x.Cut 4) ((q.Text.length:Int)-A+1)<=Al x.Cut 4:=by
    rcases Int.lt_or_le (Al x.Cut 4) ((q.Text.length:Int)-A+1) with h|h
    ·rw [v1,Int.emod_eq_of_lt t2 h];exact Int.le_refl _
    ·omega
   generalize Al (Al x.Cut 4) ((q.Text.length:Int)-A+1)=C at v1 v2 v3 v4 ⊢
   have hfin:∀ P:List UInt8,P.length<=4->MdC b { Block:=j,At:=A,Cut:=C,Put:=P }:=λ P hP=>by
    refine ⟨?_,s2,?_,v2,?_,hP,λ _=>⟨hw,?_⟩⟩
    ·show 0<=j/\j<256;omega
    ·show A<=400;omega
    ·show C<=3;omega
    ·show A+C<=_
     simp only [hq];omega
   refine Tot.bindC (Hp (by omega)) (Tot.bindC (Hp (by omega)) (Tot.ite (λ _=>?_) λ _=>Tot.pure (hfin _ (Nat.zero_le _))))
   exact Tot.bind (Sr (k:=4) hx.l hx.p (by omega) (by omega) ha ha2) λ P hP=>Tot.pure (hfin P hP)
theorem ZY {b:List Ag} (hb:BkT b) {l:List AS} (hl:∀ x∈l,RwC x) {k:Nat} (hk:k<=100):Tot (λ n=>KA n b l (k:Int)) (λ w=>w.length<=k/\∀ y∈w,MdC b y.C):=by
 refine Tot.bind (R:=λ w=>w.length<=k/\∀ y∈w,MdC b y.C) ?_ λ w hw=>Tot.pure hw
 refine Tot.upto (min l.length k) (λ i (y:List AB×Int)=>y.2=(i:Int)/\y.1.length=i/\∀ z∈y.1,MdC b z.C) ?_ ?_ _ ⟨rfl,rfl,by simp⟩
 ·rintro i ⟨w,y⟩ hi ⟨h1,h2,h3⟩
  simp only at h1 h2 h3
  subst h1
  unfold EH
  have hlt:i<l.length:=by omega
  refine Tot.iteT (by rw [JmN,decide_eq_true_eq,decide_eq_true_eq];omega) (Tot.bindC (AD hlt) (Tot.bindC (AD hlt) (Tot.bind (Jcm hb (hl _ (JmB hlt)) (by decide) (by decide)) λ c hc=>Tot.bindC (A9 (by simp;omega)) (Tot.pure ⟨An (by omega),by simp;exact h2,λ z hz=>?_⟩))))
  rw [List.mem_append,List.mem_singleton] at hz
  rcases hz with hz|rfl
  ·exact h3 z hz
  ·exact hc
 ·rintro ⟨w,y⟩ ⟨h1,h2,h3⟩
  simp only at h1 h2 h3
  subst h1
  unfold EH
  exact Tot.iteF (by rw [Bool.and_eq_false_iff,decide_eq_false_iff_not,decide_eq_false_iff_not];omega) (Tot.pure ⟨by show w.length<=k;omega,h3⟩)
end Go.AI
end
section
namespace Go.AI
variable {α ε σ ρ ζ β:Type}
theorem Le.dem {S:α->Prop} {k k':α->Option ζ} (h:∀ a,Le (k a) (k' a)):Le (dem S k) (dem S k'):=by
 intro z hz
 have h1:=Jbs hz
 have h0:∃ a,S a:=by
  unfold Go.AI.dem at hz
  split at hz
  ·rename_i hx;exact hx.choose_spec.1
  ·cases hz
 exact Jbt h0 λ a ha=>h a _ (h1 a ha)
theorem Le.sortC {c c':β->β->Option Int} (h:∀ x y,Le (c x y) (c' x y)) {xs:List β}:Le (sortC c xs) (sortC c' xs):=by
 intro z hz
 obtain ⟨hc,hz⟩:=RE hz
 have e:c'=c:=by
  funext x y
  have:=hc.tot x y
  rw [Option.isSome_iff_exists] at this
  obtain ⟨n,hn⟩:=this
  rw [hn,h x y _ hn]
 rw [e]
 unfold Go.AI.sortC
 rw [if_pos hc];exact hz
end Go.AI
end
section
namespace Go.AI
theorem lr {α:Type} {x:Option α}:Le x x:=Le.refl x
theorem B0 {n m} (_:n<=m):Le (Bm n) (Bm m):=lr
theorem F8 {n m} (h:n<=m) (a b):Le (Cn n a b) (Cn m a b):=.ite (.ite lr (B0 h)) (.ite (.ite lr (B0 h)) (.ite (.ite lr (B0 h)) (B0 h)))
theorem B1 {n m} (h:n<=m) (a b):Le (Bn n a b) (Bn m a b):=.ite (.ite lr (B0 h)) (.ite (F8 h _ _) (.ite (F8 h _ _) (F8 h _ _)))
theorem JA {n m} (h:n<=m) (a):Le (Cg n a) (Cg m a):=.ite (.ite lr (B0 h)) (.ite (.ite lr (B0 h)) (.ite (B1 h _ _) (.ite (B1 h _ _) (.ite (B1 h _ _) (.ite (B1 h _ _) (.ite (B1 h _ _) (.ite (B1 h _ _) (B1 h _ _))))))))
theorem S7 {n m} (h:n<=m) (a b c):Le (GZ n a b c) (GZ m a b c):=.ite (.bind (Le.ite (lr) (lr)) λ _=>.bind (Le.ite (JA h _) (lr)) λ _=>.ite lr (.bind lr λ _=>.bind (JA h _) λ _=>lr)) lr
theorem XQ {n m} (h:n<=m) (a b):Le (Ln n a b) (Ln m a b):=.bind (Le.whl (λ _=>S7 h _ _ _) h _) λ y49=>by rcases y49 with _|_;exact lr;exact lr
theorem MY {n m} (h:n<=m) (a b c d e):Le (Ch n a b c d e) (Ch m a b c d e):=.bind lr λ _=>.bind (JA h _) λ _=>.ite (.bind lr λ _=>.bind (XQ h _ _) λ _=>lr) lr
theorem Qs {n m} (h:n<=m) (a b):Le (Dn n a b) (Dn m a b):=.bind (Le.whl (λ _=>MY h _ _ _ _ _) h _) λ _=>lr
theorem Qt {n m} (_:n<=m) {r r':((List Am)->Int->Option Int)} (hrec101_:∀ a0 a1,Le (r a0 a1) (r' a0 a1)) (a b c d):Le (CO n r a b c d) (CO m r' a b c d):=.ite (.bind lr λ _=>.bind (hrec101_ _ _) λ _=>lr) lr
theorem Ss {n m} (h:n<=m) {r r':((List Am)->Int->Option Int)} (hrec101_:∀ a0 a1,Le (r a0 a1) (r' a0 a1)) (a b):Le (BG n r a b) (BG m r' a b):=.bind (Qs h _ _) λ _=>.bind (Le.whl (λ _=>Qt h hrec101_ _ _ _ _) h _) λ _=>lr
theorem PZ {n m} (_:n<=m) (a):Le (IA n a) (IA m a):=lr
theorem Wu {n m} (h:n<=m) (a b):Le (G0 n a b) (G0 m a b):=.bind (PZ h _) λ _=>.bind (PZ h _) λ _=>lr
theorem Gk {n m} (_:n<=m) (a b):Le (CD n a b) (CD m a b):=lr
theorem LV {n m} (h:n<=m) (a b c d e):Le (B7 n a b c d e) (B7 m a b c d e):=.ite (.bind lr λ _=>.bind lr λ _=>.bind (Wu h _ _) λ _=>.ite (Gk h _ _) (Gk h _ _)) lr
theorem LW {n m} (h:n<=m) (a b c d):Le (B8 n a b c d) (B8 m a b c d):=.ite (.bind (Le.whl (λ _=>LV h _ _ _ _ _) h _) λ _=>lr) lr
theorem Pn {n m} (h:n<=m) (a b):Le (BC n a b) (BC m a b):=.bind (Le.whl (λ _=>LW h _ _ _ _) h _) λ _=>lr
theorem S8 {n m} (_:n<=m) (a):Le (Fm n a) (Fm m a):=.bind lr λ _=>lr
theorem HZ {n m} (_:n<=m) (a b):Le (De n a b) (De m a b):=lr
theorem N7 {n m} (h:n<=m) (a b c d e):Le (CE n a b c d e) (CE m a b c d e):=.ite (.bind lr λ _=>.bind lr λ _=>.ite (.bind lr λ _=>HZ h _ _) (HZ h _ _)) lr
theorem N8 {n m} (h:n<=m) (a b c d):Le (CF n a b c d) (CF m a b c d):=.ite (.bind (Le.whl (λ _=>N7 h _ _ _ _ _) h _) λ _=>lr) lr
theorem La {n m} (h:n<=m) (a b):Le (Co n a b) (Co m a b):=.bind (S8 h _) λ _=>.bind (Le.whl (λ _=>N8 h _ _ _ _) h _) λ _=>lr
theorem Gl {n m} (_:n<=m) (a):Le (CG n a) (CG m a):=lr
theorem LX {n m} (h:n<=m) (a b c d e f):Le (B9 n a b c d e f) (B9 m a b c d e f):=.ite (.bind (Le.ite (lr) (lr)) λ _=>.bind (Le.ite (lr) (lr)) λ _=>.bind (Le.ite (La h _ _) (lr)) λ _=>.bind (Le.ite (lr) (lr)) λ _=>.bind (Le.ite (La h _ _) (lr)) λ _=>.bind (Le.ite (Pn h _ _) (lr)) λ _=>lr) lr
theorem LY {n m} (h:n<=m) {r r':(Af->(List Aa)->(List (List Aa))->Option (List Aa))} (hrec98k1_:∀ a0 a1 a2,Le (r a0 a1 a2) (r' a0 a1 a2)) (a b c d):Le (BN n r a b c d) (BN m r' a b c d):=.bind lr λ _=>.ite (.bind (Le.whl (λ _=>LX h _ _ _ _ _ _) h _) λ _=>.ite (Gl h _) (.bind lr λ _=>.bind lr λ _=>.bind lr λ _=>.bind lr λ _=>.bind (hrec98k1_ _ _ _) λ _=>.ite lr (Gl h _))) lr
theorem MZ {n m} (h:n<=m) {r r':(Af->(List Aa)->(List (List Aa))->Option (List Aa))} (hrec98k1_:∀ a0 a1 a2,Le (r a0 a1 a2) (r' a0 a1 a2)) (a b c):Le (A7 n r a b c) (A7 m r' a b c):=.ite lr (.bind (Le.whl (λ _=>LY h hrec98k1_ _ _ _ _) h _) λ y120=>by rcases y120 with _|_;exact lr;exact lr)
end Go.AI
end
