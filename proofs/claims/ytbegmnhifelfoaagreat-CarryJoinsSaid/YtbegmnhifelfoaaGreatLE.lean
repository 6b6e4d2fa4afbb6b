/- Part 5 of 6 of the proof: lemmas about the model and the program's functions, with no condition beyond those that each states. -/
import Derived.Test.YtbegmnhifelfoaaGreatLD
import Derived.ChangeArms
import Derived.WalkKit
import Derived.ProofKit
import Derived.OpenShut
import Derived.Carry
import Derived.WideKeyArgs
import Derived.ChangeSame
import Derived.KernelRfl
section
namespace Go.AI
open Go.Proofs
set_option maxRecDepth 10000
variable {n:Nat}
section
variable (p0_:(List Ao)) (p1_:Int) (i_9:Int) (open_1:Int) (i_10:Int)
def Jh3:St:=⟨(0,.d (.sl (p0_.map AC)))::(1,.d (.int .i64 p1_))::[],[]⟩
def Jh4:St:=⟨(0,.d (.sl (p0_.map AC)))::(1,.d (.int .i64 i_9))::(5,.d (.int .i64 open_1))::[],[]⟩
def Jh5:St:=⟨(1,.d (.int .i64 i_10))::[],[]⟩
def UE:(Int⊕Int)->Ex->St->Prop:=xS (xX 0 0 (λ (y:Int)=>Jh5 y)) (xR ty Tryz.f99 (λ (y:Int)=>.d (.int .i64 y)))
def NI:(Int×Int)->St:=(λ (x:(Int×Int))=>Jh4 p0_ x.1 x.2)
variable {p0_ p1_ i_9 open_1 i_10}
theorem Md (x:(Int×Int)) (z:((Int×Int)⊕(Int⊕Int))) (H:GU n p0_ x.1 x.2=some z):WP (cxk 35 0) (Av Tryz.f99) [1,1,0,0,0] (As 0 (NI p0_) (UE) z) (NI p0_ x):=by
 obtain ⟨i_9,open_1⟩:=x
 refine sq (sr (ck 2 (en (cn H (λ H=>?_) (λ H=>?_)))))
 ·refine sk (qz (bk 1 (sq (sr (ck 5 (sE (g:=(!(decide (i_9<0)))) (λ hg=>Au AC p0_) (gc 1 (!(decide (i_9<0))) (pO (ck 3 (bx H λ x41 h156 H=>sE (λ hg=>Aj AC (A5 h156 hg)) (gc 1 (!((decide (i_9<0))||(decide (i_9>=((p0_.length:Nat):Int))))) (bx H λ r67 h157 H=>cG false (leZ) rfl (λ hg=>Ju (A5 h157 hg)) (Or.inl rfl) (BU (λ hh=>hh) (CY)) rfl (gc 1 (!((decide (i_9<0))||(decide (i_9>=((p0_.length:Nat):Int))))) (pO (en (cn H (λ H=>?_) (λ H=>?_)))))))))))))))))
  ·exact sr (ck 1 (en (re (qr (qR (by cases H;exact ro rfl rd))))))
  ·exact sk (qz (sr (ck 3 (bx H λ x42 h158 H=>sp (Aj AC h158) (ck 1 (bx H λ r68 h159 H=>ca false (Ju h159) (ck 3 (en (rz (ck 3 (ae (qN (by cases H;exact og (sg [0,1,5]))))))))))))))
 ·exact ex 0 (qx (by cases H;exact xo rfl (sg [1])))
theorem R5 {z} (H:Ln n p0_ p1_=some z):Aq Tryz.prog 99 [.d (.sl (p0_.map AC)),.d (.int .i64 p1_)] (.d (.int .i64 z)):=by
 refine fO 35 (Jh3 p0_ p1_) Tryz.func99 (sr (ck 1 (en (sr (ck 1 (en (sq (bk 0 (bx H λ y49 h160 H=>?_)))))))))
 rcases y49 with y50|y51
 ·exact lX Md h160 (sg [0,1,5]) rfl λ s hE35=>qH (qs (hE35) (sr (ck 2 (en (re (by cases H;exact pr rd))))))
 ·exact lR Md h160 (sg [0,1,5]) rfl λ s hE36=>qR (qr (by cases H;exact pr hE36))
end
section
variable (p0_:(List Ao)) (p1_:Int) (out_5:(List Int)) (at_1:Int) (k_7:Int) (out_6:(List Int))
def JdY:St:=⟨(0,.d (.sl (p0_.map AC)))::(1,.d (.int .i64 p1_))::[],[]⟩
def JdZ:St:=⟨(0,.d (.sl (p0_.map AC)))::(1,.d (.int .i64 p1_))::(5,.osl 0 1 0 (out_5.length))::(6,.d (.int .i64 at_1))::(7,.d (.int .i64 k_7))::[],[some (.arr 1 (out_5.map A1))]⟩
def Jd0:St:=⟨(5,.osl 0 1 0 (out_6.length))::[],[some (.arr 1 (out_6.map A1))]⟩
def NJ:(List Int)->Ex->St->Prop:=xX 0 0 (λ (y:(List Int))=>Jd0 y)
def HK:((List Int)×Int×Int)->St:=(λ (x:((List Int)×Int×Int))=>JdZ p0_ p1_ x.1 x.2.1 x.2.2)
variable {p0_ p1_ out_5 at_1 k_7 out_6}
theorem MK (x:((List Int)×Int×Int)) (z:(((List Int)×Int×Int)⊕(List Int))) (H:Ci n p0_ p1_ x.1 x.2.1 x.2.2=some z):WP (cxk 28 0) (Av Tryz.f112) [1,1,0,1,0,0] (As 0 (HK p0_ p1_) (NJ) z) (HK p0_ p1_ x):=by
 obtain ⟨out_5,at_1,k_7⟩:=x
 refine sq (sr (ck 3 (bx H λ x43 h161 H=>sp (Aj AC h161) (ck 1 (bx H λ r69 h162 H=>ca false (Ju h162) (ck 1 (en (cn H (λ H=>?_) (λ H=>?_)))))))))
 ·exact sk (qz (sq (bk 1 (sr (ck 3 (bx H λ l14 h163 H=>sp (A6 A1 0 1 h163) (ck 1 (en (rz (ck 2 (bx H λ r70 h164 H=>ca false (R5 h164) (ck 1 (ae (qN (qz (rz (ck 3 (ae (by cases H;exact og (sg [0,1,5,6,7]))))))))))))))))))))
 ·exact ex 0 (qx (by cases H;exact xo rfl (sg [5])))
theorem JJ {z} (H:Dl n p0_ p1_=some z):Aq Tryz.prog 112 [.d (.sl (p0_.map AC)),.d (.int .i64 p1_)] (.own 1 (z.map A1)):=by
 exact fO 28 (JdY p0_ p1_) Tryz.func112 (sr (ck 1 (en (sr (ck 5 (en (sq (sr (ck 1 (en (bk 0 (bx H λ y52 h165 H=>lX MK h165 (sg [0,1,5,6,7]) rfl λ s hE37=>qH (qs (hE37) (sr (ck 2 (en (re (by cases H;exact pr (rO (v:=.osl 0 1 0 (z.length)) [0] (ao vo))))))))))))))))))))
end
section
variable (p0_:Int) (x_13:Bool)
def Jd1:St:=⟨(0,.d (.int .i64 p0_))::[],[]⟩
def Jd2:St:=⟨(3,.d (.int .i64 p0_))::(6,.d (.bool x_13))::[],[]⟩
variable {p0_ x_13}
theorem EJ {z} (H:Cz n p0_=some z):Aq Tryz.prog 113 [.d (.int .i64 p0_)] (.d (.int .i64 z)):=by
 refine fO 11 (Jd1 p0_) Tryz.func113 (sr (ck 1 (en (sq (sr (ck 1 (en (bk 0 (sr (ck 2 (en (cn H (λ H=>?_) (λ H=>?_)))))))))))))
 ·exact sr (ck 1 (en (re (qR (qr (by cases H;exact pr rd))))))
 ·refine sj (λ (x:Bool)=>Jd2 p0_ x) (λ (x:Bool)=>C3 n p0_ x) z ?_ (λ hFR9_Precedence_J1=>?_)
  ·intro x_13 H
   refine cn H (λ H=>?_) (λ H=>?_)
   ·exact sr (ck 1 (en (re (qR (qr (by cases H;exact pr rd))))))
   ·refine sr (ck 2 (en (cn H (λ H=>?_) (λ H=>?_))))
    ·exact sr (ck 1 (en (re (qR (qr (by cases H;exact pr rd))))))
    ·exact sk (qN (qz (sr (ck 1 (en (re (by cases H;exact pr rd)))))))
  refine sr (ck 2 (en (cn H (λ H=>?_) (λ H=>?_))))
  ·exact sk (qs (sg [3,6]) (hFR9_Precedence_J1 (p0_==2) H))
  ·exact rz (ck 2 (ae (qs (sg [3,6]) (hFR9_Precedence_J1 (p0_==3) H))))
end
section
variable (p0_:(List Ao)) (p1_:Int) (r71:(List Int)) (x44:Ao) (x_14:Bool) (k_8:Int)
def Jd3:St:=⟨(0,.d (.sl (p0_.map AC)))::(1,.d (.int .i64 p1_))::[],[]⟩
def Jd4:St:=⟨[],[]⟩
def Jd5:St:=⟨(0,.d (.sl (p0_.map AC)))::(1,.d (.int .i64 p1_))::(5,.d (.sl (r71.map A1)))::(15,.d (.int .i64 x44.Op))::(16,.d (.bool x_14))::[],[]⟩
def Jd6:St:=⟨(0,.d (.sl (p0_.map AC)))::(5,.d (.sl (r71.map A1)))::(7,.d (.int .i64 k_8))::[],[]⟩
def Jd7:St:=⟨[],[]⟩
def R6:(Unit⊕Bool)->Ex->St->Prop:=xS (xX 0 1 (λ (y:Unit)=>Jd7)) (xR ty Tryz.f100 (λ (y:Bool)=>.d (.bool y)))
def KE:Int->St:=(λ (x:Int)=>Jd6 p0_ r71 x)
variable {p0_ p1_ r71 x44 x_14 k_8}
theorem JK (x:Int) (z:(Int⊕(Unit⊕Bool))) (H:Gp n p0_ r71 x=some z):WP (cxk 66 0) (Av Tryz.f100) [1,1,0,1,0,1,1,1,0,1,0,0] (As 0 (KE p0_ r71) (R6) z) (KE p0_ r71 x):=by
 revert H
 generalize x=k_8
 intro H
 refine sq (sr (ck 2 (sp (Au A1 r71) (ck 1 (en (cn H (λ H=>?_) (λ H=>?_)))))))
 ·refine sk (qz (sq (bk 2 (sr (ck 3 (bx H λ x50 h176 H=>sp (Aj A1 h176) (ck 1 (bx H λ x51 h177 H=>sp (Aj AC h177) (ck 3 (en (cn H (λ H=>?_) (λ H=>?_))))))))))))
  ·exact sr (ck 1 (en (re (qR (qr (by cases H;exact ro rfl rd))))))
  ·exact sk (qN (qz (rz (ck 3 (ae (by cases H;exact og (sg [0,5,7])))))))
 ·exact ex 1 (qx (by cases H;exact xo rfl (sg [])))
theorem UF {z} (H:OF n p0_ p1_=some z):Aq Tryz.prog 100 [.d (.sl (p0_.map AC)),.d (.int .i64 p1_)] (.d (.bool z)):=by
 refine fO 66 (Jd3 p0_ p1_) Tryz.func100 (sr (ck 1 (en (sr (ck 2 (bx H λ r71 h166 H=>ca false (JJ h166) (ck 1 (en (sj (λ (x:Unit)=>Jd4) (λ (x:Unit)=>Gn n) z ?_ (λ hFR9_sound_J1=>?_))))))))))
 ·intro _ H
  exact sr (ck 1 (en (re (by cases H;exact pr rd))))
 refine sr (ck 2 (bx H λ x44 h167 H=>sp (Aj AC h167) (ck 2 (en (bk 0 (sj (λ (x:Bool)=>Jd5 p0_ p1_ r71 x44 x) (λ (x:Bool)=>CJ n p0_ p1_ r71 x44 x) z ?_ (λ hFR9_sound_J2=>?_)))))))
 ·intro x_14 H
  refine cn H (λ H=>?_) (λ H=>?_)
  ·exact sr (ck 2 (bx H λ x45 h168 H=>sp (Aj AC h168) (ck 2 (bx H λ r72 h169 H=>ca false (EJ h169) (ck 1 (en (sr (ck 2 (bx H λ x46 h170 H=>sp (Aj A1 h170) (ck 1 (bx H λ x47 h171 H=>sp (Aj AC h171) (ck 2 (bx H λ r73 h172 H=>ca false (EJ h172) (ck 5 (bx H λ x48 h173 H=>sE (λ hg=>Aj A1 (A5 h173 hg)) (gc 1 (decide (r73>=r72)) (bx H λ x49 h174 H=>sE (λ hg=>Aj AC (A5 h174 hg)) (gc 2 (decide (r73>=r72)) (bx H λ r74 h175 H=>cG false (leZ) rfl (λ hg=>EJ (A5 h175 hg)) (Or.inl rfl) (BU (λ hh=>hh) (CY)) rfl (ck 1 (gc 1 (decide (r73>=r72)) (pA (ck 1 (en (re (qR (qr (by cases H;exact pr rd))))))))))))))))))))))))))))
  ·refine sr (ck 2 (en (cn H (λ H=>?_) (λ H=>?_))))
   ·refine sr (ck 1 (en (bk 1 (bx H λ y53 h178 H=>?_))))
    rcases y53 with y54|y55
    ·exact lX JK h178 (sg [0,5,7]) rfl λ s hE38=>qH (qN (qs (tr (hE38) (sg [])) (hFR9_sound_J1 () H)))
    ·exact lR JK h178 (sg [0,5,7]) rfl λ s hE39=>qR (qR (qr (by cases H;exact pr hE39)))
   ·exact sk (qN (qs (sg []) (hFR9_sound_J1 () H)))
 refine sr (ck 2 (en (cn H (λ H=>?_) (λ H=>?_))))
 ·exact sk (qs (sg [0,1,5,15,16]) (hFR9_sound_J2 (x44.Op==2) H))
 ·refine sr (ck 2 (en (cn H (λ H=>?_) (λ H=>?_))))
  ·exact sk (qs (sg [0,1,5,15,16]) (hFR9_sound_J2 (x44.Op==3) H))
  ·refine sr (ck 2 (en (cn H (λ H=>?_) (λ H=>?_))))
   ·exact sk (qs (sg [0,1,5,15,16]) (hFR9_sound_J2 (x44.Op==4) H))
   ·exact rz (ck 2 (ae (qs (sg [0,1,5,15,16]) (hFR9_sound_J2 (x44.Op==5) H))))
end
section
variable (p0_:(List Ao)) (i_11:Int)
def Jh6:St:=⟨(0,.d (.sl (p0_.map AC)))::[],[]⟩
def Jh7:St:=⟨(0,.d (.sl (p0_.map AC)))::(3,.d (.int .i64 i_11))::[],[]⟩
def Jh8:St:=⟨[],[]⟩
def S3:(Unit⊕Bool)->Ex->St->Prop:=xS (xX 0 0 (λ (y:Unit)=>Jh8)) (xR ty Tryz.f85 (λ (y:Bool)=>.d (.bool y)))
def Me:Int->St:=(λ (x:Int)=>Jh7 p0_ x)
variable {p0_ i_11}
theorem KF (x:Int) (z:(Int⊕(Unit⊕Bool))) (H:Hy n p0_ x=some z):WP (cxk 29 0) (Av Tryz.f85) [1,1,0,1,0,0] (As 0 (Me p0_) (S3) z) (Me p0_ x):=by
 revert H
 generalize x=i_11
 intro H
 refine sq (sr (ck 2 (sp (Au AC p0_) (ck 1 (en (cn H (λ H=>?_) (λ H=>?_)))))))
 ·refine sk (qz (sq (bk 1 (sr (ck 2 (bx H λ r76 h180 H=>ca false (UF h180) (ck 1 (en (cn H (λ H=>?_) (λ H=>?_))))))))))
  ·exact sr (ck 1 (en (re (qR (qr (by cases H;exact ro rfl rd))))))
  ·exact sk (qN (qz (rz (ck 3 (ae (by cases H;exact og (sg [0,3])))))))
 ·exact ex 0 (qx (by cases H;exact xo rfl (sg [])))
theorem Wi {z} (H:NA n p0_=some z):Aq Tryz.prog 85 [.d (.sl (p0_.map AC))] (.d (.bool z)):=by
 refine fO 29 (Jh6 p0_) Tryz.func85 (sr (ck 1 (en (sq (sr (ck 1 (sp (Au AC p0_) (ck 3 (sE (g:=(!(((p0_.length:Nat):Int)==0))) (λ hg=>Au AC p0_) (gc 1 (!(((p0_.length:Nat):Int)==0)) (pO (ck 2 (bx H λ r75 h179 H=>cG false (leZ) rfl (λ hg=>R5 (A5 h179 hg)) (Or.inl rfl) (BU (λ hh=>hh) (CY)) rfl (ck 1 (sE (g:=(!((((p0_.length:Nat):Int)==0)||(decide (((p0_.length:Nat):Int)>200))))) (λ hg=>Au AC p0_) (gc 1 (!((((p0_.length:Nat):Int)==0)||(decide (((p0_.length:Nat):Int)>200)))) (pO (en (cn H (λ H=>?_) (λ H=>?_))))))))))))))))))))
 ·exact sr (ck 1 (en (re (qr (by cases H;exact pr rd)))))
 ·refine sk (qz (sq (sr (ck 1 (en (bk 0 (bx H λ y56 h181 H=>?_)))))))
  rcases y56 with y57|y58
  ·exact lX KF h181 (sg [0,3]) rfl λ s hE40=>qH (qs (hE40) (sr (ck 1 (en (re (by cases H;exact pr rd))))))
  ·exact lR KF h181 (sg [0,3]) rfl λ s hE41=>qR (qr (by cases H;exact pr hE41))
end
section
variable (p0_:(List Ao)) (p1_:Int) (r78:(List Int)) (out_7:Int) (k_9:Int) (out_8:Int) (rec101_:((List Ao)->Int->Option Int))
def Jd8:St:=⟨(0,.d (.sl (p0_.map AC)))::(1,.d (.int .i64 p1_))::[],[]⟩
def Jd9:St:=⟨(0,.d (.sl (p0_.map AC)))::(5,.d (.int .i64 out_7))::(6,.d (.sl (r78.map A1)))::(7,.d (.int .i64 k_9))::[],[]⟩
def Jea:St:=⟨(5,.d (.int .i64 out_8))::[],[]⟩
def R7:Int->Ex->St->Prop:=xX 0 0 (λ (y:Int)=>Jea y)
def KG:(Int×Int)->St:=(λ (x:(Int×Int))=>Jd9 p0_ r78 x.1 x.2)
variable {p0_ p1_ r78 out_7 k_9 out_8 rec101_}
theorem P8 (hrec101_:∀ {p0_:(List Ao)} {p1_:Int} {z:Int},rec101_ p0_ p1_=some z->Aq Tryz.prog 101 [.d (.sl (p0_.map AC)),.d (.int .i64 p1_)] (.d (.int .i64 z))) (x:(Int×Int)) (z:((Int×Int)⊕Int)) (H:CK n rec101_ p0_ r78 x.1 x.2=some z):WP (cxk 27 0) (Av Tryz.f101) [1,1,0,1,0,0] (As 0 (KG p0_ r78) (R7) z) (KG p0_ r78 x):=by
 obtain ⟨out_7,k_9⟩:=x
 refine sq (sr (ck 2 (sp (Au A1 r78) (ck 1 (en (cn H (λ H=>?_) (λ H=>?_)))))))
 ·exact sk (qz (sq (bk 1 (rz (ck 4 (bx H λ x52 h184 H=>sp (Aj A1 h184) (ck 1 (bx H λ r79 h185 H=>ca false (hrec101_ h185) (ck 2 (ae (qN (qz (rz (ck 3 (ae (by cases H;exact og (sg [0,5,6,7])))))))))))))))))
 ·exact ex 0 (qx (by cases H;exact xo rfl (sg [5])))
theorem R8 {z} (hrec101_:∀ {p0_:(List Ao)} {p1_:Int} {z:Int},rec101_ p0_ p1_=some z->Aq Tryz.prog 101 [.d (.sl (p0_.map AC)),.d (.int .i64 p1_)] (.d (.int .i64 z))) (H:BG n rec101_ p0_ p1_=some z):Aq Tryz.prog 101 [.d (.sl (p0_.map AC)),.d (.int .i64 p1_)] (.d (.int .i64 z)):=by
 exact fO 27 (Jd8 p0_ p1_) Tryz.func101 (sr (ck 1 (en (sr (ck 2 (bx H λ r78 h183 H=>ca false (JJ h183) (ck 2 (en (sq (sr (ck 1 (en (bk 0 (bx H λ y59 h186 H=>lX (P8 hrec101_) h186 (sg [0,5,6,7]) rfl λ s hE42=>qH (qs (hE42) (sr (ck 3 (en (re (by cases H;exact pr rd))))))))))))))))))))
end
section
variable (p0_:(List Ao)) (p1_:Int)
variable {p0_ p1_}
theorem UG {z} (H:OG n p0_ p1_=some z):Aq Tryz.prog 101 [.d (.sl (p0_.map AC)),.d (.int .i64 p1_)] (.d (.int .i64 z)):=by
  have key:∀ (d:Nat) {p0_:(List Ao)} {p1_:Int} {z:Int},JZ (λ _ _=>none) (BG n) d p0_ p1_=some z->Aq Tryz.prog 101 [.d (.sl (p0_.map AC)),.d (.int .i64 p1_)] (.d (.int .i64 z)):=by
    intro d
    induction d with
    | zero=>intro _ _ _ H;cases H
    | succ d ih=>intro _ _ _ H;exact R8 (λ h=>ih h) H
  exact key n H
end
section
variable (p0_:(List Ao))
def Jh9:St:=⟨(0,.d (.sl (p0_.map AC)))::[],[]⟩
variable {p0_}
theorem UH {z} (H:TI n p0_=some z):Aq Tryz.prog 86 [.d (.sl (p0_.map AC))] (.d (.int .i64 z)):=by
 exact fO 5 (Jh9 p0_) Tryz.func86 (sr (ck 1 (en (sr (ck 1 (bx H λ r80 h187 H=>ca true (UG h187) (ck 1 (en (re (by cases H;exact pr rd))))))))))
end
section
variable (p0_:(List Ao))
def Jia:St:=⟨(0,.d (.sl (p0_.map AC)))::[],[]⟩
variable {p0_}
theorem NK {z} (H:E8 n p0_=some z):Aq Tryz.prog 66 [.d (.sl (p0_.map AC))] (.d (.bool z)):=by
 exact fO 15 (Jia p0_) Tryz.func66 (sr (ck 1 (en (sr (ck 1 (sp (Au AC p0_) (ck 3 (bx H λ r81 h188 H=>cG false (leZ) rfl (λ hg=>Wi (A5 h188 hg)) (Or.inl rfl) (BU (λ hh=>hh) (CY)) rfl (pA (ck 2 (bx H λ r82 h189 H=>cG false (leZ) rfl (λ hg=>UH (A5 h189 hg)) (Or.inl rfl) (BU (λ hh=>hh) (CY)) rfl (gc 1 ((decide (((p0_.length:Nat):Int)<=60))&&r81) (pA (ck 1 (en (re (by cases H;exact pr rd)))))))))))))))))
end
section
variable (p0_:RO) (out_9:(List Ao)) (n_1:Int) (out_10:(List Ao)) (i_12:Int) (out_11:(List Ao)) (out_12:(List Ao)) (k_10:(BF Int))
def Jib:St:=⟨(0,.agg [.d (.int .u8 p0_.Kind),.d (.int .u8 p0_.N),.d (.sl (p0_.L.map (AY eU8)))])::[],[]⟩
def Jic:St:=⟨(1,.ptr 0 0)::(3,.osl 1 2 0 (out_9.length))::(4,.d (.int .i64 n_1))::[],[some (.box (ZS p0_)),some (.arr 2 (out_9.map AC))]⟩
def Jid:St:=⟨(1,.ptr 0 0)::(3,.osl 1 2 0 (out_10.length))::(4,.d (.int .i64 n_1))::(7,.d (.int .i64 i_12))::[],[some (.box (ZS p0_)),some (.arr 2 (out_10.map AC))]⟩
def Jie:St:=⟨(1,.ptr 0 0)::(3,.osl 1 2 0 (out_11.length))::[],[some (.box (ZS p0_)),some (.arr 2 (out_11.map AC))]⟩
def Jif:St:=⟨(1,.ptr 0 0)::(3,.osl 1 2 0 (out_12.length))::(4,.d (.int .i64 n_1))::(7,.d (.int .i64 i_12))::[],[some (.box (ZS p0_)),some (.arr 2 (out_12.map AC))]⟩
def Jig:St:=⟨(1,.ptr 0 0)::(3,.osl 1 2 0 (out_10.length))::(4,.d (.int .i64 n_1))::(7,.d (.int .i64 i_12))::(8,.ptr 2 0)::[],[some (.box (ZS p0_)),some (.arr 2 (out_10.map AC)),some (.box [.d (.int .u8 k_10.a0),.d (.int .u8 k_10.a1)])]⟩
def R9:(List Ao)->Ex->St->Prop:=xX 0 1 (λ (y:(List Ao))=>Jie p0_ y)
def KH:((List Ao)×Int)->St:=(λ (x:((List Ao)×Int))=>Jid p0_ n_1 x.1 x.2)
variable {p0_ out_9 n_1 out_10 i_12 out_11 out_12 k_10}
theorem P9 (x:((List Ao)×Int)) (z:(((List Ao)×Int)⊕(List Ao))) (H:Gq n p0_ n_1 x.1 x.2=some z):WP (cxk 102 0) (Av Tryz.f61) [1,1,1,0,1,0,0] (As 0 (KH p0_ n_1) (R9 p0_) z) (KH p0_ n_1 x):=by
 obtain ⟨out_10,i_12⟩:=x
 refine sq (sr (ck 3 (en (cn H (λ H=>?_) (λ H=>?_)))))
 ·refine sk (qz (sj (λ (x:(List Ao))=>Jif p0_ n_1 i_12 x) (λ (x:(List Ao))=>Jg n i_12 x) z ?_ (λ hFR11_Made_J2=>?_)))
  ·intro out_12 H
   exact rz (ck 3 (ae (by cases H;exact og (sg [1,3,4,7]))))
  refine bk 2 (sr (ck 3 (en (sj (λ (x:(BF Int))=>Jig p0_ n_1 out_10 i_12 x) (λ (x:(BF Int))=>Ej n p0_ out_10 i_12 x) z ?_ (λ hFR11_Made_J3=>?_)))))
  ·intro k_10 H
   refine sr (ck 4 (en (cn H (λ H=>?_) (λ H=>?_))))
   ·exact rz (ck 10 (bx H λ l15 h190 H=>sp (A6 AC 1 2 h190) (ck 1 (ae (qN (qs (sg [1,3,4,7]) (hFR11_Made_J2 l15 H)))))))
   ·exact rz (ck 5 (bx H λ r83 h191 H=>ca false (H8 h191) (bx H λ l16 h192 H=>sp (XI AC 1 2 h192) (ck 1 (ae (qN (qs (sg [1,3,4,7]) (hFR11_Made_J2 l16 H))))))))
  refine sr (ck 3 (sp (Au (AY eU8) p0_.L) (ck 1 (en (cn H (λ H=>?_) (λ H=>?_))))))
  ·exact rz (ck 3 (bx H λ x53 h193 H=>sp (Aj (AY eU8) h193) (ck 2 (ae (qs (sg [1,3,4,7,8]) (hFR11_Made_J3 x53 H))))))
  ·exact sk (qs (sg [1,3,4,7,8]) (hFR11_Made_J3 ({ a0:=0,a1:=0 }:(BF Int)) H))
 ·exact ex 1 (qx (by cases H;exact xo rfl (sg [1,3])))
theorem UI {z} (H:Lp n p0_=some z):Aq Tryz.prog 61 [.agg (ZS p0_)] (.own 2 (z.map AC)):=by
 refine fO 102 (Jib p0_) Tryz.func61 (sr (ck 2 (en (sr (ck 4 (en (sj (λ (x:((List Ao)×Int))=>Jic p0_ x.1 x.2) (λ (x:((List Ao)×Int))=>Dm n p0_ x.1 x.2) z ?_ (λ hFR11_Made_J1=>?_))))))))
 ·rintro ⟨out_9,n_1⟩ H
  refine sq (sr (ck 1 (en (bk 1 (bx H λ y60 h194 H=>lX P9 h194 (sg [1,3,4,7]) rfl λ s hE43=>qH (qs (hE43) (sr (ck 1 (bx H λ r84 h195 H=>cb (ks:=[1]) (obl:=[(0+List.length y60,List.length (y60.map AC))]) false (leK leM (leZ)) (Cy F4 rfl) (NK h195) (Or.inr trivial) rfl (ck 1 (en (sq (sr (ck 2 (en (cn H (λ H=>?_) (λ H=>?_)))))))))))))))))
  ·exact sr (ck 2 (bx H λ r85 h196 H=>cl [List.length r85] (H8 h196) (ck 1 (en (re (qr (by cases H;exact pr (rO (v:=.osl 2 2 0 (z.length)) [2] (ao vo)))))))))
  ·exact sk (qz (sr (ck 2 (en (re (by cases H;exact pr (rO (v:=.osl 1 2 0 (z.length)) [1] (ao vo))))))))
 refine sr (ck 3 (en (bk 0 (sr (ck 2 (en (cn H (λ H=>?_) (λ H=>?_))))))))
 ·exact sr (ck 6 (en (rz (ck 5 (ae (qN (qs (sg [1,3,4]) (hFR11_Made_J1 ([({ Op:=12,N:=AW .i64 (Ak .i64 3 (IntKind.i64.wrap (Am p0_.N 4))) 1 }:Ao)],(Ak .i64 3 (IntKind.i64.wrap (Am p0_.N 4)))) H))))))))
 ·refine sr (ck 2 (en (cn H (λ H=>?_) (λ H=>?_))))
  ·exact sr (ck 13 (en (sr (ck 4 (en (rz (ck 7 (ae (qN (qs (sg [1,3,4]) (hFR11_Made_J1 ([({ Op:=13,N:=Ak .i64 (BX .i64 8 (Ak .i64 1 (IntKind.i64.wrap (Am p0_.N 4)))) (Ak .i64 1 (IntKind.i64.wrap (Am (Ds .u8 p0_.N 4) 4))) }:Ao)],(BX .i64 (Ak .i64 1 (IntKind.i64.wrap (Am p0_.N 4))) (Ak .i64 1 (IntKind.i64.wrap (Am (Ds .u8 p0_.N 4) 4))))) H)))))))))))
  ·refine sr (ck 2 (en (cn H (λ H=>?_) (λ H=>?_))))
   ·exact sr (ck 5 (bx H λ r86 h197 H=>cl [List.length r86] (H8 h197) (ck 1 (en (re (qR (qr (by cases H;exact pr (rO (v:=.osl 2 2 0 (z.length)) [2] (ao vo))))))))))
   ·exact sk (qN (qs (sg [1,3,4]) (hFR11_Made_J1 ([({ Op:=6,N:=0 }:Ao)],2) H)))
end
section
variable (p0_:(Wf Int)) (p1_:Int) (p2_:Int) (out_13:(List Aa)) (out_14:(List Aa))
def Jih:St:=⟨(0,.agg [.d (.int .u8 p0_.a0),.d (.int .u8 p0_.a1),.d (.int .u8 p0_.a2),.d (.int .u8 p0_.a3),.d (.int .u8 p0_.a4),.d (.int .u8 p0_.a5)])::(1,.d (.int .i64 p1_))::(2,.d (.int .i64 p2_))::[],[]⟩
def Jii:St:=⟨(6,.ptr 0 0)::(15,.d (.int .i64 (Ak .i64 1 (IntKind.i64.wrap (Am p0_.a0 3)))))::(17,.osl 1 2 0 (out_13.length))::[],[some (.box [.d (.int .i64 0),.d (.int .i64 0),.osl 2 2 0 (List.length ([]:List Aa))]),some (.arr 2 (out_13.map Ac)),some (.arr 2 (List.map Ac ([]:List Aa)))]⟩
def Jij:St:=⟨(6,.ptr 0 0)::(15,.d (.int .i64 (Ak .i64 1 (IntKind.i64.wrap (Am p0_.a0 3)))))::(16,.d (.int .i64 (IntKind.i64.wrap (Am (Ds .u8 p0_.a0 3) 4))))::(18,.osl 1 2 0 (out_14.length))::[],[some (.box [.d (.int .i64 0),.d (.int .i64 0),.osl 2 2 0 (List.length ([]:List Aa))]),some (.arr 2 (out_14.map Ac)),some (.arr 2 (List.map Ac ([]:List Aa)))]⟩
variable {p0_ p1_ p2_ out_13 out_14}
theorem Qa {z} (H:Gr n p0_ p1_ p2_=some z):Aq Tryz.prog 82 [.agg [.d (.int .u8 p0_.a0),.d (.int .u8 p0_.a1),.d (.int .u8 p0_.a2),.d (.int .u8 p0_.a3),.d (.int .u8 p0_.a4),.d (.int .u8 p0_.a5)],.d (.int .i64 p1_),.d (.int .i64 p2_)] (.agg [.d (.int .i64 z.Kind),.d (.int .i64 z.Texture),.own 2 (z.P.map Ac)]):=by
 refine fO 111 (Jih p0_ p1_ p2_) Tryz.func82 (sr (ck 2 (en (sr (ck 4 (bx H λ gd2 h198 H=>so (Ef h198) (ck 4 (bx H λ gd3 h199 H=>so (Ef h199) (ck 14 (en (sr (ck 14 (en (sr (ck 10 (en (sr (ck 12 (en (sq (sr (ck 2 (en (cn H (λ H=>?_) (λ H=>?_)))))))))))))))))))))))))
 ·exact sr (ck 5 (en (re (qr (by cases H;exact pr (rO (v:=.agg [.d (.int .i64 (Ak .i64 1 (IntKind.i64.wrap (Am p0_.a0 3)))),.d (.int .i64 0),.osl 4 2 0 (List.length [({ X:=Am (IntKind.i64.wrap p0_.a1) p1_,Y:=Am (IntKind.i64.wrap p0_.a2) p2_ }:Aa)])]) [4] (a1 (c1 vd (c1 vd (c1 vo (c0)))))))))))
 ·refine sk (qz (sq (sr (ck 2 (en (cn H (λ H=>?_) (λ H=>?_)))))))
  ·refine sr (ck 4 (en (sj (λ (x:(List Aa))=>Jii p0_ x) (λ (x:(List Aa))=>DE n p0_ x) z ?_ (λ hFR14_feature_J1=>?_))))
   ·intro out_13 H
    exact sr (ck 4 (en (re (qr (by cases H;exact pr (rO (v:=.agg [.d (.int .i64 (Ak .i64 1 (IntKind.i64.wrap (Am p0_.a0 3)))),.d (.int .i64 0),.osl 1 2 0 (out_13.length)]) [1] (a1 (c1 vd (c1 vd (c1 vo (c0)))))))))))
   refine sr (ck 4 (en (cn H (λ H=>?_) (λ H=>?_))))
   ·exact rz (ck 5 (bx H λ l17 h200 H=>sp (A6 Ac 4 2 h200) (ck 1 (ae (qs (tr (Bj 1 2 2 (by kernel_rfl)) (sg [6,15,17])) (hFR14_feature_J1 l17 H))))))
   ·exact sk (qs (tr (Bj 1 2 2 (by kernel_rfl)) (sg [6,15,17])) (hFR14_feature_J1 [({ X:=Am (IntKind.i64.wrap p0_.a1) p1_,Y:=Am (IntKind.i64.wrap p0_.a2) p2_ }:Aa),({ X:=(if AW .i64 p1_ 1<Ak .i64 (Am (IntKind.i64.wrap p0_.a1) p1_) (Ak .i64 1 (Am (IntKind.i64.wrap p0_.a3) 8)) then AW .i64 p1_ 1 else Ak .i64 (Am (IntKind.i64.wrap p0_.a1) p1_) (Ak .i64 1 (Am (IntKind.i64.wrap p0_.a3) 8))),Y:=(if AW .i64 p2_ 1<Ak .i64 (Am (IntKind.i64.wrap p0_.a2) p2_) (Ak .i64 1 (Am (IntKind.i64.wrap p0_.a4) 8)) then AW .i64 p2_ 1 else Ak .i64 (Am (IntKind.i64.wrap p0_.a2) p2_) (Ak .i64 1 (Am (IntKind.i64.wrap p0_.a4) 8))) }:Aa)] H))
  ·refine sk (qz (sr (ck 7 (en (sj (λ (x:(List Aa))=>Jij p0_ x) (λ (x:(List Aa))=>DF n p0_ x) z ?_ (λ hFR14_feature_J2=>?_))))))
   ·intro out_14 H
    exact sr (ck 5 (en (re (by cases H;exact pr (rO (v:=.agg [.d (.int .i64 (Ak .i64 1 (IntKind.i64.wrap (Am p0_.a0 3)))),.d (.int .i64 (IntKind.i64.wrap (Am (Ds .u8 p0_.a0 3) 4))),.osl 1 2 0 (out_14.length)]) [1] (a1 (c1 vd (c1 vd (c1 vo (c0))))))))))
   refine sr (ck 4 (en (cn H (λ H=>?_) (λ H=>?_))))
   ·exact rz (ck 5 (bx H λ l18 h201 H=>sp (A6 Ac 4 2 h201) (ck 1 (ae (qs (tr (Bj 1 2 2 (by kernel_rfl)) (sg [6,15,16,18])) (hFR14_feature_J2 l18 H))))))
   ·exact sk (qs (tr (Bj 1 2 2 (by kernel_rfl)) (sg [6,15,16,18])) (hFR14_feature_J2 [({ X:=Am (IntKind.i64.wrap p0_.a1) p1_,Y:=Am (IntKind.i64.wrap p0_.a2) p2_ }:Aa),({ X:=(if AW .i64 p1_ 1<Ak .i64 (Am (IntKind.i64.wrap p0_.a1) p1_) (Ak .i64 1 (Am (IntKind.i64.wrap p0_.a3) 8)) then AW .i64 p1_ 1 else Ak .i64 (Am (IntKind.i64.wrap p0_.a1) p1_) (Ak .i64 1 (Am (IntKind.i64.wrap p0_.a3) 8))),Y:=Am (IntKind.i64.wrap p0_.a2) p2_ }:Aa),({ X:=(if AW .i64 p1_ 1<Ak .i64 (Am (IntKind.i64.wrap p0_.a1) p1_) (Ak .i64 1 (Am (IntKind.i64.wrap p0_.a3) 8)) then AW .i64 p1_ 1 else Ak .i64 (Am (IntKind.i64.wrap p0_.a1) p1_) (Ak .i64 1 (Am (IntKind.i64.wrap p0_.a3) 8))),Y:=(if AW .i64 p2_ 1<Ak .i64 (Am (IntKind.i64.wrap p0_.a2) p2_) (Ak .i64 1 (Am (IntKind.i64.wrap p0_.a4) 8)) then AW .i64 p2_ 1 else Ak .i64 (Am (IntKind.i64.wrap p0_.a2) p2_) (Ak .i64 1 (Am (IntKind.i64.wrap p0_.a4) 8))) }:Aa)] H))
end
section
variable (p0_:Bs) (p_1:Ag) (i_13:Int) (p_2:Ag) (p_3:Ag)
def Jik:St:=⟨(0,.agg [.d (.int .u8 p0_.W),.d (.int .u8 p0_.H),.d (.int .u8 p0_.Gap),.d (.sl (p0_.F.map (JC eU8)))])::[],[]⟩
def Jil:St:=⟨(1,.ptr 0 0)::(2,.ptr 1 0)::(3,.ptr 2 0)::(4,.d (.int .i64 i_13))::[],[some (.box (JD p0_)),some (.box [.d (.int .i64 0),.d (.int .i64 0),.d (.int .i64 0),.osl 3 3 0 (List.length ([]:List Ax))]),some (.box (MG p_1 (.osl 4 3 0 (p_1.F.length)))),some (.arr 3 (List.map Aw ([]:List Ax))),some (.arr 3 (p_1.F.map Aw))]⟩
def Jim:St:=⟨(2,.ptr 0 0)::(3,.ptr 1 0)::[],[some (.box [.d (.int .i64 0),.d (.int .i64 0),.d (.int .i64 0),.osl 2 3 0 (List.length ([]:List Ax))]),some (.box (MG p_2 (.osl 3 3 0 (p_2.F.length)))),some (.arr 3 (List.map Aw ([]:List Ax))),some (.arr 3 (p_2.F.map Aw))]⟩
def Sa:Ag->Ex->St->Prop:=xX 0 0 (λ (y:Ag)=>Jim y)
def KI:(Ag×Int)->St:=(λ (x:(Ag×Int))=>Jil p0_ x.1 x.2)
def Jin:St:=⟨(2,.ptr 0 0)::(3,.ptr 1 0)::[],[some (.box [.d (.int .i64 0),.d (.int .i64 0),.d (.int .i64 0),.osl 2 3 0 (List.length ([]:List Ax))]),some (.box (MG p_3 (.osl 3 3 0 (p_3.F.length)))),some (.arr 3 (List.map Aw ([]:List Ax))),some (.arr 3 (p_3.F.map Aw))]⟩
variable {p0_ p_1 i_13 p_2 p_3}
theorem Qb (x:(Ag×Int)) (z:((Ag×Int)⊕Ag)) (H:Gs n p0_ x.1 x.2=some z):WP (cxk 59 0) (Av Tryz.f62) [1,1,0,1,0,0] (As 0 (KI p0_) (Sa) z) (KI p0_ x):=by
 obtain ⟨p_1,i_13⟩:=x
 refine sq (sr (ck 3 (sp (Au (JC eU8) p0_.F) (ck 3 (gc 1 (decide (i_13<((p0_.F.length:Nat):Int))) (pA (en (cn H (λ H=>?_) (λ H=>?_)))))))))
 ·exact sk (qz (sq (bk 1 (rz (ck 5 (bx H λ x54 h202 H=>sp (Aj (JC eU8) h202) (ck 5 (bx H λ r87 h203 H=>ca false (Qa h203) (ck 1 (bx H λ l19 h204 H=>sp (A6 Aw 4 3 h204) (ck 2 (ae (qN (qz (rz (ck 3 (ae (by cases H;exact og (sg [1,2,3,4])))))))))))))))))))
 ·exact ex 0 (qx (by cases H;exact xo rfl (sg [2,3])))
theorem UJ {z} (H:Lq n p0_=some z):Aq Tryz.prog 62 [.agg (JD p0_)] (.agg [.d (.int .i64 z.W),.d (.int .i64 z.H),.d (.int .i64 z.Gap),.own 3 (z.F.map Aw)]):=by
 refine fO 59 (Jik p0_) Tryz.func62 (sr (ck 2 (en (sr (ck 20 (en (sq (sr (ck 1 (en (bk 0 (bx H λ y61 h205 H=>lX Qb h205 (tr (tr (Bj 1 3 3 (by kernel_rfl)) (Bj 2 3 3 (by kernel_rfl))) (sg [1,2,3,4])) rfl λ s hE44=>qH (qs (hE44) (sj (λ (x:Ag)=>Jin x) (λ (x:Ag)=>Jh n x) z ?_ (λ hFR14_Made_J1=>?_)))))))))))))))
 ·intro p_3 H
  exact sr (ck 2 (en (re (by cases H;exact pr (rO (v:=.agg [.d (.int .i64 z.W),.d (.int .i64 z.H),.d (.int .i64 z.Gap),.osl 3 3 0 (z.F.length)]) [3] (a1 (c1 vd (c1 vd (c1 vd (c1 vo (c0)))))))))))
 refine sr (ck 4 (en (cn H (λ H=>?_) (λ H=>?_))))
 ·exact rz (ck 1 (sF (ck 4 (ae (qs (sg [2,3]) (hFR14_Made_J1 ({ W:=y61.W,H:=y61.H,Gap:=y61.Gap,F:=[({ Kind:=1,Texture:=0,P:=[({ X:=1,Y:=1 }:Aa)] }:Ax)] }:Ag) H))))))
 ·exact sk (qs (sg [2,3]) (hFR14_Made_J1 y61 H))
end
section
variable (p0_:Ax) (i_14:Int)
def Jeb:St:=⟨(0,.agg [.d (.int .i64 p0_.Kind),.d (.int .i64 p0_.Texture),.d (.sl (p0_.P.map Ac))])::[],[]⟩
def Jec:St:=⟨(1,.ptr 0 0)::(3,.d (.int .i64 ((p0_.P.length:Nat):Int)))::(4,.d (.int .i64 i_14))::[],[some (.box (DA p0_))]⟩
def Jed:St:=⟨(1,.ptr 0 0)::(3,.d (.int .i64 ((p0_.P.length:Nat):Int)))::[],[some (.box (DA p0_))]⟩
def Qc:(Unit⊕Bool)->Ex->St->Prop:=xS (xX 0 0 (λ (y:Unit)=>Jed p0_)) (xR ty Tryz.f103 (λ (y:Bool)=>.d (.bool y)))
def JL:Int->St:=(λ (x:Int)=>Jec p0_ x)
variable {p0_ i_14}
theorem Iz (x:Int) (z:(Int⊕(Unit⊕Bool))) (H:Fj n p0_ x=some z):WP (cxk 73 0) (Av Tryz.f103) [1,1,0,1,0,0] (As 0 (JL p0_) (Qc p0_) z) (JL p0_ x):=by
 revert H
 generalize x=i_14
 intro H
 refine sq (sr (ck 3 (en (cn H (λ H=>?_) (λ H=>?_)))))
 ·refine sk (qz (sq (bk 1 (sr (ck 3 (bx H λ x55 h206 H=>sp (Aj Ac h206) (ck 3 (en (sr (ck 5 (gc 2 (!(decide (x55.X<0))) (pO (ck 2 (gc 2 (!((decide (x55.X<0))||(decide (x55.Y<0)))) (pO (ck 2 (gc 2 (!(((decide (x55.X<0))||(decide (x55.Y<0)))||(decide (x55.X>=60)))) (pO (en (cn H (λ H=>?_) (λ H=>?_)))))))))))))))))))))
  ·exact sr (ck 1 (en (re (qR (qr (by cases H;exact ro rfl rd))))))
  ·exact sk (qN (qz (rz (ck 3 (ae (by cases H;exact og (sg [1,3,4])))))))
 ·exact ex 0 (qx (by cases H;exact xo rfl (sg [1,3])))
theorem S4 {z} (H:MA n p0_=some z):Aq Tryz.prog 103 [.agg (DA p0_)] (.d (.bool z)):=by
 refine fO 73 (Jeb p0_) Tryz.func103 (sr (ck 2 (en (sr (ck 2 (sp (Au Ac p0_.P) (ck 1 (en (sq (sr (ck 1 (en (bk 0 (bx H λ y62 h207 H=>?_))))))))))))))
 rcases y62 with y63|y64
 ·refine lX Iz h207 (sg [1,3,4]) rfl λ s hE45=>qH (qs (hE45) (sq (sr (ck 2 (en (cn H (λ H=>?_) (λ H=>?_)))))))
  ·exact sr (ck 1 (en (re (qr (by cases H;exact pr rd)))))
  ·refine sk (qz (sq (sr (ck 2 (en (bk 2 (sr (ck 2 (en (cn H (λ H=>?_) (λ H=>?_)))))))))))
   ·exact sr (ck 4 (gc 2 (((p0_.P.length:Nat):Int)==1) (pA (ck 1 (en (re (qR (qr (by cases H;exact pr rd)))))))))
   ·refine sr (ck 2 (en (cn H (λ H=>?_) (λ H=>?_))))
    ·exact sr (ck 4 (gc 2 (decide (((p0_.P.length:Nat):Int)>=2)) (pA (ck 1 (en (re (qR (qr (by cases H;exact pr rd)))))))))
    ·refine sr (ck 2 (en (cn H (λ H=>?_) (λ H=>?_))))
     ·exact sr (ck 4 (gc 2 (decide (((p0_.P.length:Nat):Int)>=3)) (pA (ck 2 (gc 2 ((decide (((p0_.P.length:Nat):Int)>=3))&&(decide (p0_.Texture>=0))) (pA (ck 1 (en (re (qR (qr (by cases H;exact pr rd))))))))))))
     ·exact sk (qN (qz (sr (ck 1 (en (re (by cases H;exact pr rd)))))))
 ·exact lR Iz h207 (sg [1,3,4]) rfl λ s hE46=>qR (qr (by cases H;exact pr hE46))
end
section
variable (p0_:(List Aa)) (p1_:Int)
def Jee:St:=⟨(0,.d (.sl (p0_.map Ac)))::(1,.d (.int .i64 p1_))::[],[]⟩
variable {p0_ p1_}
theorem NL {z} (H:Ir n p0_ p1_=some z):Aq Tryz.prog 121 [.d (.sl (p0_.map Ac)),.d (.int .i64 p1_)] (.tup [.agg [.d (.int .i64 z.1.X),.d (.int .i64 z.1.Y)],.agg [.d (.int .i64 z.2.X),.d (.int .i64 z.2.Y)]]):=by
 exact fO 18 (Jee p0_ p1_) Tryz.func121 (sr (ck 2 (en (sr (ck 2 (bx H λ x56 h208 H=>sp (Aj Ac h208) (ck 5 (sp (Au Ac p0_) (bx H λ gd4 h209 H=>so (Ef h209) (bx H λ x57 h210 H=>sp (Aj Ac h210) (ck 3 (en (re (by cases H;exact pr rdT))))))))))))))
end
section
variable (p0_:Int)
def Jef:St:=⟨(0,.d (.int .i64 p0_))::[],[]⟩
variable {p0_}
theorem PW {z} (H:Is n p0_=some z):Aq Tryz.prog 125 [.d (.int .i64 p0_)] (.d (.int .i64 z)):=by
 exact fO 7 (Jef p0_) Tryz.func125 (sr (ck 1 (en (sr (ck 5 (en (re (by cases H;exact pr rd))))))))
end
section
variable (p0_:Aa) (p1_:Aa)
def Jeg:St:=⟨(0,.agg [.d (.int .i64 p0_.X),.d (.int .i64 p0_.Y)])::(1,.agg [.d (.int .i64 p1_.X),.d (.int .i64 p1_.Y)])::[],[]⟩
variable {p0_ p1_}
theorem PX {z} (H:GV n p0_ p1_=some z):Aq Tryz.prog 118 [.agg [.d (.int .i64 p0_.X),.d (.int .i64 p0_.Y)],.agg [.d (.int .i64 p1_.X),.d (.int .i64 p1_.Y)]] (.d (.int .i64 z)):=by
 exact fO 18 (Jeg p0_ p1_) Tryz.func118 (sr (ck 3 (en (sr (ck 5 (bx H λ r88 h211 H=>ca false (PW h211) (ck 5 (bx H λ r89 h212 H=>ca false (PW h212) (ck 2 (en (re (by cases H;exact pr rd))))))))))))
end
section
variable (p0_:Int) (p1_:Int) (q_1:Int)
def Jeh:St:=⟨(0,.d (.int .i64 p0_))::(1,.d (.int .i64 p1_))::[],[]⟩
def Jei:St:=⟨(5,.d (.int .i64 q_1))::[],[]⟩
variable {p0_ p1_ q_1}
theorem Mf {z} (H:GW n p0_ p1_=some z):Aq Tryz.prog 126 [.d (.int .i64 p0_),.d (.int .i64 p1_)] (.d (.int .i64 z)):=by
 refine fO 16 (Jeh p0_ p1_) Tryz.func126 (sr (ck 1 (en (sr (ck 2 (bx H λ gd5 h213 H=>so (Ef h213) (ck 1 (en (sj (λ (x:Int)=>Jei x) (λ (x:Int)=>Fk n x) z ?_ (λ hFR12_floor_J1=>?_))))))))))
 ·intro q_1 H
  exact sr (ck 2 (en (re (by cases H;exact pr rd))))
 refine sr (ck 2 (bx H λ gd6 h214 H=>so (Ef h214) (ck 1 (en (cn H (λ H=>?_) (λ H=>?_))))))
 ·exact rz (ck 3 (ae (qs (sg [5]) (hFR12_floor_J1 (AW .i64 (Ds .i64 p0_ p1_) 1) H))))
 ·exact sk (qs (sg [5]) (hFR12_floor_J1 (Ds .i64 p0_ p1_) H))
end
section
variable (p0_:Aa) (p1_:Aa) (r90:Int) (out_15:(List Aa)) (k_11:Int) (out_16:(List Aa))
def Jej:St:=⟨(0,.agg [.d (.int .i64 p0_.X),.d (.int .i64 p0_.Y)])::(1,.agg [.d (.int .i64 p1_.X),.d (.int .i64 p1_.Y)])::[],[]⟩
def Jek:St:=⟨(2,.ptr 0 0)::(3,.ptr 1 0)::(5,.d (.int .i64 r90))::(6,.osl 2 2 0 (out_15.length))::(7,.d (.int .i64 k_11))::[],[some (.box [.d (.int .i64 p0_.X),.d (.int .i64 p0_.Y)]),some (.box [.d (.int .i64 p1_.X),.d (.int .i64 p1_.Y)]),some (.arr 2 (out_15.map Ac))]⟩
def Jel:St:=⟨(6,.osl 0 2 0 (out_16.length))::[],[some (.arr 2 (out_16.map Ac))]⟩
def Sb:(List Aa)->Ex->St->Prop:=xX 0 0 (λ (y:(List Aa))=>Jel y)
def KJ:((List Aa)×Int)->St:=(λ (x:((List Aa)×Int))=>Jek p0_ p1_ r90 x.1 x.2)
variable {p0_ p1_ r90 out_15 k_11 out_16}
theorem Qd (x:((List Aa)×Int)) (z:(((List Aa)×Int)⊕(List Aa))) (H:Gt n p0_ p1_ r90 x.1 x.2=some z):WP (cxk 66 0) (Av Tryz.f122) [1,1,1,0,1,0,0] (As 0 (KJ p0_ p1_ r90) (Sb) z) (KJ p0_ p1_ r90 x):=by
 obtain ⟨out_15,k_11⟩:=x
 refine sq (sr (ck 3 (en (cn H (λ H=>?_) (λ H=>?_)))))
 ·exact sk (qz (sq (bk 1 (sr (ck 17 (bx H λ r91 h216 H=>ca false (Mf h216) (ck 1 (en (sr (ck 17 (bx H λ r92 h217 H=>ca false (Mf h217) (ck 1 (en (rz (ck 5 (bx H λ l20 h218 H=>sp (A6 Ac 2 2 h218) (ck 1 (ae (qN (qz (rz (ck 3 (ae (by cases H;exact og (sg [2,3,5,6,7])))))))))))))))))))))))))
 ·exact ex 0 (qx (by cases H;exact xo rfl (sg [6])))
theorem UK {z} (H:OH n p0_ p1_=some z):Aq Tryz.prog 122 [.agg [.d (.int .i64 p0_.X),.d (.int .i64 p0_.Y)],.agg [.d (.int .i64 p1_.X),.d (.int .i64 p1_.Y)]] (.own 2 (z.map Ac)):=by
 refine fO 66 (Jej p0_ p1_) Tryz.func122 (sr (ck 3 (en (sr (ck 2 (bx H λ r90 h215 H=>ca false (PX h215) (ck 3 (en (sq (sr (ck 2 (en (cn H (λ H=>?_) (λ H=>?_))))))))))))))
 ·exact sr (ck 3 (en (re (qr (by cases H;exact pr (rO (v:=.osl 3 2 0 (List.length [p0_])) [3] (ao vo)))))))
 ·exact sk (qz (sq (sr (ck 1 (en (bk 0 (bx H λ y65 h219 H=>lX Qd h219 (sg [2,3,5,6,7]) rfl λ s hE47=>qH (qs (hE47) (sr (ck 2 (en (re (by cases H;exact pr (rO (v:=.osl 0 2 0 (z.length)) [0] (ao vo)))))))))))))))
end
section
variable (p0_:(List Aa)) (p1_:Int) (out_17:(List Aa)) (i_15:Int) (out_18:(List Aa))
def Jem:St:=⟨(0,.d (.sl (p0_.map Ac)))::(1,.d (.int .i64 p1_))::[],[]⟩
def Jen:St:=⟨(0,.d (.sl (p0_.map Ac)))::(1,.d (.int .i64 p1_))::(5,.osl 0 2 0 (out_17.length))::(6,.d (.int .i64 i_15))::[],[some (.arr 2 (out_17.map Ac))]⟩
def Jeo:St:=⟨(5,.osl 0 2 0 (out_18.length))::[],[some (.arr 2 (out_18.map Ac))]⟩
def Qe:(List Aa)->Ex->St->Prop:=xX 0 0 (λ (y:(List Aa))=>Jeo y)
def JM:((List Aa)×Int)->St:=(λ (x:((List Aa)×Int))=>Jen p0_ p1_ x.1 x.2)
variable {p0_ p1_ out_17 i_15 out_18}
theorem OW (x:((List Aa)×Int)) (z:(((List Aa)×Int)⊕(List Aa))) (H:Fl n p0_ p1_ x.1 x.2=some z):WP (cxk 27 0) (Av Tryz.f115) [1,1,0,1,0,0] (As 0 (JM p0_ p1_) (Qe) z) (JM p0_ p1_ x):=by
 obtain ⟨out_17,i_15⟩:=x
 refine sq (sr (ck 3 (en (cn H (λ H=>?_) (λ H=>?_)))))
 ·exact sk (qz (sq (bk 1 (sr (ck 2 (bx H λ r93 h220 H=>ca false (NL h220) (ck 7 (en (rz (ck 3 (bx H λ r94 h221 H=>ca false (UK h221) (bx H λ l21 h222 H=>sp (XI Ac 0 2 h222) (ck 1 (ae (qN (qz (rz (ck 3 (ae (by cases H;exact og (sg [0,1,5,6])))))))))))))))))))))
 ·exact ex 0 (qx (by cases H;exact xo rfl (sg [5])))
theorem Mg {z} (H:Ji n p0_ p1_=some z):Aq Tryz.prog 115 [.d (.sl (p0_.map Ac)),.d (.int .i64 p1_)] (.own 2 (z.map Ac)):=by
 exact fO 27 (Jem p0_ p1_) Tryz.func115 (sr (ck 1 (en (sr (ck 2 (en (sq (sr (ck 1 (en (bk 0 (bx H λ y66 h223 H=>lX OW h223 (sg [0,1,5,6]) rfl λ s hE48=>qH (qs (hE48) (sr (ck 2 (en (re (by cases H;exact pr (rO (v:=.osl 0 2 0 (z.length)) [0] (ao vo))))))))))))))))))))
end
section
variable (p0_:(List Aa)) (there_1:(List (List Bool))) (i_16:Int) (there_2:(List (List Bool))) (there_3:(List (List Bool))) (y67:(List (List Bool))) (out_19:(List Aa)) (y_1:Int) (out_20:(List Aa)) (out_21:(List Aa)) (x_15:Int) (out_22:(List Aa)) (out_23:(List Aa))
def Jep:St:=⟨(0,.d (.sl (p0_.map Ac)))::[],[]⟩
def Jeq:St:=⟨(0,.d (.sl (p0_.map Ac)))::(3,.eptr 0 60 0 0)::(4,.d (.int .i64 i_16))::[],[some (.arr 60 (List.map (List.map D.bool) there_1))]⟩
def Jer:St:=⟨(3,.eptr 0 60 0 0)::[],[some (.arr 60 (List.map (List.map D.bool) there_2))]⟩
def Jes:St:=⟨(0,.d (.sl (p0_.map Ac)))::(3,.eptr 0 60 0 0)::(4,.d (.int .i64 i_16))::[],[some (.arr 60 (List.map (List.map D.bool) there_3))]⟩
def OX:(List (List Bool))->Ex->St->Prop:=xX 0 0 (λ (y:(List (List Bool)))=>Jer y)
def IA:((List (List Bool))×Int)->St:=(λ (x:((List (List Bool))×Int))=>Jeq p0_ x.1 x.2)
def Jet:St:=⟨(3,.eptr 0 60 0 0)::(6,.osl 1 2 0 (out_19.length))::(7,.d (.int .i64 y_1))::[],[some (.arr 60 (List.map (List.map D.bool) y67)),some (.arr 2 (out_19.map Ac))]⟩
def Jeu:St:=⟨(6,.osl 0 2 0 (out_20.length))::[],[some (.arr 2 (out_20.map Ac))]⟩
def Jev:St:=⟨(3,.eptr 0 60 0 0)::(6,.osl 1 2 0 (out_21.length))::(7,.d (.int .i64 y_1))::(8,.d (.int .i64 x_15))::[],[some (.arr 60 (List.map (List.map D.bool) y67)),some (.arr 2 (out_21.map Ac))]⟩
def Jew:St:=⟨(3,.eptr 0 60 0 0)::(6,.osl 1 2 0 (out_22.length))::(7,.d (.int .i64 y_1))::[],[some (.arr 60 (List.map (List.map D.bool) y67)),some (.arr 2 (out_22.map Ac))]⟩
def Jex:St:=⟨(3,.eptr 0 60 0 0)::(6,.osl 1 2 0 (out_23.length))::(7,.d (.int .i64 y_1))::(8,.d (.int .i64 x_15))::[],[some (.arr 60 (List.map (List.map D.bool) y67)),some (.arr 2 (out_23.map Ac))]⟩
def OY:(List Aa)->Ex->St->Prop:=xX 0 4 (λ (y:(List Aa))=>Jew y67 y_1 y)
def IB:((List Aa)×Int)->St:=(λ (x:((List Aa)×Int))=>Jev y67 y_1 x.1 x.2)
def OZ:(List Aa)->Ex->St->Prop:=xX 0 2 (λ (y:(List Aa))=>Jeu y)
def IC:((List Aa)×Int)->St:=(λ (x:((List Aa)×Int))=>Jet y67 x.1 x.2)
variable {p0_ there_1 i_16 there_2 there_3 y67 out_19 y_1 out_20 out_21 x_15 out_22 out_23}
theorem NM (x:((List (List Bool))×Int)) (z:(((List (List Bool))×Int)⊕(List (List Bool)))) (H:El n p0_ x.1 x.2=some z):WP (cxk 65 0) (Av Tryz.f114) [1,1,0,1,0,0] (As 0 (IA p0_) (OX) z) (IA p0_ x):=by
 obtain ⟨there_1,i_16⟩:=x
 refine sq (sr (ck 2 (sp (Au Ac p0_) (ck 1 (en (cn H (λ H=>?_) (λ H=>?_)))))))
 ·refine sk (qz (sj (λ (x:(List (List Bool)))=>Jes p0_ i_16 x) (λ (x:(List (List Bool)))=>Ek n i_16 x) z ?_ (λ hFR13_sorted_J1=>?_)))
  ·intro there_3 H
   exact rz (ck 3 (ae (by cases H;exact og (sg [0,3,4]))))
  refine bk 1 (sr (ck 2 (bx H λ x58 h224 H=>sp (Aj Ac h224) (ck 3 (en (sr (ck 5 (gc 2 (decide (x58.X>=0)) (pA (ck 2 (gc 2 ((decide (x58.X>=0))&&(decide (x58.Y>=0))) (pA (ck 2 (gc 2 (((decide (x58.X>=0))&&(decide (x58.Y>=0)))&&(decide (x58.X<60))) (pA (en (cn H (λ H=>?_) (λ H=>?_))))))))))))))))))
  ·exact rz (ck 4 (bx H λ gd7 h225 H=>sp (Yu 0 60 0 60 (j:=0) h225) (bx H λ gd8 h226 H=>sp (Yx 0 60 60 1 (0+Int.toNat x58.Y) 0 h226) (bx H λ l22 h227 H=>JlV D.bool 0 60 (ty 4) h227 (of_decide_eq_true (Lk h226)).2 (ae (qN (qs (sg [0,3,4]) (hFR13_sorted_J1 l22 H))))))))
  ·exact sk (qN (qs (sg [0,3,4]) (hFR13_sorted_J1 there_1 H)))
 ·exact ex 0 (qx (by cases H;exact xo rfl (sg [3])))
theorem NN (x:((List Aa)×Int)) (z:(((List Aa)×Int)⊕(List Aa))) (H:En n y67 y_1 x.1 x.2=some z):WP (cxk 65 0) (Av Tryz.f114) [1,1,1,1,0,1,0,0,1,0,0,1,0,0] (As 0 (IB y67 y_1) (OY y67 y_1) z) (IB y67 y_1 x):=by
 obtain ⟨out_21,x_15⟩:=x
 refine sq (sr (ck 2 (en (cn H (λ H=>?_) (λ H=>?_)))))
 ·refine sk (qz (sj (λ (x:(List Aa))=>Jex y67 y_1 x_15 x) (λ (x:(List Aa))=>Em n x_15 x) z ?_ (λ hFR13_sorted_J2=>?_)))
  ·intro out_23 H
   exact rz (ck 3 (ae (by cases H;exact og (sg [3,6,7,8]))))
  refine bk 5 (sr (ck 2 (bx H λ gd9 h229 H=>sp (Yu 0 60 0 60 (j:=0) h229) (bx H λ gd10 h230 H=>sp (Yx 0 60 60 1 (0+Int.toNat y_1) 0 h230) (bx H λ x59 h231 H=>sp (JgM D.bool 0 60 (ty 4) h231) (en (cn H (λ H=>?_) (λ H=>?_))))))))
  ·exact rz (ck 5 (bx H λ l23 h232 H=>sp (A6 Ac 1 2 h232) (ck 1 (ae (qN (qs (sg [3,6,7,8]) (hFR13_sorted_J2 l23 H)))))))
  ·exact sk (qN (qs (sg [3,6,7,8]) (hFR13_sorted_J2 out_21 H)))
 ·exact ex 4 (qx (by cases H;exact xo rfl (sg [3,6,7])))
theorem NO (x:((List Aa)×Int)) (z:(((List Aa)×Int)⊕(List Aa))) (H:Eo n y67 x.1 x.2=some z):WP (cxk 65 0) (Av Tryz.f114) [1,1,1,1,0,1,0,0] (As 0 (IC y67) (OZ) z) (IC y67 x):=by
 obtain ⟨out_19,y_1⟩:=x
 refine sq (sr (ck 2 (en (cn H (λ H=>?_) (λ H=>?_)))))
 ·exact sk (qz (sq (bk 3 (sr (ck 1 (en (bk 4 (bx H λ y68 h233 H=>lX NN h233 (sg [3,6,7,8]) rfl λ s hE50=>qH (qN (qs (hE50) (rz (ck 3 (ae (by cases H;exact og (sg [3,6,7])))))))))))))))
 ·exact ex 2 (qx (by cases H;exact xo rfl (sg [6])))
theorem KK {z} (H:Hz n p0_=some z):Aq Tryz.prog 114 [.d (.sl (p0_.map Ac))] (.own 2 (z.map Ac)):=by
 exact fO 65 (Jep p0_) Tryz.func114 (sr (ck 1 (en (sr (ck 2 (sp (JbB (D.bool false) 3600 0 (ty 186)) (en (sq (sq (rg (tr (JdN D.bool false 3600 60 60 0 (by kernel_rfl) (by kernel_rfl)) (JkH 3 0 60 (by kernel_rfl))) (ck 1 (en (bk 0 (bx H λ y67 h228 H=>lX NM h228 (sg [0,3,4]) rfl λ s hE49=>qH (qs (hE49) (sr (ck 2 (en (sq (sr (ck 1 (en (bk 2 (bx H λ y69 h234 H=>lX NO h234 (sg [3,6,7]) rfl λ s hE51=>qH (qs (hE51) (sr (ck 2 (en (re (by cases H;exact pr (rO (v:=.osl 0 2 0 (z.length)) [0] (ao vo))))))))))))))))))))))))))))))))
end
section
variable (p0_:Int) (p1_:Aa)
def Jey:St:=⟨(0,.d (.int .i64 p0_))::(1,.agg [.d (.int .i64 p1_.X),.d (.int .i64 p1_.Y)])::[],[]⟩
variable {p0_ p1_}
theorem Qf {z} (H:Gu n p0_ p1_=some z):Aq Tryz.prog 116 [.d (.int .i64 p0_),.agg [.d (.int .i64 p1_.X),.d (.int .i64 p1_.Y)]] (.d (.bool z)):=by
 exact fO 30 (Jey p0_ p1_) Tryz.func116 (sr (ck 2 (en (sr (ck 4 (gc 2 (!(p0_==3)) (ck 1 (gc 3 ((!(p0_==3))&&(p0_==2)) (pG (g:=(!(p0_==3))) (v:=.d (.bool ((p0_==2)&&((Am p1_.Y 2)==0)))) (λ hg=>CV (c:=.gv (!(p0_==3)) (.d (.bool (p0_==2)))) (a:=.gv ((!(p0_==3))&&(p0_==2)) (.d (.bool ((Am p1_.Y 2)==0)))) (b:=.d (.bool false)) rfl rfl rfl ((λ hh=>hh) hg) (λ ht=>by rw [(λ hh=>hh) hg,ht];rfl) trivial) (pO (ck 2 (gc 2 (!((p0_==3)||((p0_==2)&&((Am p1_.Y 2)==0)))) (ck 1 (gc 1 ((!((p0_==3)||((p0_==2)&&((Am p1_.Y 2)==0))))&&(p0_==1)) (ck 1 (gc 4 ((!((p0_==3)||((p0_==2)&&((Am p1_.Y 2)==0))))&&(p0_==1)) (pG (g:=(!((p0_==3)||((p0_==2)&&((Am p1_.Y 2)==0))))) (v:=.d (.bool ((p0_==1)&&((Am (Ak .i64 p1_.X p1_.Y) 2)==0)))) (λ hg=>CV (c:=.gv (!((p0_==3)||((p0_==2)&&((Am p1_.Y 2)==0)))) (.d (.bool (p0_==1)))) (a:=.gv ((!((p0_==3)||((p0_==2)&&((Am p1_.Y 2)==0))))&&(p0_==1)) (.d (.bool ((Am (Ak .i64 p1_.X p1_.Y) 2)==0)))) (b:=.d (.bool false)) rfl rfl rfl ((λ hh=>hh) hg) (λ ht=>by rw [(λ hh=>hh) hg,ht];rfl) trivial) (pO (ck 1 (en (re (by cases H;exact pr rd))))))))))))))))))))))
end
section
variable (p0_:Aa) (p1_:Aa) (p2_:Aa)
def Jez:St:=⟨(0,.agg [.d (.int .i64 p0_.X),.d (.int .i64 p0_.Y)])::(1,.agg [.d (.int .i64 p1_.X),.d (.int .i64 p1_.Y)])::(2,.agg [.d (.int .i64 p2_.X),.d (.int .i64 p2_.Y)])::[],[]⟩
variable {p0_ p1_ p2_}
theorem UL {z} (H:OI n p0_ p1_ p2_=some z):Aq Tryz.prog 127 [.agg [.d (.int .i64 p0_.X),.d (.int .i64 p0_.Y)],.agg [.d (.int .i64 p1_.X),.d (.int .i64 p1_.Y)],.agg [.d (.int .i64 p2_.X),.d (.int .i64 p2_.Y)]] (.d (.int .i64 z)):=by
 exact fO 30 (Jez p0_ p1_ p2_) Tryz.func127 (sr (ck 4 (en (sr (ck 24 (en (re (by cases H;exact pr rd))))))))
end
section
variable (p0_:Aa) (p1_:Aa) (p2_:Aa)
def JeA:St:=⟨(0,.agg [.d (.int .i64 p0_.X),.d (.int .i64 p0_.Y)])::(1,.agg [.d (.int .i64 p1_.X),.d (.int .i64 p1_.Y)])::(2,.agg [.d (.int .i64 p2_.X),.d (.int .i64 p2_.Y)])::[],[]⟩
variable {p0_ p1_ p2_}
theorem XP {z} (H:QJ n p0_ p1_ p2_=some z):Aq Tryz.prog 123 [.agg [.d (.int .i64 p0_.X),.d (.int .i64 p0_.Y)],.agg [.d (.int .i64 p1_.X),.d (.int .i64 p1_.Y)],.agg [.d (.int .i64 p2_.X),.d (.int .i64 p2_.Y)]] (.d (.bool z)):=by
 exact fO 52 (JeA p0_ p1_ p2_) Tryz.func123 (sr (ck 4 (en (sr (ck 3 (bx H λ r95 h235 H=>ca false (UL h235) (ck 3 (gc 1 (r95==0) (ck 1 (gc 1 (r95==0) (ck 1 (gc 3 (r95==0) (pA (ck 2 (gc 1 ((r95==0)&&(decide (p2_.X>=(if p1_.X<p0_.X then p1_.X else p0_.X)))) (ck 1 (gc 1 ((r95==0)&&(decide (p2_.X>=(if p1_.X<p0_.X then p1_.X else p0_.X)))) (ck 1 (gc 3 ((r95==0)&&(decide (p2_.X>=(if p1_.X<p0_.X then p1_.X else p0_.X)))) (pA (ck 2 (gc 1 (((r95==0)&&(decide (p2_.X>=(if p1_.X<p0_.X then p1_.X else p0_.X))))&&(decide (p2_.X<=(if p1_.X>p0_.X then p1_.X else p0_.X)))) (ck 1 (gc 1 (((r95==0)&&(decide (p2_.X>=(if p1_.X<p0_.X then p1_.X else p0_.X))))&&(decide (p2_.X<=(if p1_.X>p0_.X then p1_.X else p0_.X)))) (ck 1 (gc 3 (((r95==0)&&(decide (p2_.X>=(if p1_.X<p0_.X then p1_.X else p0_.X))))&&(decide (p2_.X<=(if p1_.X>p0_.X then p1_.X else p0_.X)))) (pA (ck 2 (gc 1 ((((r95==0)&&(decide (p2_.X>=(if p1_.X<p0_.X then p1_.X else p0_.X))))&&(decide (p2_.X<=(if p1_.X>p0_.X then p1_.X else p0_.X))))&&(decide (p2_.Y>=(if p1_.Y<p0_.Y then p1_.Y else p0_.Y)))) (ck 1 (gc 1 ((((r95==0)&&(decide (p2_.X>=(if p1_.X<p0_.X then p1_.X else p0_.X))))&&(decide (p2_.X<=(if p1_.X>p0_.X then p1_.X else p0_.X))))&&(decide (p2_.Y>=(if p1_.Y<p0_.Y then p1_.Y else p0_.Y)))) (ck 1 (gc 3 ((((r95==0)&&(decide (p2_.X>=(if p1_.X<p0_.X then p1_.X else p0_.X))))&&(decide (p2_.X<=(if p1_.X>p0_.X then p1_.X else p0_.X))))&&(decide (p2_.Y>=(if p1_.Y<p0_.Y then p1_.Y else p0_.Y)))) (pA (ck 1 (en (re (by cases H;exact pr rd))))))))))))))))))))))))))))))))))))))
end
section
variable (p0_:Aa) (p1_:Aa) (p2_:Aa)
def JeB:St:=⟨(0,.agg [.d (.int .i64 p0_.X),.d (.int .i64 p0_.Y)])::(1,.agg [.d (.int .i64 p1_.X),.d (.int .i64 p1_.Y)])::(2,.agg [.d (.int .i64 p2_.X),.d (.int .i64 p2_.Y)])::[],[]⟩
variable {p0_ p1_ p2_}
theorem Sc {z} (H:HA n p0_ p1_ p2_=some z):Aq Tryz.prog 124 [.agg [.d (.int .i64 p0_.X),.d (.int .i64 p0_.Y)],.agg [.d (.int .i64 p1_.X),.d (.int .i64 p1_.Y)],.agg [.d (.int .i64 p2_.X),.d (.int .i64 p2_.Y)]] (.d (.bool z)):=by
 refine fO 53 (JeB p0_ p1_ p2_) Tryz.func124 (sr (ck 4 (en (sq (sr (ck 11 (en (cn H (λ H=>?_) (λ H=>?_)))))))))
 ·exact sr (ck 1 (en (re (qr (by cases H;exact pr rd)))))
 ·refine sk (qz (sr (ck 12 (en (sr (ck 12 (en (sq (sr (ck 5 (en (cn H (λ H=>?_) (λ H=>?_)))))))))))))
  ·exact sr (ck 4 (en (re (qr (by cases H;exact pr rd)))))
  ·exact sk (qz (sr (ck 4 (en (re (by cases H;exact pr rd))))))
end
section
variable (p0_:(List Aa)) (p1_:Aa) (odd_1:Bool) (i_17:Int) (odd_2:Bool) (odd_3:Bool)
def JeC:St:=⟨(0,.d (.sl (p0_.map Ac)))::(1,.agg [.d (.int .i64 p1_.X),.d (.int .i64 p1_.Y)])::[],[]⟩
def JeD:St:=⟨(0,.d (.sl (p0_.map Ac)))::(3,.ptr 0 0)::(5,.d (.bool odd_1))::(6,.d (.int .i64 i_17))::[],[some (.box [.d (.int .i64 p1_.X),.d (.int .i64 p1_.Y)])]⟩
def JeE:St:=⟨(5,.d (.bool odd_2))::[],[]⟩
def JeF:St:=⟨(0,.d (.sl (p0_.map Ac)))::(3,.ptr 0 0)::(5,.d (.bool odd_3))::(6,.d (.int .i64 i_17))::[],[some (.box [.d (.int .i64 p1_.X),.d (.int .i64 p1_.Y)])]⟩
def O2:(Bool⊕Bool)->Ex->St->Prop:=xS (xX 0 0 (λ (y:Bool)=>JeE y)) (xR ty Tryz.f117 (λ (y:Bool)=>.d (.bool y)))
def ID:(Bool×Int)->St:=(λ (x:(Bool×Int))=>JeD p0_ p1_ x.1 x.2)
variable {p0_ p1_ odd_1 i_17 odd_2 odd_3}
theorem HL (x:(Bool×Int)) (z:((Bool×Int)⊕(Bool⊕Bool))) (H:Er n p0_ p1_ x.1 x.2=some z):WP (cxk 32 0) (Av Tryz.f117) [1,1,0,1,0,0] (As 0 (ID p0_ p1_) (O2) z) (ID p0_ p1_ x):=by
 obtain ⟨odd_1,i_17⟩:=x
 refine sq (sr (ck 2 (sp (Au Ac p0_) (ck 1 (en (cn H (λ H=>?_) (λ H=>?_)))))))
 ·refine sk (qz (sj (λ (x:Bool)=>JeF p0_ p1_ i_17 x) (λ (x:Bool)=>Ep n i_17 x) z ?_ (λ hFR13_Inside_J1=>?_)))
  ·intro odd_3 H
   exact rz (ck 3 (ae (by cases H;exact og (sg [0,3,5,6]))))
  refine bk 1 (sr (ck 2 (bx H λ r96 h236 H=>ca false (NL h236) (ck 7 (en (sq (sr (ck 3 (bx H λ r97 h237 H=>ca false (XP h237) (en (cn H (λ H=>?_) (λ H=>?_))))))))))))
  ·exact sr (ck 1 (en (re (qr (qR (qr (by cases H;exact ro rfl rd)))))))
  ·refine sk (qz (sr (ck 3 (bx H λ r98 h238 H=>ca false (Sc h238) (en (cn H (λ H=>?_) (λ H=>?_)))))))
   ·exact rz (ck 3 (ae (qN (qs (sg [0,3,5,6]) (hFR13_Inside_J1 (!odd_1) H)))))
   ·exact sk (qN (qs (sg [0,3,5,6]) (hFR13_Inside_J1 odd_1 H)))
 ·exact ex 0 (qx (by cases H;exact xo rfl (sg [5])))
theorem Sd {z} (H:Ks n p0_ p1_=some z):Aq Tryz.prog 117 [.d (.sl (p0_.map Ac)),.agg [.d (.int .i64 p1_.X),.d (.int .i64 p1_.Y)]] (.d (.bool z)):=by
 refine fO 32 (JeC p0_ p1_) Tryz.func117 (sr (ck 2 (en (sr (ck 1 (en (sq (sr (ck 1 (en (bk 0 (bx H λ y70 h239 H=>?_))))))))))))
 rcases y70 with y71|y72
 ·exact lX HL h239 (sg [0,3,5,6]) rfl λ s hE52=>qH (qs (hE52) (sr (ck 2 (en (re (by cases H;exact pr rd))))))
 ·exact lR HL h239 (sg [0,3,5,6]) rfl λ s hE53=>qR (qr (by cases H;exact pr hE53))
end
section
variable (p0_:Ax) (out_24:(List Aa)) (y_2:Int) (out_25:(List Aa)) (out_26:(List Aa)) (x_16:Int) (out_27:(List Aa)) (out_28:(List Aa))
def JeG:St:=⟨(0,.agg [.d (.int .i64 p0_.Kind),.d (.int .i64 p0_.Texture),.d (.sl (p0_.P.map Ac))])::[],[]⟩
def JeH:St:=⟨(1,.ptr 0 0)::(3,.osl 1 2 0 (out_24.length))::(4,.d (.int .i64 y_2))::[],[some (.box (DA p0_)),some (.arr 2 (out_24.map Ac))]⟩
def JeI:St:=⟨(3,.osl 0 2 0 (out_25.length))::[],[some (.arr 2 (out_25.map Ac))]⟩
def JeJ:St:=⟨(1,.ptr 0 0)::(3,.osl 1 2 0 (out_26.length))::(4,.d (.int .i64 y_2))::(5,.d (.int .i64 x_16))::[],[some (.box (DA p0_)),some (.arr 2 (out_26.map Ac))]⟩
def JeK:St:=⟨(1,.ptr 0 0)::(3,.osl 1 2 0 (out_27.length))::(4,.d (.int .i64 y_2))::[],[some (.box (DA p0_)),some (.arr 2 (out_27.map Ac))]⟩
def JeL:St:=⟨(1,.ptr 0 0)::(3,.osl 1 2 0 (out_28.length))::(4,.d (.int .i64 y_2))::(5,.d (.int .i64 x_16))::[],[some (.box (DA p0_)),some (.arr 2 (out_28.map Ac))]⟩
def O3:(List Aa)->Ex->St->Prop:=xX 0 3 (λ (y:(List Aa))=>JeK p0_ y_2 y)
def IE:((List Aa)×Int)->St:=(λ (x:((List Aa)×Int))=>JeJ p0_ y_2 x.1 x.2)
def O4:(List Aa)->Ex->St->Prop:=xX 0 1 (λ (y:(List Aa))=>JeI y)
def IF:((List Aa)×Int)->St:=(λ (x:((List Aa)×Int))=>JeH p0_ x.1 x.2)
variable {p0_ out_24 y_2 out_25 out_26 x_16 out_27 out_28}
theorem NP (x:((List Aa)×Int)) (z:(((List Aa)×Int)⊕(List Aa))) (H:Et n p0_ y_2 x.1 x.2=some z):WP (cxk 56 0) (Av Tryz.f105) [1,1,1,0,1,0,0,1,0,0,1,0,0] (As 0 (IE p0_ y_2) (O3 p0_ y_2) z) (IE p0_ y_2 x):=by
 obtain ⟨out_26,x_16⟩:=x
 refine sq (sr (ck 2 (en (cn H (λ H=>?_) (λ H=>?_)))))
 ·refine sk (qz (sj (λ (x:(List Aa))=>JeL p0_ y_2 x_16 x) (λ (x:(List Aa))=>Es n x_16 x) z ?_ (λ hFR13_Points_J1=>?_)))
  ·intro out_28 H
   exact rz (ck 3 (ae (by cases H;exact og (sg [1,3,4,5]))))
  refine bk 4 (sr (ck 5 (en (sr (ck 3 (bx H λ r102 h243 H=>ca false (Qf h243) (ck 2 (gc 1 r102 (ck 1 (bx H λ r103 h244 H=>cG false (leZ) rfl (λ hg=>Sd (A5 h244 hg)) (Or.inl rfl) (BU (λ hh=>hh) (BU (λ hh=>hh) (CY))) rfl (pA (en (cn H (λ H=>?_) (λ H=>?_))))))))))))))
  ·exact rz (ck 3 (bx H λ l24 h245 H=>sp (A6 Ac 1 2 h245) (ck 1 (ae (qN (qs (sg [1,3,4,5]) (hFR13_Points_J1 l24 H)))))))
  ·exact sk (qN (qs (sg [1,3,4,5]) (hFR13_Points_J1 out_26 H)))
 ·exact ex 3 (qx (by cases H;exact xo rfl (sg [1,3,4])))
theorem NQ (x:((List Aa)×Int)) (z:(((List Aa)×Int)⊕(List Aa))) (H:Eu n p0_ x.1 x.2=some z):WP (cxk 56 0) (Av Tryz.f105) [1,1,1,0,1,0,0] (As 0 (IF p0_) (O4) z) (IF p0_ x):=by
 obtain ⟨out_24,y_2⟩:=x
 refine sq (sr (ck 2 (en (cn H (λ H=>?_) (λ H=>?_)))))
 ·exact sk (qz (sq (bk 2 (sr (ck 1 (en (bk 3 (bx H λ y73 h246 H=>lX NP h246 (sg [1,3,4,5]) rfl λ s hE54=>qH (qN (qs (hE54) (rz (ck 3 (ae (by cases H;exact og (sg [1,3,4])))))))))))))))
 ·exact ex 1 (qx (by cases H;exact xo rfl (sg [3])))
theorem KL {z} (H:Db n p0_=some z):Aq Tryz.prog 105 [.agg (DA p0_)] (.d (.sl (z.map Ac))):=by
 refine fO 56 (JeG p0_) Tryz.func105 (sr (ck 2 (en (sq (sr (ck 2 (en (bk 0 (sr (ck 2 (en (cn H (λ H=>?_) (λ H=>?_)))))))))))))
 ·exact sr (ck 3 (en (re (qR (qr (by cases H;exact pr rd))))))
 ·refine sr (ck 2 (en (cn H (λ H=>?_) (λ H=>?_))))
  ·exact sr (ck 4 (sp (Au Ac p0_.P) (ck 1 (bx H λ r99 h240 H=>ca false (Mg h240) (bx H λ r100 h241 H=>cl [List.length r100] (KK h241) (ck 1 (ae (qs (fz (enc:=Ac) (xs:=r100) 2 1 2) (re (qR (qr (by cases H;exact pr rd))))))))))))
  ·exact sk (qN (qz (sr (ck 4 (sp (Au Ac p0_.P) (bx H λ r101 h242 H=>cl [List.length r101] (Mg h242) (ck 1 (en (sq (sr (ck 1 (en (bk 1 (bx H λ y74 h247 H=>lX NQ h247 (sg [1,3,4]) rfl λ s hE55=>qH (qs (hE55) (sr (ck 1 (bx H λ r104 h248 H=>cb (ks:=[0]) (obl:=[(0+List.length y74,List.length (y74.map Ac))]) (ls:=[List.length r104]) true (leK leM (leZ)) (Cy F4 rfl) (KK h248) (Or.inr (JdF λ _=>rfl)) (JlQ rfl) (ck 1 (ae (qs (fz (enc:=Ac) (xs:=r104) 2 1 2) (re (by cases H;exact pr rd)))))))))))))))))))))))
end
section
variable (p0_:(List Aa)) (p1_:Int) (p2_:Int) (i_18:Int)
def JeM:St:=⟨(0,.d (.sl (p0_.map Ac)))::(1,.d (.int .i64 p1_))::(2,.d (.int .i64 p2_))::[],[]⟩
def JeN:St:=⟨(0,.d (.sl (p0_.map Ac)))::(1,.d (.int .i64 p1_))::(2,.d (.int .i64 p2_))::(7,.d (.int .i64 i_18))::[],[]⟩
def JeO:St:=⟨[],[]⟩
def O5:(Unit⊕Bool)->Ex->St->Prop:=xS (xX 0 0 (λ (y:Unit)=>JeO)) (xR ty Tryz.f104 (λ (y:Bool)=>.d (.bool y)))
def IG:Int->St:=(λ (x:Int)=>JeN p0_ p1_ p2_ x)
variable {p0_ p1_ p2_ i_18}
theorem HM (x:Int) (z:(Int⊕(Unit⊕Bool))) (H:Ew n p0_ p1_ p2_ x=some z):WP (cxk 46 0) (Av Tryz.f104) [1,0,1,0,0] (As 0 (IG p0_ p1_ p2_) (O5) z) (IG p0_ p1_ p2_ x):=by
 revert H
 generalize x=i_18
 intro H
 refine sq (sr (ck 2 (sp (Au Ac p0_) (ck 1 (en (cn H (λ H=>?_) (λ H=>?_)))))))
 ·refine sk (qz (sq (bk 1 (sr (ck 2 (bx H λ x60 h249 H=>sp (Aj Ac h249) (ck 6 (bx H λ x61 h250 H=>sE (λ hg=>Aj Ac (A5 h250 hg)) (gc 2 (!(decide (x60.X<0))) (ck 1 (gc 1 (!(decide (x60.X<0))) (pO (ck 3 (bx H λ x62 h251 H=>sE (λ hg=>Aj Ac (A5 h251 hg)) (gc 3 (!((decide (x60.X<0))||(decide (x61.X>=p1_)))) (pO (ck 3 (bx H λ x63 h252 H=>sE (λ hg=>Aj Ac (A5 h252 hg)) (gc 2 (!(((decide (x60.X<0))||(decide (x61.X>=p1_)))||(decide (x62.Y<0)))) (ck 1 (gc 1 (!(((decide (x60.X<0))||(decide (x61.X>=p1_)))||(decide (x62.Y<0)))) (pO (en (cn H (λ H=>?_) (λ H=>?_)))))))))))))))))))))))))
  ·exact sr (ck 1 (en (re (qR (qr (by cases H;exact ro rfl rd))))))
  ·exact sk (qN (qz (rz (ck 3 (ae (by cases H;exact og (sg [0,1,2,7])))))))
 ·exact ex 0 (qx (by cases H;exact xo rfl (sg [])))
theorem Se {z} (H:Kt n p0_ p1_ p2_=some z):Aq Tryz.prog 104 [.d (.sl (p0_.map Ac)),.d (.int .i64 p1_),.d (.int .i64 p2_)] (.d (.bool z)):=by
 refine fO 46 (JeM p0_ p1_ p2_) Tryz.func104 (sr (ck 1 (en (sq (sr (ck 1 (en (bk 0 (bx H λ y75 h253 H=>?_)))))))))
 rcases y75 with y76|y77
 ·exact lX HM h253 (sg [0,1,2,7]) rfl λ s hE56=>qH (qs (hE56) (sr (ck 1 (en (re (by cases H;exact pr rd))))))
 ·exact lR HM h253 (sg [0,1,2,7]) rfl λ s hE57=>qR (qr (by cases H;exact pr hE57))
end
section
variable (p0_:Ag) (i_19:Int)
def Jio:St:=⟨(0,.agg [.d (.int .i64 p0_.W),.d (.int .i64 p0_.H),.d (.int .i64 p0_.Gap),.d (.sl (p0_.F.map Aw))])::[],[]⟩
def Jip:St:=⟨(1,.ptr 0 0)::(3,.d (.int .i64 i_19))::[],[some (.box (AG p0_))]⟩
def Jiq:St:=⟨[],[]⟩
def Qg:(Unit⊕Bool)->Ex->St->Prop:=xS (xX 0 0 (λ (y:Unit)=>Jiq)) (xR ty Tryz.f93 (λ (y:Bool)=>.d (.bool y)))
def JN:Int->St:=(λ (x:Int)=>Jip p0_ x)
variable {p0_ i_19}
theorem IH (x:Int) (z:(Int⊕(Unit⊕Bool))) (H:Fm n p0_ x=some z):WP (cxk 86 0) (Av Tryz.f93) [1,1,0,1,0,0] (As 0 (JN p0_) (Qg) z) (JN p0_ x):=by
 revert H
 generalize x=i_19
 intro H
 refine sq (sr (ck 3 (sp (Au Aw p0_.F) (ck 1 (en (cn H (λ H=>?_) (λ H=>?_)))))))
 ·refine sk (qz (sq (bk 1 (sr (ck 3 (bx H λ x64 h254 H=>sp (Aj Aw h254) (ck 1 (bx H λ r105 h255 H=>ca false (S4 h255) (ck 1 (en (sr (ck 4 (gc 1 (!(!r105)) (ck 1 (bx H λ x65 h256 H=>sE (λ hg=>Aj Aw (A5 h256 hg)) (gc 1 (!(!r105)) (bx H λ r106 h257 H=>cG false (leZ) rfl (λ hg=>KL (A5 h257 hg)) (Or.inl rfl) (BU (λ hh=>hh) (CY)) rfl (ck 1 (gc 1 (!(!r105)) (ck 1 (gc 1 (!(!r105)) (bx H λ r107 h258 H=>cG false (leZ) rfl (λ hg=>Se (A5 h258 hg)) (Or.inl rfl) (BU (λ hh=>hh) (BU (λ hh=>hh) (BU (λ hh=>hh) (CY)))) rfl (gc 1 (!(!r105)) (pO (en (cn H (λ H=>?_) (λ H=>?_)))))))))))))))))))))))))))
  ·exact sr (ck 1 (en (re (qR (qr (by cases H;exact ro rfl rd))))))
  ·exact sk (qN (qz (rz (ck 3 (ae (by cases H;exact og (sg [1,3])))))))
 ·exact ex 0 (qx (by cases H;exact xo rfl (sg [])))
theorem Mh {z} (H:E9 n p0_=some z):Aq Tryz.prog 93 [.agg (AG p0_)] (.d (.bool z)):=by
 refine fO 86 (Jio p0_) Tryz.func93 (sr (ck 2 (en (sq (sr (ck 5 (gc 2 (!(decide (p0_.W<4))) (pO (ck 2 (gc 3 (!((decide (p0_.W<4))||(decide (p0_.W>60)))) (pO (ck 2 (gc 2 (!(((decide (p0_.W<4))||(decide (p0_.W>60)))||((Am p0_.W 2) != 0))) (pO (ck 2 (gc 2 (!((((decide (p0_.W<4))||(decide (p0_.W>60)))||((Am p0_.W 2) != 0))||(decide (p0_.H<3)))) (pO (ck 2 (gc 3 (!(((((decide (p0_.W<4))||(decide (p0_.W>60)))||((Am p0_.W 2) != 0))||(decide (p0_.H<3)))||(decide (p0_.H>60)))) (pO (ck 2 (gc 2 (!((((((decide (p0_.W<4))||(decide (p0_.W>60)))||((Am p0_.W 2) != 0))||(decide (p0_.H<3)))||(decide (p0_.H>60)))||((Am p0_.H 3) != 0))) (pO (ck 2 (gc 2 (!(((((((decide (p0_.W<4))||(decide (p0_.W>60)))||((Am p0_.W 2) != 0))||(decide (p0_.H<3)))||(decide (p0_.H>60)))||((Am p0_.H 3) != 0))||(decide (p0_.Gap<2)))) (pO (ck 2 (gc 1 (!((((((((decide (p0_.W<4))||(decide (p0_.W>60)))||((Am p0_.W 2) != 0))||(decide (p0_.H<3)))||(decide (p0_.H>60)))||((Am p0_.H 3) != 0))||(decide (p0_.Gap<2)))||(decide (p0_.Gap>6)))) (sE (g:=(!((((((((decide (p0_.W<4))||(decide (p0_.W>60)))||((Am p0_.W 2) != 0))||(decide (p0_.H<3)))||(decide (p0_.H>60)))||((Am p0_.H 3) != 0))||(decide (p0_.Gap<2)))||(decide (p0_.Gap>6))))) (λ hg=>Au Aw p0_.F) (gc 1 (!((((((((decide (p0_.W<4))||(decide (p0_.W>60)))||((Am p0_.W 2) != 0))||(decide (p0_.H<3)))||(decide (p0_.H>60)))||((Am p0_.H 3) != 0))||(decide (p0_.Gap<2)))||(decide (p0_.Gap>6)))) (pO (ck 2 (gc 1 (!(((((((((decide (p0_.W<4))||(decide (p0_.W>60)))||((Am p0_.W 2) != 0))||(decide (p0_.H<3)))||(decide (p0_.H>60)))||((Am p0_.H 3) != 0))||(decide (p0_.Gap<2)))||(decide (p0_.Gap>6)))||(decide (((p0_.F.length:Nat):Int)<1)))) (sE (g:=(!(((((((((decide (p0_.W<4))||(decide (p0_.W>60)))||((Am p0_.W 2) != 0))||(decide (p0_.H<3)))||(decide (p0_.H>60)))||((Am p0_.H 3) != 0))||(decide (p0_.Gap<2)))||(decide (p0_.Gap>6)))||(decide (((p0_.F.length:Nat):Int)<1))))) (λ hg=>Au Aw p0_.F) (gc 1 (!(((((((((decide (p0_.W<4))||(decide (p0_.W>60)))||((Am p0_.W 2) != 0))||(decide (p0_.H<3)))||(decide (p0_.H>60)))||((Am p0_.H 3) != 0))||(decide (p0_.Gap<2)))||(decide (p0_.Gap>6)))||(decide (((p0_.F.length:Nat):Int)<1)))) (pO (en (cn H (λ H=>?_) (λ H=>?_)))))))))))))))))))))))))))))))))))))))
 ·exact sr (ck 1 (en (re (qr (by cases H;exact pr rd)))))
 ·refine sk (qz (sq (sr (ck 1 (en (bk 0 (bx H λ y78 h259 H=>?_)))))))
  rcases y78 with y79|y80
  ·exact lX IH h259 (sg [1,3]) rfl λ s hE58=>qH (qs (hE58) (sr (ck 1 (en (re (by cases H;exact pr rd))))))
  ·exact lR IH h259 (sg [1,3]) rfl λ s hE59=>qR (qr (by cases H;exact pr hE59))
end
section
variable (p0_:Ag) (out_29:(List (List Aa))) (i_20:Int) (out_30:(List (List Aa)))
def Jir:St:=⟨(0,.agg [.d (.int .i64 p0_.W),.d (.int .i64 p0_.H),.d (.int .i64 p0_.Gap),.d (.sl (p0_.F.map Aw))])::[],[]⟩
def Jis:St:=⟨(1,.ptr 0 0)::(3,.osl 1 1 0 (out_29.length))::(4,.d (.int .i64 i_20))::[],[some (.box (AG p0_)),some (.arr 1 (out_29.map (eL Ac)))]⟩
def Jit:St:=⟨(3,.osl 0 1 0 (out_30.length))::[],[some (.arr 1 (out_30.map (eL Ac)))]⟩
def O6:(List (List Aa))->Ex->St->Prop:=xX 0 0 (λ (y:(List (List Aa)))=>Jit y)
def II:((List (List Aa))×Int)->St:=(λ (x:((List (List Aa))×Int))=>Jis p0_ x.1 x.2)
variable {p0_ out_29 i_20 out_30}
theorem NR (x:((List (List Aa))×Int)) (z:(((List (List Aa))×Int)⊕(List (List Aa)))) (H:Ey n p0_ x.1 x.2=some z):WP (cxk 23 0) (Av Tryz.f94) [1,1,0,1,0,0] (As 0 (II p0_) (O6) z) (II p0_ x):=by
 obtain ⟨out_29,i_20⟩:=x
 refine sq (sr (ck 3 (sp (Au Aw p0_.F) (ck 1 (en (cn H (λ H=>?_) (λ H=>?_)))))))
 ·exact sk (qz (sq (bk 1 (rz (ck 4 (bx H λ x66 h260 H=>sp (Aj Aw h260) (ck 1 (bx H λ r108 h261 H=>ca false (KL h261) (ck 1 (bx H λ l25 h262 H=>sp (A6 (eL Ac) 1 1 h262) (ck 1 (ae (qN (qz (rz (ck 3 (ae (by cases H;exact og (sg [1,3,4])))))))))))))))))))
 ·exact ex 0 (qx (by cases H;exact xo rfl (sg [3])))
theorem G4 {z} (H:FG n p0_=some z):Aq Tryz.prog 94 [.agg (AG p0_)] (.own 1 (z.map (eL Ac))):=by
 exact fO 23 (Jir p0_) Tryz.func94 (sr (ck 2 (en (sr (ck 2 (en (sq (sr (ck 1 (en (bk 0 (bx H λ y81 h263 H=>lX NR h263 (sg [1,3,4]) rfl λ s hE60=>qH (qs (hE60) (sr (ck 2 (en (re (by cases H;exact pr (rO (v:=.osl 0 1 0 (z.length)) [0] (ao vo))))))))))))))))))))
end
section
variable (p0_:(List Aa)) (p1_:(List Aa)) (out_31:Int) (i_21:Int) (out_32:Int) (out_33:Int) (k_12:Int) (out_34:Int) (out_35:Int)
def JeP:St:=⟨(0,.d (.sl (p0_.map Ac)))::(1,.d (.sl (p1_.map Ac)))::[],[]⟩
def JeQ:St:=⟨(0,.d (.sl (p0_.map Ac)))::(1,.d (.sl (p1_.map Ac)))::(5,.d (.int .i64 out_31))::(6,.d (.int .i64 i_21))::[],[]⟩
def JeR:St:=⟨(5,.d (.int .i64 out_32))::[],[]⟩
def JeS:St:=⟨(0,.d (.sl (p0_.map Ac)))::(1,.d (.sl (p1_.map Ac)))::(5,.d (.int .i64 out_33))::(6,.d (.int .i64 i_21))::(7,.d (.int .i64 k_12))::[],[]⟩
def JeT:St:=⟨(0,.d (.sl (p0_.map Ac)))::(1,.d (.sl (p1_.map Ac)))::(5,.d (.int .i64 out_34))::(6,.d (.int .i64 i_21))::[],[]⟩
def JeU:St:=⟨(0,.d (.sl (p0_.map Ac)))::(1,.d (.sl (p1_.map Ac)))::(5,.d (.int .i64 out_35))::(6,.d (.int .i64 i_21))::(7,.d (.int .i64 k_12))::[],[]⟩
def ML:Int->Ex->St->Prop:=xX 0 2 (λ (y:Int)=>JeT p0_ p1_ i_21 y)
def G5:(Int×Int)->St:=(λ (x:(Int×Int))=>JeS p0_ p1_ i_21 x.1 x.2)
def MM:Int->Ex->St->Prop:=xX 0 0 (λ (y:Int)=>JeR y)
def G6:(Int×Int)->St:=(λ (x:(Int×Int))=>JeQ p0_ p1_ x.1 x.2)
variable {p0_ p1_ out_31 i_21 out_32 out_33 k_12 out_34 out_35}
theorem LH (x:(Int×Int)) (z:((Int×Int)⊕Int)) (H:B8 n p0_ p1_ i_21 x.1 x.2=some z):WP (cxk 39 0) (Av Tryz.f106) [1,1,0,1,0,0,1,0,0,1,0,0] (As 0 (G5 p0_ p1_ i_21) (ML p0_ p1_ i_21) z) (G5 p0_ p1_ i_21 x):=by
 obtain ⟨out_33,k_12⟩:=x
 refine sq (sr (ck 2 (sp (Au Ac p1_) (ck 1 (en (cn H (λ H=>?_) (λ H=>?_)))))))
 ·refine sk (qz (sj (λ (x:Int)=>JeU p0_ p1_ i_21 k_12 x) (λ (x:Int)=>CA n k_12 x) z ?_ (λ hFR12_Distance_J1=>?_)))
  ·intro out_35 H
   exact rz (ck 3 (ae (by cases H;exact og (sg [0,1,5,6,7]))))
  refine bk 3 (sr (ck 2 (bx H λ x67 h264 H=>sp (Aj Ac h264) (ck 3 (bx H λ x68 h265 H=>sp (Aj Ac h265) (ck 1 (bx H λ r109 h266 H=>ca true (PX h266) (ck 1 (en (sr (ck 5 (gc 1 (!(decide (out_33<0))) (pO (en (cn H (λ H=>?_) (λ H=>?_))))))))))))))))
  ·exact rz (ck 2 (ae (qN (qs (sg [0,1,5,6,7]) (hFR12_Distance_J1 r109 H)))))
  ·exact sk (qN (qs (sg [0,1,5,6,7]) (hFR12_Distance_J1 out_33 H)))
 ·exact ex 2 (qx (by cases H;exact xo rfl (sg [0,1,5,6])))
theorem LI (x:(Int×Int)) (z:((Int×Int)⊕Int)) (H:B9 n p0_ p1_ x.1 x.2=some z):WP (cxk 39 0) (Av Tryz.f106) [1,1,0,1,0,0] (As 0 (G6 p0_ p1_) (MM) z) (G6 p0_ p1_ x):=by
 obtain ⟨out_31,i_21⟩:=x
 refine sq (sr (ck 2 (sp (Au Ac p0_) (ck 1 (en (cn H (λ H=>?_) (λ H=>?_)))))))
 ·exact sk (qz (sq (bk 1 (sr (ck 1 (en (bk 2 (bx H λ y82 h267 H=>lX LH h267 (sg [0,1,5,6,7]) rfl λ s hE61=>qH (qN (qs (hE61) (rz (ck 3 (ae (by cases H;exact og (sg [0,1,5,6])))))))))))))))
 ·exact ex 0 (qx (by cases H;exact xo rfl (sg [5])))
theorem Cc {z} (H:BC n p0_ p1_=some z):Aq Tryz.prog 106 [.d (.sl (p0_.map Ac)),.d (.sl (p1_.map Ac))] (.d (.int .i64 z)):=by
 exact fO 39 (JeP p0_ p1_) Tryz.func106 (sr (ck 1 (en (sr (ck 1 (en (sq (sr (ck 1 (en (bk 0 (bx H λ y83 h268 H=>lX LI h268 (sg [0,1,5,6]) rfl λ s hE62=>qH (qs (hE62) (sr (ck 2 (en (re (by cases H;exact pr rd))))))))))))))))))
end
section
variable (p0_:Ag) (r111:(List (List Aa))) (out_36:(List (List Int))) (i_22:Int) (out_37:(List (List Int))) (row_1:(List Int)) (k_13:Int) (row_2:(List Int))
def Jiu:St:=⟨(0,.agg [.d (.int .i64 p0_.W),.d (.int .i64 p0_.H),.d (.int .i64 p0_.Gap),.d (.sl (p0_.F.map Aw))])::[],[]⟩
def Jiv:St:=⟨(3,.osl 0 1 0 (out_36.length))::(4,.d (.sl (r111.map (eL Ac))))::(5,.d (.int .i64 i_22))::[],[some (.arr 1 (out_36.map (eL A1)))]⟩
def Jiw:St:=⟨(3,.osl 0 1 0 (out_37.length))::[],[some (.arr 1 (out_37.map (eL A1)))]⟩
def Jix:St:=⟨(3,.osl 0 1 0 (out_36.length))::(4,.d (.sl (r111.map (eL Ac))))::(5,.d (.int .i64 i_22))::(6,.osl 1 1 0 (row_1.length))::(7,.d (.int .i64 k_13))::[],[some (.arr 1 (out_36.map (eL A1))),some (.arr 1 (row_1.map A1))]⟩
def Jiy:St:=⟨(3,.osl 0 1 0 (out_36.length))::(4,.d (.sl (r111.map (eL Ac))))::(5,.d (.int .i64 i_22))::(6,.osl 1 1 0 (row_2.length))::[],[some (.arr 1 (out_36.map (eL A1))),some (.arr 1 (row_2.map A1))]⟩
def LJ:(List Int)->Ex->St->Prop:=xX 0 2 (λ (y:(List Int))=>Jiy r111 out_36 i_22 y)
def F7:((List Int)×Int)->St:=(λ (x:((List Int)×Int))=>Jix r111 out_36 i_22 x.1 x.2)
def LK:(List (List Int))->Ex->St->Prop:=xX 0 0 (λ (y:(List (List Int)))=>Jiw y)
def F8:((List (List Int))×Int)->St:=(λ (x:((List (List Int))×Int))=>Jiv r111 x.1 x.2)
variable {p0_ r111 out_36 i_22 out_37 row_1 k_13 row_2}
theorem KM (x:((List Int)×Int)) (z:(((List Int)×Int)⊕(List Int))) (H:C4 n r111 out_36 i_22 x.1 x.2=some z):WP (cxk 44 0) (Av Tryz.f95) [1,1,1,0,1,0,0,1,0,0,1,0,1,0,0] (As 0 (F7 r111 out_36 i_22) (LJ r111 out_36 i_22) z) (F7 r111 out_36 i_22 x):=by
 obtain ⟨row_1,k_13⟩:=x
 refine sq (sr (ck 2 (sp (Au (eL Ac) r111) (ck 1 (en (cn H (λ H=>?_) (λ H=>?_)))))))
 ·exact sk (qz (sq (bk 3 (rz (ck 3 (bx H λ x69 h271 H=>sp (Aj (eL Ac) h271) (ck 3 (bx H λ x70 h272 H=>sp (Aj (eL Ac) h272) (ck 1 (bx H λ r112 h273 H=>ca false (Cc h273) (ck 1 (bx H λ l26 h274 H=>sp (A6 A1 1 1 h274) (ck 1 (ae (qN (qz (rz (ck 3 (ae (by cases H;exact og (sg [3,4,5,6,7])))))))))))))))))))))
 ·exact ex 2 (qx (by cases H;exact xo rfl (sg [3,4,5,6])))
theorem KN (x:((List (List Int))×Int)) (z:(((List (List Int))×Int)⊕(List (List Int)))) (H:C5 n r111 x.1 x.2=some z):WP (cxk 44 0) (Av Tryz.f95) [1,1,1,0,1,0,0] (As 0 (F8 r111) (LK) z) (F8 r111 x):=by
 obtain ⟨out_36,i_22⟩:=x
 refine sq (sr (ck 2 (sp (Au (eL Ac) r111) (ck 1 (en (cn H (λ H=>?_) (λ H=>?_)))))))
 ·exact sk (qz (sq (bk 1 (sr (ck 2 (en (sq (sr (ck 1 (en (bk 2 (bx H λ y84 h275 H=>lX KM h275 (sg [3,4,5,6,7]) rfl λ s hE63=>qH (qs (hE63) (rg (fz (enc:=A1) (xs:=y84) 6 1 1) (ck 3 (bx H λ l27 h276 H=>sp (A6 (eL A1) 0 1 h276) (ck 1 (ae (qN (qz (rz (ck 3 (ae (by cases H;exact og (sg [3,4,5])))))))))))))))))))))))))
 ·exact ex 0 (qx (by cases H;exact xo rfl (sg [3])))
theorem NS {z} (H:GX n p0_=some z):Aq Tryz.prog 95 [.agg (AG p0_)] (.own 1 (z.map (eL A1))):=by
 refine fO 44 (Jiu p0_) Tryz.func95 (sr (ck 2 (en (sq (sr (ck 1 (bx H λ r110 h269 H=>ca false (Mh h269) (ck 1 (en (cn H (λ H=>?_) (λ H=>?_)))))))))))
 ·exact sr (ck 1 (en (re (qr (by cases H;exact pr (rO (v:=.d (.nil)) [] (ad vz)))))))
 ·exact sk (qz (sr (ck 2 (bx H λ r111 h270 H=>ca false (G4 h270) (ck 2 (en (sq (sr (ck 1 (en (bk 0 (bx H λ y85 h277 H=>lX KN h277 (sg [3,4,5]) rfl λ s hE64=>qH (qs (hE64) (sr (ck 2 (en (re (by cases H;exact pr (rO (v:=.osl 0 1 0 (z.length)) [0] (ao vo))))))))))))))))))))
end
section
variable (p0_:(List Aa)) (p1_:Aa) (i_23:Int)
def JeV:St:=⟨(0,.d (.sl (p0_.map Ac)))::(1,.agg [.d (.int .i64 p1_.X),.d (.int .i64 p1_.Y)])::[],[]⟩
def JeW:St:=⟨(0,.d (.sl (p0_.map Ac)))::(3,.ptr 0 0)::(5,.d (.int .i64 i_23))::[],[some (.box [.d (.int .i64 p1_.X),.d (.int .i64 p1_.Y)])]⟩
def JeX:St:=⟨[],[]⟩
def S5:(Unit⊕Bool)->Ex->St->Prop:=xS (xX 0 0 (λ (y:Unit)=>JeX)) (xR ty Tryz.f108 (λ (y:Bool)=>.d (.bool y)))
def Mi:Int->St:=(λ (x:Int)=>JeW p0_ p1_ x)
variable {p0_ p1_ i_23}
theorem KO (x:Int) (z:(Int⊕(Unit⊕Bool))) (H:HB n p0_ p1_ x=some z):WP (cxk 18 0) (Av Tryz.f108) [1,0,1,0,0] (As 0 (Mi p0_ p1_) (S5) z) (Mi p0_ p1_ x):=by
 revert H
 generalize x=i_23
 intro H
 refine sq (sr (ck 2 (sp (Au Ac p0_) (ck 1 (en (cn H (λ H=>?_) (λ H=>?_)))))))
 ·refine sk (qz (sq (bk 1 (sr (ck 2 (bx H λ x71 h278 H=>sp (Aj Ac h278) (ck 3 (en (cn H (λ H=>?_) (λ H=>?_))))))))))
  ·exact sr (ck 1 (en (re (qR (qr (by cases H;exact ro rfl rd))))))
  ·exact sk (qN (qz (rz (ck 3 (ae (by cases H;exact og (sg [0,3,5])))))))
 ·exact ex 0 (qx (by cases H;exact xo rfl (sg [])))
theorem KP {z} (H:Ku n p0_ p1_=some z):Aq Tryz.prog 108 [.d (.sl (p0_.map Ac)),.agg [.d (.int .i64 p1_.X),.d (.int .i64 p1_.Y)]] (.d (.bool z)):=by
 refine fO 18 (JeV p0_ p1_) Tryz.func108 (sr (ck 2 (en (sq (sr (ck 1 (en (bk 0 (bx H λ y86 h279 H=>?_)))))))))
 rcases y86 with y87|y88
 ·exact lX KO h279 (sg [0,3,5]) rfl λ s hE65=>qH (qs (hE65) (sr (ck 1 (en (re (by cases H;exact pr rd))))))
 ·exact lR KO h279 (sg [0,3,5]) rfl λ s hE66=>qR (qr (by cases H;exact pr hE66))
end
section
variable (p0_:Aa) (p1_:Aa)
def JeY:St:=⟨(0,.agg [.d (.int .i64 p0_.X),.d (.int .i64 p0_.Y)])::(1,.agg [.d (.int .i64 p1_.X),.d (.int .i64 p1_.Y)])::[],[]⟩
variable {p0_ p1_}
theorem Sf {z} (H:PT n p0_ p1_=some z):Aq Tryz.prog 119 [.agg [.d (.int .i64 p0_.X),.d (.int .i64 p0_.Y)],.agg [.d (.int .i64 p1_.X),.d (.int .i64 p1_.Y)]] (.d (.bool z)):=by
 exact fO 24 (JeY p0_ p1_) Tryz.func119 (sr (ck 3 (en (sr (ck 7 (gc 1 (!(decide (p0_.Y<p1_.Y))) (ck 1 (gc 3 (!(decide (p0_.Y<p1_.Y))) (ck 1 (gc 1 ((!(decide (p0_.Y<p1_.Y)))&&(p0_.Y==p1_.Y)) (ck 1 (gc 2 ((!(decide (p0_.Y<p1_.Y)))&&(p0_.Y==p1_.Y)) (pG (g:=(!(decide (p0_.Y<p1_.Y)))) (v:=.d (.bool ((p0_.Y==p1_.Y)&&(decide (p0_.X<p1_.X))))) (λ hg=>CV (c:=.gv (!(decide (p0_.Y<p1_.Y))) (.d (.bool (p0_.Y==p1_.Y)))) (a:=.gv ((!(decide (p0_.Y<p1_.Y)))&&(p0_.Y==p1_.Y)) (.d (.bool (decide (p0_.X<p1_.X))))) (b:=.d (.bool false)) rfl rfl rfl ((λ hh=>hh) hg) (λ ht=>by rw [(λ hh=>hh) hg,ht];rfl) trivial) (pO (ck 1 (en (re (by cases H;exact pr rd))))))))))))))))))
end
section
variable (p0_:(List Aa)) (out_38:(List Aa)) (i_24:Int) (out_39:(List Aa)) (out_40:(List Aa)) (at_2:Int) (at_3:Int)
def JeZ:St:=⟨(0,.d (.sl (p0_.map Ac)))::[],[]⟩
def Je0:St:=⟨(0,.d (.sl (p0_.map Ac)))::(3,.osl 0 2 0 (out_38.length))::(4,.d (.int .i64 i_24))::[],[some (.arr 2 (out_38.map Ac))]⟩
def Je1:St:=⟨(3,.osl 0 2 0 (out_39.length))::[],[some (.arr 2 (out_39.map Ac))]⟩
def Je2:St:=⟨(0,.d (.sl (p0_.map Ac)))::(3,.osl 0 2 0 (out_40.length))::(4,.d (.int .i64 i_24))::[],[some (.arr 2 (out_40.map Ac))]⟩
def Je3:St:=⟨(0,.d (.sl (p0_.map Ac)))::(3,.osl 0 2 0 (out_38.length))::(4,.d (.int .i64 i_24))::(5,.d (.int .i64 at_2))::[],[some (.arr 2 (out_38.map Ac))]⟩
def Je4:St:=⟨(0,.d (.sl (p0_.map Ac)))::(3,.osl 0 2 0 (out_38.length))::(4,.d (.int .i64 i_24))::(5,.d (.int .i64 at_3))::[],[some (.arr 2 (out_38.map Ac))]⟩
def O7:Int->Ex->St->Prop:=xX 0 2 (λ (y:Int)=>Je4 p0_ out_38 i_24 y)
def IJ:Int->St:=(λ (x:Int)=>Je3 p0_ out_38 i_24 x)
def O8:(List Aa)->Ex->St->Prop:=xX 0 0 (λ (y:(List Aa))=>Je1 y)
def IK:((List Aa)×Int)->St:=(λ (x:((List Aa)×Int))=>Je0 p0_ x.1 x.2)
variable {p0_ out_38 i_24 out_39 out_40 at_2 at_3}
theorem NT (x:Int) (z:(Int⊕Int)) (H:GZ n p0_ out_38 i_24 x=some z):WP (cxk 56 0) (Av Tryz.f107) [1,1,0,1,0,0,1,0,0,1,1,0,0,0] (As 0 (IJ p0_ out_38 i_24) (O7 p0_ out_38 i_24) z) (IJ p0_ out_38 i_24 x):=by
 revert H
 generalize x=at_2
 intro H
 refine sq (sr (ck 5 (bx H λ x73 h282 H=>sE (λ hg=>Aj Ac (A5 h282 hg)) (gc 1 (decide (at_2>0)) (ck 2 (gc 1 (decide (at_2>0)) (bx H λ x74 h283 H=>sE (λ hg=>Bm 0 2 (A5 h283 hg)) (sE (g:=decide (at_2>0)) (λ hg=>B4 Ac 0 0 (ty 124) (A5 h283 hg)) (bx H λ r114 h284 H=>cG false (leZ) rfl (λ hg=>Sf (A5 h284 hg)) (Or.inl rfl) (BU (λ hh=>hh) (BU (λ hh=>hh) (CY))) rfl (pA (en (cn H (λ H=>?_) (λ H=>?_)))))))))))))
 ·exact sk (qz (bk 3 (rz (ck 3 (ae (qN (by cases H;exact og (sg [0,3,4,5]))))))))
 ·exact ex 2 (qx (by cases H;exact xo rfl (sg [0,3,4,5])))
theorem NU (x:((List Aa)×Int)) (z:(((List Aa)×Int)⊕(List Aa))) (H:Ez n p0_ x.1 x.2=some z):WP (cxk 56 0) (Av Tryz.f107) [1,1,0,1,0,0] (As 0 (IK p0_) (O8) z) (IK p0_ x):=by
 obtain ⟨out_38,i_24⟩:=x
 refine sq (sr (ck 2 (sp (Au Ac p0_) (ck 1 (en (cn H (λ H=>?_) (λ H=>?_)))))))
 ·refine sk (qz (sj (λ (x:(List Aa))=>Je2 p0_ i_24 x) (λ (x:(List Aa))=>GY n i_24 x) z ?_ (λ hFR12_Sorted_J1=>?_)))
  ·intro out_40 H
   exact rz (ck 3 (ae (by cases H;exact og (sg [0,3,4]))))
  refine bk 1 (sq (sr (ck 3 (bx H λ x72 h280 H=>sp (Aj Ac h280) (ck 1 (bx H λ r113 h281 H=>cb (ks:=[0]) (obl:=[(0+List.length out_38,List.length (out_38.map Ac))]) false (leK leM (leZ)) (Cy F4 (Cy rfl rfl)) (KP h281) (Or.inr trivial) rfl (en (cn H (λ H=>?_) (λ H=>?_)))))))))
  ·exact ex 1 (qx (qH (qs (sg [0,3,4]) (hFR12_Sorted_J1 out_38 H))))
  ·exact sk (qz (sr (ck 3 (en (sq (bk 2 (bx H λ y89 h285 H=>lX NT h285 (sg [0,3,4,5]) rfl λ s hE67=>qH (qs (hE67) (sr (ck 3 (bx H λ l28 h286 H=>sp (Mx 0 2 h286) (bx H λ l29 h287 H=>sp (JdJ Ac 1 2 (QG h286) (Uq (enc:=Ac) h286) h287) (ck 1 (en (sr (ck 2 (bx H λ l30 h288 H=>sp (Mx 0 2 h288) (ck 2 (bx H λ x75 h289 H=>sp (Aj Ac h289) (ck 2 (bx H λ l31 h290 H=>sp (JdK Ac 0 2 (QG h288) (Uq (enc:=Ac) h288) (Yr h288) FE (leM (enc:=Ac) (xs:=[x75])) h290) (ck 1 (en (rz (ck 2 (bx H λ l32 h291 H=>sp (A6 Ac 4 2 h291) (ck 1 (ae (qN (qs (sg [0,3,4]) (hFR12_Sorted_J1 l32 H)))))))))))))))))))))))))))))))
 ·exact ex 0 (qx (by cases H;exact xo rfl (sg [3])))
theorem KQ {z} (H:HC n p0_=some z):Aq Tryz.prog 107 [.d (.sl (p0_.map Ac))] (.own 2 (z.map Ac)):=by
 exact fO 56 (JeZ p0_) Tryz.func107 (sr (ck 1 (en (sr (ck 2 (en (sq (sr (ck 1 (en (bk 0 (bx H λ y90 h292 H=>lX NU h292 (sg [0,3,4]) rfl λ s hE68=>qH (qs (hE68) (sr (ck 2 (en (re (by cases H;exact pr (rO (v:=.osl 0 2 0 (z.length)) [0] (ao vo))))))))))))))))))))
end
end Go.AI
end
section
namespace Go.AI
open Go.Proofs
set_option maxRecDepth 10000
variable {n:Nat}
section
variable (p0_:(List Aa)) (p1_:Int) (rest_1:(List Aa)) (out_41:(List (List Aa))) (out_42:(List (List Aa))) (one_1:(List Aa)) (grown_1:Bool) (one_2:(List Aa)) (one_3:(List Aa)) (grown_2:Bool) (i_25:Int) (one_4:(List Aa)) (grown_3:Bool) (one_5:(List Aa)) (grown_4:Bool) (y92:(List Aa)) (left_1:(List Aa)) (i_26:Int) (left_2:(List Aa)) (left_3:(List Aa))
def Jiz:St:=⟨(0,.d (.sl (p0_.map Ac)))::(1,.d (.int .i64 p1_))::[],[]⟩
def JiA:St:=⟨(1,.d (.int .i64 p1_))::(5,.osl 0 2 0 (rest_1.length))::(6,.osl 1 1 0 (out_41.length))::[],[some (.arr 2 (rest_1.map Ac)),some (.arr 1 (out_41.map (eL Ac)))]⟩
def JiB:St:=⟨(6,.osl 0 1 0 (out_42.length))::[],[some (.arr 1 (out_42.map (eL Ac)))]⟩
def JiC:St:=⟨(1,.d (.int .i64 p1_))::(5,.osl 0 2 0 (rest_1.length))::(6,.osl 1 1 0 (out_41.length))::(7,.osl 2 2 0 (one_1.length))::(8,.d (.bool grown_1))::[],[some (.arr 2 (rest_1.map Ac)),some (.arr 1 (out_41.map (eL Ac))),some (.arr 2 (one_1.map Ac))]⟩
def JiD:St:=⟨(1,.d (.int .i64 p1_))::(5,.osl 0 2 0 (rest_1.length))::(6,.osl 1 1 0 (out_41.length))::(7,.osl 2 2 0 (one_2.length))::[],[some (.arr 2 (rest_1.map Ac)),some (.arr 1 (out_41.map (eL Ac))),some (.arr 2 (one_2.map Ac))]⟩
def JiE:St:=⟨(1,.d (.int .i64 p1_))::(5,.osl 0 2 0 (rest_1.length))::(6,.osl 1 1 0 (out_41.length))::(7,.osl 2 2 0 (one_3.length))::(8,.d (.bool grown_2))::(9,.d (.int .i64 i_25))::[],[some (.arr 2 (rest_1.map Ac)),some (.arr 1 (out_41.map (eL Ac))),some (.arr 2 (one_3.map Ac))]⟩
def JiF:St:=⟨(1,.d (.int .i64 p1_))::(5,.osl 0 2 0 (rest_1.length))::(6,.osl 1 1 0 (out_41.length))::(7,.osl 2 2 0 (one_4.length))::(8,.d (.bool grown_3))::[],[some (.arr 2 (rest_1.map Ac)),some (.arr 1 (out_41.map (eL Ac))),some (.arr 2 (one_4.map Ac))]⟩
def JiG:St:=⟨(1,.d (.int .i64 p1_))::(5,.osl 0 2 0 (rest_1.length))::(6,.osl 1 1 0 (out_41.length))::(7,.osl 2 2 0 (one_5.length))::(8,.d (.bool grown_4))::(9,.d (.int .i64 i_25))::[],[some (.arr 2 (rest_1.map Ac)),some (.arr 1 (out_41.map (eL Ac))),some (.arr 2 (one_5.map Ac))]⟩
def MN:((List Aa)×Bool)->Ex->St->Prop:=xX 0 4 (λ (y:((List Aa)×Bool))=>JiF p1_ rest_1 out_41 y.1 y.2)
def G7:((List Aa)×Bool×Int)->St:=(λ (x:((List Aa)×Bool×Int))=>JiE p1_ rest_1 out_41 x.1 x.2.1 x.2.2)
def MO:(List Aa)->Ex->St->Prop:=xX 0 2 (λ (y:(List Aa))=>JiD p1_ rest_1 out_41 y)
def G8:((List Aa)×Bool)->St:=(λ (x:((List Aa)×Bool))=>JiC p1_ rest_1 out_41 x.1 x.2)
def JiH:St:=⟨(1,.d (.int .i64 p1_))::(5,.osl 0 2 0 (rest_1.length))::(6,.osl 1 1 0 (out_41.length))::(7,.osl 2 2 0 (y92.length))::(10,.osl 3 2 0 (left_1.length))::(11,.d (.int .i64 i_26))::[],[some (.arr 2 (rest_1.map Ac)),some (.arr 1 (out_41.map (eL Ac))),some (.arr 2 (y92.map Ac)),some (.arr 2 (left_1.map Ac))]⟩
def Je5:St:=⟨(1,.d (.int .i64 p1_))::(6,.osl 0 1 0 (out_41.length))::(7,.osl 1 2 0 (y92.length))::(10,.osl 2 2 0 (left_2.length))::[],[some (.arr 1 (out_41.map (eL Ac))),some (.arr 2 (y92.map Ac)),some (.arr 2 (left_2.map Ac))]⟩
def Je6:St:=⟨(1,.d (.int .i64 p1_))::(5,.osl 0 2 0 (rest_1.length))::(6,.osl 1 1 0 (out_41.length))::(7,.osl 2 2 0 (y92.length))::(10,.osl 3 2 0 (left_3.length))::(11,.d (.int .i64 i_26))::[],[some (.arr 2 (rest_1.map Ac)),some (.arr 1 (out_41.map (eL Ac))),some (.arr 2 (y92.map Ac)),some (.arr 2 (left_3.map Ac))]⟩
def MP:(List Aa)->Ex->St->Prop:=xX 0 6 (λ (y:(List Aa))=>Je5 p1_ out_41 y92 y)
def G9:((List Aa)×Int)->St:=(λ (x:((List Aa)×Int))=>JiH p1_ rest_1 out_41 y92 x.1 x.2)
def MQ:(List (List Aa))->Ex->St->Prop:=xX 0 0 (λ (y:(List (List Aa)))=>JiB y)
def Ha:((List Aa)×(List (List Aa)))->St:=(λ (x:((List Aa)×(List (List Aa))))=>JiA p1_ x.1 x.2)
variable {p0_ p1_ rest_1 out_41 out_42 one_1 grown_1 one_2 one_3 grown_2 i_25 one_4 grown_3 one_5 grown_4 y92 left_1 i_26 left_2 left_3}
theorem LL (x:((List Aa)×Bool×Int)) (z:(((List Aa)×Bool×Int)⊕((List Aa)×Bool))) (H:Dn n p1_ rest_1 out_41 x.1 x.2.1 x.2.2=some z):WP (cxk 82 0) (Av Tryz.f96) [1,1,0,0,0,1,0,1,0,1,0,0,1,0,1,1,0,0] (As 0 (G7 p1_ rest_1 out_41) (MN p1_ rest_1 out_41) z) (G7 p1_ rest_1 out_41 x):=by
 obtain ⟨one_3,grown_2,i_25⟩:=x
 refine sq (sr (ck 4 (en (cn H (λ H=>?_) (λ H=>?_)))))
 ·refine sk (qz (sj (λ (x:((List Aa)×Bool))=>JiG p1_ rest_1 out_41 i_25 x.1 x.2) (λ (x:((List Aa)×Bool))=>Fa n i_25 x.1 x.2) z ?_ (λ hFR12_Clusters_J1=>?_)))
  ·rintro ⟨one_5,grown_4⟩ H
   exact rz (ck 3 (ae (by cases H;exact og (sg [1,5,6,7,8,9]))))
  refine bk 5 (sr (ck 3 (bx H λ x77 h295 H=>sp (Bm 0 2 h295) (sp (B4 Ac 0 0 (ty 124) h295) (bx H λ r116 h296 H=>cb (ks:=[2]) (obl:=[(0+List.length one_3,List.length (one_3.map Ac))]) false (leK leM (leZ)) (Cy F4 (Cy rfl rfl)) (KP h296) (Or.inr trivial) rfl (ck 6 (gc 1 (!r116) (bx H λ l33 h297 H=>sE (λ hg=>Mx 0 2 (A5 h297 hg)) (bx H λ r117 h298 H=>cGg (ks:=[2,0]) (obl:=[(0+List.length one_3,List.length (one_3.map Ac)),((0+Int.toNat i_25)+(Int.toNat (Ak .i64 i_25 1)-Int.toNat i_25),List.length (rest_1.map Ac))]) false (λ hg=>leK leM (leK (Uq (enc:=Ac) (A5 h297 hg)) (leZ))) (λ hg=>(Cy F4 (Cy (JkL (QG (A5 h297 hg))) rfl))) (λ hg=>Cc (A5 h298 hg)) (Or.inr trivial) (BU (λ hh=>hh) (BU (λ hh=>hh) (CY))) rfl (ck 1 (gc 1 (!r116) (pA (en (cn H (λ H=>?_) (λ H=>?_)))))))))))))))
  ·exact sr (ck 3 (bx H λ x78 h299 H=>sp (Bm 0 2 h299) (sp (B4 Ac 0 0 (ty 124) h299) (ck 1 (bx H λ l34 h300 H=>sp (A6 Ac 2 2 h300) (ck 1 (en (rz (ck 1 (ae (qN (qs (sg [1,5,6,7,8,9]) (hFR12_Clusters_J1 (l34,true) H)))))))))))))
  ·exact sk (qN (qs (sg [1,5,6,7,8,9]) (hFR12_Clusters_J1 (one_3,grown_2) H)))
 ·exact ex 4 (qx (by cases H;exact xo rfl (sg [1,5,6,7,8])))
theorem LM (x:((List Aa)×Bool)) (z:(((List Aa)×Bool)⊕(List Aa))) (H:Fb n p1_ rest_1 out_41 x.1 x.2=some z):WP (cxk 82 0) (Av Tryz.f96) [1,1,0,0,0,1,0,1,0,1,0,0] (As 0 (G8 p1_ rest_1 out_41) (MO p1_ rest_1 out_41) z) (G8 p1_ rest_1 out_41 x):=by
 obtain ⟨one_1,grown_1⟩:=x
 refine sq (sr (ck 1 (en (cn H (λ H=>?_) (λ H=>?_)))))
 ·exact sk (qz (bk 3 (sr (ck 1 (en (sr (ck 1 (en (bk 4 (bx H λ y91 h301 H=>lX LL h301 (sg [1,5,6,7,8,9]) rfl λ s hE69=>qH (qN (by cases H;exact og (tr (hE69) (sg [1,5,6,7,8]))))))))))))))
 ·exact ex 2 (qx (by cases H;exact xo rfl (sg [1,5,6,7])))
theorem LO (x:((List Aa)×Int)) (z:(((List Aa)×Int)⊕(List Aa))) (H:Do n p1_ rest_1 out_41 y92 x.1 x.2=some z):WP (cxk 82 0) (Av Tryz.f96) [1,1,0,0,0,1,0,1,1,1,0,1,0,0] (As 0 (G9 p1_ rest_1 out_41 y92) (MP p1_ out_41 y92) z) (G9 p1_ rest_1 out_41 y92 x):=by
 obtain ⟨left_1,i_26⟩:=x
 refine sq (sr (ck 4 (en (cn H (λ H=>?_) (λ H=>?_)))))
 ·refine sk (qz (sj (λ (x:(List Aa))=>Je6 p1_ rest_1 out_41 y92 i_26 x) (λ (x:(List Aa))=>Fd n i_26 x) z ?_ (λ hFR12_Clusters_J2=>?_)))
  ·intro left_3 H
   exact rz (ck 3 (ae (by cases H;exact og (sg [1,5,6,7,10,11]))))
  refine bk 7 (sr (ck 3 (bx H λ x79 h303 H=>sp (Bm 0 2 h303) (sp (B4 Ac 0 0 (ty 124) h303) (bx H λ r118 h304 H=>cb (ks:=[2]) (obl:=[(0+List.length y92,List.length (y92.map Ac))]) false (leK leM (leZ)) (Cy F4 (Cy rfl rfl)) (KP h304) (Or.inr trivial) rfl (ck 1 (en (cn H (λ H=>?_) (λ H=>?_)))))))))
  ·exact rz (ck 3 (bx H λ x80 h305 H=>sp (Bm 0 2 h305) (sp (B4 Ac 0 0 (ty 124) h305) (ck 1 (bx H λ l35 h306 H=>sp (A6 Ac 3 2 h306) (ck 1 (ae (qN (qs (sg [1,5,6,7,10,11]) (hFR12_Clusters_J2 l35 H))))))))))
  ·exact sk (qN (qs (sg [1,5,6,7,10,11]) (hFR12_Clusters_J2 left_1 H)))
 ·exact ex 6 (qx (by cases H;exact xo rfl (sg [1,6,7,10])))
theorem LP (x:((List Aa)×(List (List Aa)))) (z:(((List Aa)×(List (List Aa)))⊕(List (List Aa)))) (H:Fe n p1_ x.1 x.2=some z):WP (cxk 82 0) (Av Tryz.f96) [1,1,0,0,0] (As 0 (Ha p1_) (MQ) z) (Ha p1_ x):=by
 obtain ⟨rest_1,out_41⟩:=x
 refine sq (sr (ck 3 (en (cn H (λ H=>?_) (λ H=>?_)))))
 ·exact sk (qz (bk 1 (sr (ck 1 (bx H λ x76 h294 H=>sp (Bm 0 2 h294) (sp (B4 Ac 0 0 (ty 124) h294) (ck 2 (en (sq (sr (ck 1 (en (bk 2 (bx H λ y92 h302 H=>lX LM h302 (sg [1,5,6,7,8]) rfl λ s hE70=>qH (qs (hE70) (sr (ck 2 (en (sq (sr (ck 1 (en (bk 6 (bx H λ y93 h307 H=>lX LO h307 (sg [1,5,6,7,10,11]) rfl λ s hE71=>qH (qs (hE71) (rz (ck 3 (bx H λ r119 h308 H=>cb (ks:=[1]) (obl:=[(0+List.length y92,List.length (y92.map Ac))]) false (leK leM (leZ)) (Cy F4 rfl) (KQ h308) (Or.inr (JdF λ _=>rfl)) rfl (ck 1 (bx H λ l36 h309 H=>sp (A6 (eL Ac) 0 1 h309) (ck 2 (ae (qN (by cases H;exact og (sg [1,5,6])))))))))))))))))))))))))))))))))))
 ·exact ex 0 (qx (by cases H;exact xo rfl (sg [6])))
theorem O9 {z} (H:H3 n p0_ p1_=some z):Aq Tryz.prog 96 [.d (.sl (p0_.map Ac)),.d (.int .i64 p1_)] (.own 1 (z.map (eL Ac))):=by
 exact fO 82 (Jiz p0_ p1_) Tryz.func96 (sr (ck 1 (en (sr (ck 1 (bx H λ r115 h293 H=>cl [List.length r115] (KQ h293) (ck 3 (en (sq (bk 0 (bx H λ y94 h310 H=>lX LP h310 (sg [1,5,6]) rfl λ s hE72=>qH (qs (hE72) (sr (ck 2 (en (re (by cases H;exact pr (rO (v:=.osl 0 1 0 (z.length)) [0] (ao vo)))))))))))))))))))
end
section
variable (p0_:Ag) (r121:(List (List Aa))) (r122:(List (List Int))) (i_27:Int) (i_28:Int) (k_14:Int)
def JiI:St:=⟨(0,.agg [.d (.int .i64 p0_.W),.d (.int .i64 p0_.H),.d (.int .i64 p0_.Gap),.d (.sl (p0_.F.map Aw))])::[],[]⟩
def JiJ:St:=⟨(1,.ptr 0 0)::(2,.ptr 1 0)::(3,.d (.sl (r121.map (eL Ac))))::(4,.d (.sl (r122.map (eL A1))))::(5,.d (.int .i64 i_27))::[],[some (.box (AG p0_)),some (.box [.d (.int .i64 0),.d (.int .i64 0),.d (.int .i64 0)])]⟩
def JiK:St:=⟨(1,.ptr 0 0)::(2,.ptr 1 0)::(3,.d (.sl (r121.map (eL Ac))))::(4,.d (.sl (r122.map (eL A1))))::[],[some (.box (AG p0_)),some (.box [.d (.int .i64 0),.d (.int .i64 0),.d (.int .i64 0)])]⟩
def Qh:(Unit⊕Cn)->Ex->St->Prop:=xS (xX 0 0 (λ (y:Unit)=>JiK p0_ r121 r122)) (xR ty Tryz.f83 (λ (y:Cn)=>.agg [.d (.int .i64 y.I),.d (.int .i64 y.J),.d (.int .i64 y.E)]))
def JO:Int->St:=(λ (x:Int)=>JiJ p0_ r121 r122 x)
def JiL:St:=⟨(1,.ptr 0 0)::(2,.ptr 1 0)::(3,.d (.sl (r121.map (eL Ac))))::(4,.d (.sl (r122.map (eL A1))))::(6,.d (.int .i64 i_28))::[],[some (.box (AG p0_)),some (.box [.d (.int .i64 0),.d (.int .i64 0),.d (.int .i64 0)])]⟩
def JiM:St:=⟨(2,.ptr 0 0)::[],[some (.box [.d (.int .i64 0),.d (.int .i64 0),.d (.int .i64 0)])]⟩
def JiN:St:=⟨(1,.ptr 0 0)::(2,.ptr 1 0)::(3,.d (.sl (r121.map (eL Ac))))::(4,.d (.sl (r122.map (eL A1))))::(6,.d (.int .i64 i_28))::(7,.d (.int .i64 k_14))::[],[some (.box (AG p0_)),some (.box [.d (.int .i64 0),.d (.int .i64 0),.d (.int .i64 0)])]⟩
def JiO:St:=⟨(1,.ptr 0 0)::(2,.ptr 1 0)::(3,.d (.sl (r121.map (eL Ac))))::(4,.d (.sl (r122.map (eL A1))))::(6,.d (.int .i64 i_28))::[],[some (.box (AG p0_)),some (.box [.d (.int .i64 0),.d (.int .i64 0),.d (.int .i64 0)])]⟩
def Qi:(Unit⊕Cn)->Ex->St->Prop:=xS (xX 0 4 (λ (y:Unit)=>JiO p0_ r121 r122 i_28)) (xR ty Tryz.f83 (λ (y:Cn)=>.agg [.d (.int .i64 y.I),.d (.int .i64 y.J),.d (.int .i64 y.E)]))
def JP:Int->St:=(λ (x:Int)=>JiN p0_ r121 r122 i_28 x)
def Qj:(Unit⊕Cn)->Ex->St->Prop:=xS (xX 0 2 (λ (y:Unit)=>JiM)) (xR ty Tryz.f83 (λ (y:Cn)=>.agg [.d (.int .i64 y.I),.d (.int .i64 y.J),.d (.int .i64 y.E)]))
def JQ:Int->St:=(λ (x:Int)=>JiL p0_ r121 r122 x)
variable {p0_ r121 r122 i_27 i_28 k_14}
theorem IL (x:Int) (z:(Int⊕(Unit⊕Cn))) (H:Fn n p0_ r121 r122 x=some z):WP (cxk 62 0) (Av Tryz.f83) [1,1,1,0,1,0,0] (As 0 (JO p0_ r121 r122) (Qh p0_ r121 r122) z) (JO p0_ r121 r122 x):=by
 revert H
 generalize x=i_27
 intro H
 refine sq (sr (ck 2 (sp (Au (eL Ac) r121) (ck 1 (en (cn H (λ H=>?_) (λ H=>?_)))))))
 ·refine sk (qz (sq (bk 1 (sr (ck 2 (bx H λ x81 h314 H=>sp (Aj (eL Ac) h314) (ck 3 (bx H λ r123 h315 H=>ca false (O9 h315) (sp (Au (eL Ac) r123) (ck 1 (en (cn H (λ H=>?_) (λ H=>?_)))))))))))))
  ·exact sr (ck 4 (en (re (qR (qr (by cases H;exact ro rfl rd))))))
  ·exact sk (qN (qz (rz (ck 3 (ae (by cases H;exact og (sg [1,2,3,4,5])))))))
 ·exact ex 0 (qx (by cases H;exact xo rfl (sg [1,2,3,4])))
theorem IM (x:Int) (z:(Int⊕(Unit⊕Cn))) (H:H4 n p0_ r121 r122 i_28 x=some z):WP (cxk 62 0) (Av Tryz.f83) [1,1,1,1,0,1,0,0,1,0,0,1,0,0] (As 0 (JP p0_ r121 r122 i_28) (Qi p0_ r121 r122 i_28) z) (JP p0_ r121 r122 i_28 x):=by
 revert H
 generalize x=k_14
 intro H
 refine sq (sr (ck 2 (sp (Au (eL Ac) r121) (ck 1 (en (cn H (λ H=>?_) (λ H=>?_)))))))
 ·refine sk (qz (sq (bk 5 (sr (ck 2 (bx H λ x82 h317 H=>sp (Aj (eL A1) h317) (ck 2 (bx H λ x83 h318 H=>sp (Aj A1 h318) (ck 4 (en (cn H (λ H=>?_) (λ H=>?_))))))))))))
  ·exact sr (ck 4 (en (re (qR (qr (by cases H;exact ro rfl rd))))))
  ·exact sk (qN (qz (rz (ck 3 (ae (by cases H;exact og (sg [1,2,3,4,6,7])))))))
 ·exact ex 4 (qx (by cases H;exact xo rfl (sg [1,2,3,4,6])))
theorem IN (x:Int) (z:(Int⊕(Unit⊕Cn))) (H:Dy n p0_ r121 r122 x=some z):WP (cxk 62 0) (Av Tryz.f83) [1,1,1,1,0,1,0,0] (As 0 (JQ p0_ r121 r122) (Qj) z) (JQ p0_ r121 r122 x):=by
 revert H
 generalize x=i_28
 intro H
 refine sq (sr (ck 2 (sp (Au (eL Ac) r121) (ck 1 (en (cn H (λ H=>?_) (λ H=>?_)))))))
 ·refine sk (qz (sq (bk 3 (sr (ck 3 (en (bk 4 (bx H λ y98 h319 H=>?_))))))))
  rcases y98 with y99|y100
  ·exact lX IM h319 (sg [1,2,3,4,6,7]) rfl λ s hE74=>qH (qN (qs (hE74) (rz (ck 3 (ae (by cases H;exact og (sg [1,2,3,4,6])))))))
  ·exact lR IM h319 (sg [1,2,3,4,6,7]) rfl λ s hE75=>qR (qR (qr (by cases H;exact ro rfl hE75)))
 ·exact ex 2 (qx (by cases H;exact xo rfl (sg [2])))
theorem S6 {z} (H:MB n p0_=some z):Aq Tryz.prog 83 [.agg (AG p0_)] (.agg [.d (.int .i64 z.I),.d (.int .i64 z.J),.d (.int .i64 z.E)]):=by
 refine fO 62 (JiI p0_) Tryz.func83 (sr (ck 2 (en (sq (sr (ck 1 (bx H λ r120 h311 H=>ca false (Mh h311) (ck 1 (en (cn H (λ H=>?_) (λ H=>?_)))))))))))
 ·exact sr (ck 2 (en (re (qr (by cases H;exact pr rd)))))
 ·refine sk (qz (sr (ck 1 (bx H λ r121 h312 H=>ca false (G4 h312) (ck 1 (bx H λ r122 h313 H=>ca false (NS h313) (ck 2 (en (sq (sr (ck 1 (en (bk 0 (bx H λ y95 h316 H=>?_))))))))))))))
  rcases y95 with y96|y97
  ·refine lX IL h316 (sg [1,2,3,4,5]) rfl λ s hE73=>qH (qs (hE73) (sq (sr (ck 1 (en (bk 2 (bx H λ y101 h320 H=>?_)))))))
   rcases y101 with y102|y103
   ·exact lX IN h320 (sg [1,2,3,4,6]) rfl λ s hE76=>qH (qs (hE76) (sr (ck 2 (en (re (by cases H;exact pr rd))))))
   ·exact lR IN h320 (sg [1,2,3,4,6]) rfl λ s hE77=>qR (qr (by cases H;exact pr hE77))
  ·exact lR IL h316 (sg [1,2,3,4,5]) rfl λ s hE78=>qR (qr (by cases H;exact pr hE78))
end
section
variable (p0_:Int)
def Je7:St:=⟨(0,.d (.int .i64 p0_))::[],[]⟩
variable {p0_}
theorem S7 {z} (H:Ff n p0_=some z):Aq Tryz.prog 120 [.d (.int .i64 p0_)] (.own 1 (z.map eU8)):=by
 exact fO 8 (Je7 p0_) Tryz.func120 (sr (ck 1 (en (sr (ck 2 (bx H λ x84 h321 H=>sp (Bm 0 1 h321) (sp (B4 eU8 0 0 (ty 184) h321) (ck 2 (en (re (by cases H;exact pr (rO (v:=.osl 1 1 0 (List.length [60,x84])) [1] (ao vo)))))))))))))
end
section
variable (p0_:Int) (p1_:Aa) (r124:(List Int)) (out_43:(List Aa)) (r_1:Int) (out_44:(List Aa)) (out_45:(List Aa)) (k_15:Int) (out_46:(List Aa)) (out_47:(List Aa))
def Je8:St:=⟨(0,.d (.int .i64 p0_))::(1,.agg [.d (.int .i64 p1_.X),.d (.int .i64 p1_.Y)])::[],[]⟩
def Je9:St:=⟨(3,.ptr 0 0)::(5,.osl 1 2 0 (out_43.length))::(6,.d (.sl (r124.map eU8)))::(7,.d (.int .i64 r_1))::[],[some (.box [.d (.int .i64 p1_.X),.d (.int .i64 p1_.Y)]),some (.arr 2 (out_43.map Ac))]⟩
def Jfa:St:=⟨(5,.osl 0 2 0 (out_44.length))::[],[some (.arr 2 (out_44.map Ac))]⟩
def Jfb:St:=⟨(3,.ptr 0 0)::(5,.osl 1 2 0 (out_45.length))::(6,.d (.sl (r124.map eU8)))::(7,.d (.int .i64 r_1))::(8,.d (.int .i64 k_15))::[],[some (.box [.d (.int .i64 p1_.X),.d (.int .i64 p1_.Y)]),some (.arr 2 (out_45.map Ac))]⟩
def Jfc:St:=⟨(3,.ptr 0 0)::(5,.osl 1 2 0 (out_46.length))::(6,.d (.sl (r124.map eU8)))::(7,.d (.int .i64 r_1))::[],[some (.box [.d (.int .i64 p1_.X),.d (.int .i64 p1_.Y)]),some (.arr 2 (out_46.map Ac))]⟩
def Jfd:St:=⟨(3,.ptr 0 0)::(5,.osl 1 2 0 (out_47.length))::(6,.d (.sl (r124.map eU8)))::(7,.d (.int .i64 r_1))::(8,.d (.int .i64 k_15))::[],[some (.box [.d (.int .i64 p1_.X),.d (.int .i64 p1_.Y)]),some (.arr 2 (out_47.map Ac))]⟩
def Pa:(List Aa)->Ex->St->Prop:=xX 0 2 (λ (y:(List Aa))=>Jfc p1_ r124 r_1 y)
def IP:((List Aa)×Int)->St:=(λ (x:((List Aa)×Int))=>Jfb p1_ r124 r_1 x.1 x.2)
def Pb:(List Aa)->Ex->St->Prop:=xX 0 0 (λ (y:(List Aa))=>Jfa y)
def IQ:((List Aa)×Int)->St:=(λ (x:((List Aa)×Int))=>Je9 p1_ r124 x.1 x.2)
variable {p0_ p1_ r124 out_43 r_1 out_44 out_45 k_15 out_46 out_47}
theorem NV (x:((List Aa)×Int)) (z:(((List Aa)×Int)⊕(List Aa))) (H:CB n p1_ r124 r_1 x.1 x.2=some z):WP (cxk 48 0) (Av Tryz.f110) [1,1,0,1,0,0,1,0,0,1,0,0] (As 0 (IP p1_ r124 r_1) (Pa p1_ r124 r_1) z) (IP p1_ r124 r_1 x):=by
 obtain ⟨out_45,k_15⟩:=x
 refine sq (sr (ck 2 (en (cn H (λ H=>?_) (λ H=>?_)))))
 ·refine sk (qz (sj (λ (x:(List Aa))=>Jfd p1_ r124 r_1 k_15 x) (λ (x:(List Aa))=>Dc n k_15 x) z ?_ (λ hFR15_Points_J1=>?_)))
  ·intro out_47 H
   exact rz (ck 3 (ae (by cases H;exact og (sg [3,5,6,7,8]))))
  refine bk 3 (sr (ck 3 (bx H λ x85 h323 H=>sp (Aj eU8 h323) (ck 6 (bx H λ gd11 h324 H=>so (Jbj h324) (ck 2 (en (cn H (λ H=>?_) (λ H=>?_)))))))))
  ·exact rz (ck 13 (bx H λ l37 h325 H=>sp (A6 Ac 1 2 h325) (ck 1 (ae (qN (qs (sg [3,5,6,7,8]) (hFR15_Points_J1 l37 H)))))))
  ·exact sk (qN (qs (sg [3,5,6,7,8]) (hFR15_Points_J1 out_45 H)))
 ·exact ex 2 (qx (by cases H;exact xo rfl (sg [3,5,6,7])))
theorem NW (x:((List Aa)×Int)) (z:(((List Aa)×Int)⊕(List Aa))) (H:CC n p1_ r124 x.1 x.2=some z):WP (cxk 48 0) (Av Tryz.f110) [1,1,0,1,0,0] (As 0 (IQ p1_ r124) (Pb) z) (IQ p1_ r124 x):=by
 obtain ⟨out_43,r_1⟩:=x
 refine sq (sr (ck 2 (en (cn H (λ H=>?_) (λ H=>?_)))))
 ·exact sk (qz (sq (bk 1 (sr (ck 1 (en (bk 2 (bx H λ y104 h326 H=>lX NV h326 (sg [3,5,6,7,8]) rfl λ s hE79=>qH (qN (qs (hE79) (rz (ck 3 (ae (by cases H;exact og (sg [3,5,6,7])))))))))))))))
 ·exact ex 0 (qx (by cases H;exact xo rfl (sg [5])))
theorem Dd {z} (H:Cp n p0_ p1_=some z):Aq Tryz.prog 110 [.d (.int .i64 p0_),.agg [.d (.int .i64 p1_.X),.d (.int .i64 p1_.Y)]] (.own 2 (z.map Ac)):=by
 exact fO 48 (Je8 p0_ p1_) Tryz.func110 (sr (ck 2 (en (sr (ck 2 (bx H λ r124 h322 H=>ca false (S7 h322) (ck 2 (en (sq (sr (ck 1 (en (bk 0 (bx H λ y105 h327 H=>lX NW h327 (sg [3,5,6,7]) rfl λ s hE80=>qH (qs (hE80) (sr (ck 2 (en (re (by cases H;exact pr (rO (v:=.osl 0 2 0 (z.length)) [0] (ao vo))))))))))))))))))))))
end
section
variable (p0_:Ag) (p1_:Int) (p2_:Aa) (r125:(List (List Aa))) (r126:(List Aa)) (k_16:Int)
def Jfe:St:=⟨(0,.agg [.d (.int .i64 p0_.W),.d (.int .i64 p0_.H),.d (.int .i64 p0_.Gap),.d (.sl (p0_.F.map Aw))])::(1,.d (.int .i64 p1_))::(2,.agg [.d (.int .i64 p2_.X),.d (.int .i64 p2_.Y)])::[],[]⟩
def Jff:St:=⟨(1,.d (.int .i64 p1_))::(3,.ptr 0 0)::(7,.d (.sl (r125.map (eL Ac))))::(8,.d (.sl (r126.map Ac)))::(9,.d (.int .i64 k_16))::[],[some (.box (AG p0_))]⟩
def Jfg:St:=⟨(1,.d (.int .i64 p1_))::(3,.ptr 0 0)::(7,.d (.sl (r125.map (eL Ac))))::(8,.d (.sl (r126.map Ac)))::[],[some (.box (AG p0_))]⟩
def Sg:(Unit⊕Bool)->Ex->St->Prop:=xS (xX 0 0 (λ (y:Unit)=>Jfg p0_ p1_ r125 r126)) (xR ty Tryz.f109 (λ (y:Bool)=>.d (.bool y)))
def KR:Int->St:=(λ (x:Int)=>Jff p0_ p1_ r125 r126 x)
variable {p0_ p1_ p2_ r125 r126 k_16}
theorem JR (x:Int) (z:(Int⊕(Unit⊕Bool))) (H:Gv n p0_ p1_ r125 r126 x=some z):WP (cxk 76 0) (Av Tryz.f109) [1,1,1,0,1,0,0] (As 0 (KR p0_ p1_ r125 r126) (Sg p0_ p1_ r125 r126) z) (KR p0_ p1_ r125 r126 x):=by
 revert H
 generalize x=k_16
 intro H
 refine sq (sr (ck 2 (sp (Au (eL Ac) r125) (ck 1 (en (cn H (λ H=>?_) (λ H=>?_)))))))
 ·refine sk (qz (sq (bk 1 (sr (ck 3 (bx H λ x86 h330 H=>sp (Aj (eL Ac) h330) (ck 1 (bx H λ r127 h331 H=>ca false (Cc h331) (ck 3 (en (cn H (λ H=>?_) (λ H=>?_))))))))))))
  ·exact sr (ck 1 (en (re (qR (qr (by cases H;exact ro rfl rd))))))
  ·exact sk (qN (qz (rz (ck 3 (ae (by cases H;exact og (sg [1,3,7,8,9])))))))
 ·exact ex 0 (qx (by cases H;exact xo rfl (sg [1,3,7,8])))
theorem UM {z} (H:OJ n p0_ p1_ p2_=some z):Aq Tryz.prog 109 [.agg (AG p0_),.d (.int .i64 p1_),.agg [.d (.int .i64 p2_.X),.d (.int .i64 p2_.Y)]] (.d (.bool z)):=by
 refine fO 76 (Jfe p0_ p1_ p2_) Tryz.func109 (sr (ck 3 (en (sq (sr (ck 5 (gc 2 (!(decide (p2_.X<0))) (pO (ck 2 (gc 2 (!((decide (p2_.X<0))||(decide (p2_.Y<0)))) (pO (ck 2 (gc 2 (!(((decide (p2_.X<0))||(decide (p2_.Y<0)))||(decide (p2_.X>60)))) (pO (ck 2 (gc 3 (!((((decide (p2_.X<0))||(decide (p2_.Y<0)))||(decide (p2_.X>60)))||(decide (p2_.Y>60)))) (ck 1 (gc 2 (!((((decide (p2_.X<0))||(decide (p2_.Y<0)))||(decide (p2_.X>60)))||(decide (p2_.Y>60)))) (pO (ck 2 (gc 3 (!(((((decide (p2_.X<0))||(decide (p2_.Y<0)))||(decide (p2_.X>60)))||(decide (p2_.Y>60)))||(decide (BX .i64 2 (Ak .i64 p2_.X 2)>p0_.W)))) (ck 1 (gc 2 (!(((((decide (p2_.X<0))||(decide (p2_.Y<0)))||(decide (p2_.X>60)))||(decide (p2_.Y>60)))||(decide (BX .i64 2 (Ak .i64 p2_.X 2)>p0_.W)))) (pO (en (cn H (λ H=>?_) (λ H=>?_)))))))))))))))))))))))))))
 ·exact sr (ck 1 (en (re (qr (by cases H;exact pr rd)))))
 ·refine sk (qz (sr (ck 1 (bx H λ r125 h328 H=>ca false (G4 h328) (ck 2 (bx H λ r126 h329 H=>ca false (Dd h329) (ck 2 (en (sq (sr (ck 1 (en (bk 0 (bx H λ y106 h332 H=>?_))))))))))))))
  rcases y106 with y107|y108
  ·exact lX JR h332 (sg [1,3,7,8,9]) rfl λ s hE81=>qH (qs (hE81) (sr (ck 3 (bx H λ x87 h333 H=>sp (Aj (eL Ac) h333) (ck 1 (bx H λ r128 h334 H=>ca false (Cc h334) (ck 5 (en (re (by cases H;exact pr rd))))))))))
  ·exact lR JR h332 (sg [1,3,7,8,9]) rfl λ s hE82=>qR (qr (by cases H;exact pr hE82))
end
section
variable (p0_:Ag) (p1_:Int) (out_48:(List Aa)) (y_3:Int) (out_49:(List Aa)) (out_50:(List Aa)) (x_17:Int) (out_51:(List Aa)) (out_52:(List Aa))
def JiP:St:=⟨(0,.agg [.d (.int .i64 p0_.W),.d (.int .i64 p0_.H),.d (.int .i64 p0_.Gap),.d (.sl (p0_.F.map Aw))])::(1,.d (.int .i64 p1_))::[],[]⟩
def JiQ:St:=⟨(1,.d (.int .i64 p1_))::(2,.ptr 0 0)::(5,.osl 1 2 0 (out_48.length))::(6,.d (.int .i64 y_3))::[],[some (.box (AG p0_)),some (.arr 2 (out_48.map Ac))]⟩
def JiR:St:=⟨(5,.osl 0 2 0 (out_49.length))::[],[some (.arr 2 (out_49.map Ac))]⟩
def JiS:St:=⟨(1,.d (.int .i64 p1_))::(2,.ptr 0 0)::(5,.osl 1 2 0 (out_50.length))::(6,.d (.int .i64 y_3))::(7,.d (.int .i64 x_17))::[],[some (.box (AG p0_)),some (.arr 2 (out_50.map Ac))]⟩
def JiT:St:=⟨(1,.d (.int .i64 p1_))::(2,.ptr 0 0)::(5,.osl 1 2 0 (out_51.length))::(6,.d (.int .i64 y_3))::[],[some (.box (AG p0_)),some (.arr 2 (out_51.map Ac))]⟩
def JiU:St:=⟨(1,.d (.int .i64 p1_))::(2,.ptr 0 0)::(5,.osl 1 2 0 (out_52.length))::(6,.d (.int .i64 y_3))::(7,.d (.int .i64 x_17))::[],[some (.box (AG p0_)),some (.arr 2 (out_52.map Ac))]⟩
def KT:(List Aa)->Ex->St->Prop:=xX 0 2 (λ (y:(List Aa))=>JiT p0_ p1_ y_3 y)
def FI:((List Aa)×Int)->St:=(λ (x:((List Aa)×Int))=>JiS p0_ p1_ y_3 x.1 x.2)
def KU:(List Aa)->Ex->St->Prop:=xX 0 0 (λ (y:(List Aa))=>JiR y)
def FJ:((List Aa)×Int)->St:=(λ (x:((List Aa)×Int))=>JiQ p0_ p1_ x.1 x.2)
variable {p0_ p1_ out_48 y_3 out_49 out_50 x_17 out_51 out_52}
theorem J3 (x:((List Aa)×Int)) (z:(((List Aa)×Int)⊕(List Aa))) (H:DU n p0_ p1_ y_3 x.1 x.2=some z):WP (cxk 38 0) (Av Tryz.f97) [1,1,0,1,0,0,1,0,0,1,0,0] (As 0 (FI p0_ p1_ y_3) (KT p0_ p1_ y_3) z) (FI p0_ p1_ y_3 x):=by
 obtain ⟨out_50,x_17⟩:=x
 refine sq (sr (ck 6 (en (cn H (λ H=>?_) (λ H=>?_)))))
 ·refine sk (qz (sj (λ (x:(List Aa))=>JiU p0_ p1_ y_3 x_17 x) (λ (x:(List Aa))=>DT n x_17 x) z ?_ (λ hFR15_Candidates_J1=>?_)))
  ·intro out_52 H
   exact rz (ck 3 (ae (by cases H;exact og (sg [1,2,5,6,7]))))
  refine bk 3 (sr (ck 5 (en (sr (ck 3 (bx H λ r129 h335 H=>ca false (UM h335) (en (cn H (λ H=>?_) (λ H=>?_)))))))))
  ·exact rz (ck 3 (bx H λ l38 h336 H=>sp (A6 Ac 1 2 h336) (ck 1 (ae (qN (qs (sg [1,2,5,6,7]) (hFR15_Candidates_J1 l38 H)))))))
  ·exact sk (qN (qs (sg [1,2,5,6,7]) (hFR15_Candidates_J1 out_50 H)))
 ·exact ex 2 (qx (by cases H;exact xo rfl (sg [1,2,5,6])))
theorem J4 (x:((List Aa)×Int)) (z:(((List Aa)×Int)⊕(List Aa))) (H:DV n p0_ p1_ x.1 x.2=some z):WP (cxk 38 0) (Av Tryz.f97) [1,1,0,1,0,0] (As 0 (FJ p0_ p1_) (KU) z) (FJ p0_ p1_ x):=by
 obtain ⟨out_48,y_3⟩:=x
 refine sq (sr (ck 6 (en (cn H (λ H=>?_) (λ H=>?_)))))
 ·exact sk (qz (sq (bk 1 (sr (ck 1 (en (bk 2 (bx H λ y109 h337 H=>lX J3 h337 (sg [1,2,5,6,7]) rfl λ s hE83=>qH (qN (qs (hE83) (rz (ck 3 (ae (by cases H;exact og (sg [1,2,5,6])))))))))))))))
 ·exact ex 0 (qx (by cases H;exact xo rfl (sg [5])))
theorem MR {z} (H:FV n p0_ p1_=some z):Aq Tryz.prog 97 [.agg (AG p0_),.d (.int .i64 p1_)] (.own 2 (z.map Ac)):=by
 exact fO 38 (JiP p0_ p1_) Tryz.func97 (sr (ck 2 (en (sr (ck 2 (en (sq (sr (ck 1 (en (bk 0 (bx H λ y110 h338 H=>lX J4 h338 (sg [1,2,5,6]) rfl λ s hE84=>qH (qs (hE84) (sr (ck 2 (en (re (by cases H;exact pr (rO (v:=.osl 0 2 0 (z.length)) [0] (ao vo))))))))))))))))))))
end
section
variable (p0_:Ag) (o0_:(List Aa)) (o1_:(List (List Aa))) (x_23:(List Aa)) (n_4:Int) (free_5:Bool) (k_19:Int) (free_6:Bool) (rec98k1_:(Ag->(List Aa)->(List (List Aa))->Option (List Aa)))
def JbX:St:=⟨(0,.agg [.d (.int .i64 p0_.W),.d (.int .i64 p0_.H),.d (.int .i64 p0_.Gap),.d (.sl (p0_.F.map Aw))])::(1,.osl 0 2 0 (o0_.length))::(2,.osl 1 1 0 (o1_.length))::[],[some (.arr 2 (o0_.map Ac)),some (.arr 1 (o1_.map (eL Ac)))]⟩
def Sh:St:=⟨(6,.osl 2 2 0 (x_23.length))::[],[none,some (.arr 1 (o1_.map (eL Ac))),some (.arr 2 (x_23.map Ac))]⟩
def JbY:St:=⟨(1,.osl 0 2 0 (o0_.length))::(2,.osl 1 1 0 (o1_.length))::(3,.ptr 2 0)::(7,.d (.int .i64 ((o0_.length:Nat):Int)))::(8,.d (.int .i64 n_4))::[],[some (.arr 2 (o0_.map Ac)),some (.arr 1 (o1_.map (eL Ac))),some (.box (AG p0_))]⟩
def JbZ:St:=⟨[],[some (.arr 2 (o0_.map Ac)),some (.arr 1 (o1_.map (eL Ac)))]⟩
def Jb0:St:=⟨(1,.osl 0 2 0 (o0_.length))::(2,.osl 1 1 0 (o1_.length))::(3,.ptr 2 0)::(7,.d (.int .i64 ((o0_.length:Nat):Int)))::(8,.d (.int .i64 n_4))::[],[some (.arr 2 (o0_.map Ac)),some (.arr 1 (o1_.map (eL Ac))),some (.box (AG p0_))]⟩
def Jb1:St:=⟨(1,.osl 0 2 0 (o0_.length))::(2,.osl 1 1 0 (o1_.length))::(3,.ptr 2 0)::(7,.d (.int .i64 ((o0_.length:Nat):Int)))::(8,.d (.int .i64 n_4))::(9,.d (.bool free_5))::(10,.d (.int .i64 k_19))::[],[some (.arr 2 (o0_.map Ac)),some (.arr 1 (o1_.map (eL Ac))),some (.box (AG p0_))]⟩
def Jb2:St:=⟨(1,.osl 0 2 0 (o0_.length))::(2,.osl 1 1 0 (o1_.length))::(3,.ptr 2 0)::(7,.d (.int .i64 ((o0_.length:Nat):Int)))::(8,.d (.int .i64 n_4))::(9,.d (.bool free_6))::[],[some (.arr 2 (o0_.map Ac)),some (.arr 1 (o1_.map (eL Ac))),some (.box (AG p0_))]⟩
def MS:Bool->Ex->St->Prop:=xX 2 2 (λ (y:Bool)=>Jb2 p0_ o0_ o1_ n_4 y)
def Hb:(Bool×Int)->St:=(λ (x:(Bool×Int))=>Jb1 p0_ o0_ o1_ n_4 x.1 x.2)
def MT:(Unit⊕(List Aa))->Ex->St->Prop:=xS (xX 2 0 (λ (y:Unit)=>JbZ o0_ o1_)) (xL 2 ty Tryz.f98 (λ (y:(List Aa))=>.osl 2 2 0 (y.length)) (λ (y:(List Aa))=>[none,some (.arr 1 (o1_.map (eL Ac))),some (.arr 2 (y.map Ac))]))
def Hc:Int->St:=(λ (x:Int)=>JbY p0_ o0_ o1_ x)
variable {p0_ o0_ o1_ x_23 n_4 free_5 k_19 free_6 rec98k1_}
theorem LQ (x:(Bool×Int)) (z:((Bool×Int)⊕Bool)) (H:Ca n p0_ o0_ o1_ n_4 x.1 x.2=some z):WP (cxk 80 2) (Av Tryz.f98) [1,1,1,0,1,0,0,1,0,0,1,0,1,0,0] (As 2 (Hb p0_ o0_ o1_ n_4) (MS p0_ o0_ o1_ n_4) z) (Hb p0_ o0_ o1_ n_4 x):=by
 obtain ⟨free_5,k_19⟩:=x
 refine sq (sr (ck 3 (en (cn H (λ H=>?_) (λ H=>?_)))))
 ·exact sk (qz (sq (bk 3 (rz (ck 5 (bx H λ x101 h368 H=>sE (λ hg=>Bm 1 1 (A5 h368 hg)) (sE (g:=free_5) (λ hg=>B4 (eL Ac) 1 0 (ty 120) (A5 h368 hg)) (ck 1 (bx H λ x102 h369 H=>sE (λ hg=>Aj Ac (A5 h369 hg)) (gc 1 free_5 (bx H λ r138 h370 H=>cG false (leZ) rfl (λ hg=>Dd (A5 h370 hg)) (Or.inl rfl) (BU (λ hh=>hh) (BU (λ hh=>hh) (CY))) rfl (ck 3 (bx H λ x103 h371 H=>sE (λ hg=>Bm 0 2 (A5 h371 hg)) (sE (g:=free_5) (λ hg=>B4 Ac 0 0 (ty 124) (A5 h371 hg)) (bx H λ r139 h372 H=>cG false (leZ) rfl (λ hg=>Dd (A5 h372 hg)) (Or.inl rfl) (BU (λ hh=>hh) (BU (λ hh=>hh) (CY))) rfl (bx H λ r140 h373 H=>cG false (leZ) rfl (λ hg=>Cc (A5 h373 hg)) (Or.inl rfl) (BU (λ hh=>hh) (BU (λ hh=>hh) (CY))) rfl (ck 1 (gc 2 free_5 (pA (ck 1 (ae (qN (qz (rz (ck 3 (ae (by cases H;exact og (sg [1,2,3,7,8,9,10]))))))))))))))))))))))))))))
 ·exact ex 2 (qx (by cases H;exact xo rfl (sg [1,2,3,7,8,9])))
theorem F9 (hrec98k1_:∀ {p0_:Ag} {o0_:(List Aa)} {o1_:(List (List Aa))} {z:(List Aa)},rec98k1_ p0_ o0_ o1_=some z->BL Tryz.prog 98 [.agg (AG p0_),.osl 0 2 0 (o0_.length),.osl 1 1 0 (o1_.length)] [some (.arr 2 (o0_.map Ac)),some (.arr 1 (o1_.map (eL Ac)))] 2 (.osl 2 2 0 (z.length)) [none,some (.arr 1 (o1_.map (eL Ac))),some (.arr 2 (z.map Ac))]) (x:Int) (z:(Int⊕(Unit⊕(List Aa)))) (H:BN n rec98k1_ p0_ o0_ o1_ x=some z):WP (cxk 80 2) (Av Tryz.f98) [1,1,1,0,1,0,0] (As 2 (Hc p0_ o0_ o1_) (MT o0_ o1_) z) (Hc p0_ o0_ o1_ x):=by
 revert H
 generalize x=n_4
 intro H
 refine sq (sr (ck 3 (bx H λ x100 h367 H=>sp (Bm 1 1 h367) (sp (B4 (eL Ac) 1 0 (ty 120) h367) (sp (Au Ac x100) (ck 1 (en (cn H (λ H=>?_) (λ H=>?_)))))))))
 ·refine sk (qz (sj (λ (x:Unit)=>Jb0 p0_ o0_ o1_ n_4) (λ (x:Unit)=>CD n n_4) z ?_ (λ hFR15_searchxx_J1=>?_)))
  ·intro _ H
   exact rz (ck 3 (ae (by cases H;exact og (sg [1,2,3,7,8]))))
  refine bk 1 (sr (ck 1 (en (sq (sr (ck 1 (en (bk 2 (bx H λ y119 h374 H=>lX LQ h374 (sg [1,2,3,7,8,9,10]) rfl λ s hE91=>qH (qs (hE91) (sq (sr (ck 2 (en (cn H (λ H=>?_) (λ H=>?_))))))))))))))))
  ·exact ex 1 (qx (qH (qs (sg [1,2,3,7,8]) (hFR15_searchxx_J1 () H))))
  ·refine sk (qz (sr (ck 2 (bx H λ l43 h375 H=>sp (A6 Ac 3 2 h375) (ck 1 (en (sq (ry 12 (.refl _) (ck 4 (bx H λ x104 h376 H=>sp (Bm 1 1 h376) (sp (B4 (eL Ac) 1 0 (ty 120) h376) (ck 1 (bx H λ x105 h377 H=>sp (Aj Ac h377) (ck 2 (bx H λ l44 h378 H=>sp (A6 Ac 4 2 h378) (ck 1 (my (bx H λ r141 h379 H=>lt [6,1] (hrec98k1_ h379) (nx 14 13 (mx (ck 1 (nz (qz (sr (ck 5 (en (cn H (λ H=>?_) (λ H=>?_))))))))))))))))))))))))))))
   ·exact sr (ck 2 (en (re (qR (qr (by cases H;exact lo rfl (rl (s':=Sh o1_ r141) (tr (Ur 0 rfl) (sg [6])))))))))
   ·exact sk (qN (qs (sg [1,2,3,7,8]) (hFR15_searchxx_J1 () H)))
 ·exact ex 0 (qx (by cases H;exact xo rfl (sg [])))
theorem MU {z} (hrec98k1_:∀ {p0_:Ag} {o0_:(List Aa)} {o1_:(List (List Aa))} {z:(List Aa)},rec98k1_ p0_ o0_ o1_=some z->BL Tryz.prog 98 [.agg (AG p0_),.osl 0 2 0 (o0_.length),.osl 1 1 0 (o1_.length)] [some (.arr 2 (o0_.map Ac)),some (.arr 1 (o1_.map (eL Ac)))] 2 (.osl 2 2 0 (z.length)) [none,some (.arr 1 (o1_.map (eL Ac))),some (.arr 2 (z.map Ac))]) (H:Bb n rec98k1_ p0_ o0_ o1_=some z):BL Tryz.prog 98 [.agg (AG p0_),.osl 0 2 0 (o0_.length),.osl 1 1 0 (o1_.length)] [some (.arr 2 (o0_.map Ac)),some (.arr 1 (o1_.map (eL Ac)))] 2 (.osl 2 2 0 (z.length)) [none,some (.arr 1 (o1_.map (eL Ac))),some (.arr 2 (z.map Ac))]:=by
 refine fL 80 2 (JbX p0_ o0_ o1_) Tryz.func98 (sr (ck 2 (en (sr (ck 3 (en (sq (sr (ck 4 (en (cn H (λ H=>?_) (λ H=>?_))))))))))))
 ·exact sr (ck 2 (en (re (qr (by cases H;exact pL (rl (s':=Sh o1_ o0_) (tr (XF (k:=0) (sz:=2) 6 (o0_.map Ac) (o0_.length) (by kernel_rfl) FE leM rfl) (sg [6]))))))))
 ·refine sk (qz (sq (sr (ck 1 (en (bk 0 (bx H λ y120 h380 H=>?_)))))))
  rcases y120 with y121|y122
  ·exact lX (F9 hrec98k1_) h380 (sg [1,2,3,7,8]) rfl λ s hE92=>qH (qs (hE92) (sr (ck 1 (en (re (by cases H;exact pL (rl (s':=Sh o1_ ([]:List Aa)) (tr (tr (AR.nilo 6 2 (by kernel_rfl)) (Ur 0 rfl)) (sg [6])))))))))
  ·exact lL (F9 hrec98k1_) h380 (sg [1,2,3,7,8]) rfl λ s hE93=>qR (qr (by cases H;exact pL hE93))
end
section
variable (p0_:Ag) (o0_:(List Aa)) (o1_:(List (List Aa)))
variable {p0_ o0_ o1_}
theorem Pc {z} (H:H5 n p0_ o0_ o1_=some z):BL Tryz.prog 98 [.agg (AG p0_),.osl 0 2 0 (o0_.length),.osl 1 1 0 (o1_.length)] [some (.arr 2 (o0_.map Ac)),some (.arr 1 (o1_.map (eL Ac)))] 2 (.osl 2 2 0 (z.length)) [none,some (.arr 1 (o1_.map (eL Ac))),some (.arr 2 (z.map Ac))]:=by
  have key:∀ (d:Nat) {p0_:Ag} {o0_:(List Aa)} {o1_:(List (List Aa))} {z:(List Aa)},JZ (λ _ _ _=>none) (Bb n) d p0_ o0_ o1_=some z->BL Tryz.prog 98 [.agg (AG p0_),.osl 0 2 0 (o0_.length),.osl 1 1 0 (o1_.length)] [some (.arr 2 (o0_.map Ac)),some (.arr 1 (o1_.map (eL Ac)))] 2 (.osl 2 2 0 (z.length)) [none,some (.arr 1 (o1_.map (eL Ac))),some (.arr 2 (z.map Ac))]:=by
    intro d
    induction d with
    | zero=>intro _ _ _ _ H;cases H
    | succ d ih=>intro _ _ _ _ H;exact MU (λ h=>ih h) H
  exact key n H
end
section
variable (p0_:Ag) (o0_:(List (List Aa))) (x_26:(List Aa)) (n_5:Int) (free_7:Bool) (k_20:Int) (free_8:Bool) (rec98k2_:(Ag->(List (List Aa))->Option (List Aa)))
def Jb3:St:=⟨(0,.agg [.d (.int .i64 p0_.W),.d (.int .i64 p0_.H),.d (.int .i64 p0_.Gap),.d (.sl (p0_.F.map Aw))])::(1,.d (.nil))::(2,.osl 0 1 0 (o0_.length))::[],[some (.arr 1 (o0_.map (eL Ac)))]⟩
def Si:St:=⟨(6,.osl 1 2 0 (x_26.length))::[],[some (.arr 1 (o0_.map (eL Ac))),some (.arr 2 (x_26.map Ac))]⟩
def Jb4:St:=⟨(1,.osl 1 2 0 (List.length ([]:List Aa)))::(2,.osl 0 1 0 (o0_.length))::(3,.ptr 2 0)::(7,.d (.int .i64 0))::(8,.d (.int .i64 n_5))::[],[some (.arr 1 (o0_.map (eL Ac))),some (.arr 2 (List.map Ac ([]:List Aa))),some (.box (AG p0_))]⟩
def Jb5:St:=⟨[],[some (.arr 1 (o0_.map (eL Ac)))]⟩
def Jb6:St:=⟨(1,.osl 1 2 0 (List.length ([]:List Aa)))::(2,.osl 0 1 0 (o0_.length))::(3,.ptr 2 0)::(7,.d (.int .i64 0))::(8,.d (.int .i64 n_5))::[],[some (.arr 1 (o0_.map (eL Ac))),some (.arr 2 (List.map Ac ([]:List Aa))),some (.box (AG p0_))]⟩
def Jb7:St:=⟨(1,.osl 1 2 0 (List.length ([]:List Aa)))::(2,.osl 0 1 0 (o0_.length))::(3,.ptr 2 0)::(7,.d (.int .i64 0))::(8,.d (.int .i64 n_5))::(9,.d (.bool free_7))::(10,.d (.int .i64 k_20))::[],[some (.arr 1 (o0_.map (eL Ac))),some (.arr 2 (List.map Ac ([]:List Aa))),some (.box (AG p0_))]⟩
def Jb8:St:=⟨(1,.osl 1 2 0 (List.length ([]:List Aa)))::(2,.osl 0 1 0 (o0_.length))::(3,.ptr 2 0)::(7,.d (.int .i64 0))::(8,.d (.int .i64 n_5))::(9,.d (.bool free_8))::[],[some (.arr 1 (o0_.map (eL Ac))),some (.arr 2 (List.map Ac ([]:List Aa))),some (.box (AG p0_))]⟩
def LR:Bool->Ex->St->Prop:=xX 1 2 (λ (y:Bool)=>Jb8 p0_ o0_ n_5 y)
def Ga:(Bool×Int)->St:=(λ (x:(Bool×Int))=>Jb7 p0_ o0_ n_5 x.1 x.2)
def LS:(Unit⊕(List Aa))->Ex->St->Prop:=xS (xX 1 0 (λ (y:Unit)=>Jb5 o0_)) (xL 1 ty Tryz.f98 (λ (y:(List Aa))=>.osl 1 2 0 (y.length)) (λ (y:(List Aa))=>[some (.arr 1 (o0_.map (eL Ac))),some (.arr 2 (y.map Ac))]))
def Gb:Int->St:=(λ (x:Int)=>Jb4 p0_ o0_ x)
variable {p0_ o0_ x_26 n_5 free_7 k_20 free_8 rec98k2_}
theorem KW (x:(Bool×Int)) (z:((Bool×Int)⊕Bool)) (H:EB n p0_ o0_ n_5 x.1 x.2=some z):WP (cxk 80 1) (Av Tryz.f98) [1,1,1,0,1,0,0,1,0,0,1,0,1,0,0] (As 1 (Ga p0_ o0_ n_5) (LR p0_ o0_ n_5) z) (Ga p0_ o0_ n_5 x):=by
 obtain ⟨free_7,k_20⟩:=x
 refine sq (sr (ck 3 (en (cn H (λ H=>?_) (λ H=>?_)))))
 ·exact sk (qz (sq (bk 3 (rz (ck 5 (bx H λ x107 h382 H=>sE (λ hg=>Bm 0 1 (A5 h382 hg)) (sE (g:=free_7) (λ hg=>B4 (eL Ac) 0 0 (ty 120) (A5 h382 hg)) (ck 1 (bx H λ x108 h383 H=>sE (λ hg=>Aj Ac (A5 h383 hg)) (gc 1 free_7 (bx H λ r142 h384 H=>cG false (leZ) rfl (λ hg=>Dd (A5 h384 hg)) (Or.inl rfl) (BU (λ hh=>hh) (BU (λ hh=>hh) (CY))) rfl (ck 3 (bx H λ x109 h385 H=>sE (λ hg=>Bm 1 2 (A5 h385 hg)) (sE (g:=free_7) (λ hg=>B4 Ac 1 0 (ty 124) (A5 h385 hg)) (bx H λ r143 h386 H=>cG false (leZ) rfl (λ hg=>Dd (A5 h386 hg)) (Or.inl rfl) (BU (λ hh=>hh) (BU (λ hh=>hh) (CY))) rfl (bx H λ r144 h387 H=>cG false (leZ) rfl (λ hg=>Cc (A5 h387 hg)) (Or.inl rfl) (BU (λ hh=>hh) (BU (λ hh=>hh) (CY))) rfl (ck 1 (gc 2 free_7 (pA (ck 1 (ae (qN (qz (rz (ck 3 (ae (by cases H;exact og (sg [1,2,3,7,8,9,10]))))))))))))))))))))))))))))
 ·exact ex 2 (qx (by cases H;exact xo rfl (sg [1,2,3,7,8,9])))
theorem FK (x:Int) (z:(Int⊕(Unit⊕(List Aa)))) (H:C6 n p0_ o0_ x=some z):WP (cxk 80 1) (Av Tryz.f98) [1,1,1,0,1,0,0] (As 1 (Gb p0_ o0_) (LS o0_) z) (Gb p0_ o0_ x):=by
 revert H
 generalize x=n_5
 intro H
 refine sq (sr (ck 3 (bx H λ x106 h381 H=>sp (Bm 0 1 h381) (sp (B4 (eL Ac) 0 0 (ty 120) h381) (sp (Au Ac x106) (ck 1 (en (cn H (λ H=>?_) (λ H=>?_)))))))))
 ·refine sk (qz (sj (λ (x:Unit)=>Jb6 p0_ o0_ n_5) (λ (x:Unit)=>EA n n_5) z ?_ (λ hFR15_searchxxx_J1=>?_)))
  ·intro _ H
   exact rz (ck 3 (ae (by cases H;exact og (sg [1,2,3,7,8]))))
  refine bk 1 (sr (ck 1 (en (sq (sr (ck 1 (en (bk 2 (bx H λ y123 h388 H=>lX KW h388 (sg [1,2,3,7,8,9,10]) rfl λ s hE94=>qH (qs (hE94) (sq (sr (ck 2 (en (cn H (λ H=>?_) (λ H=>?_))))))))))))))))
  ·exact ex 1 (qx (qH (qs (sg [1,2,3,7,8]) (hFR15_searchxxx_J1 () H))))
  ·refine sk (qz (sr (ck 2 (bx H λ l45 h389 H=>sp (A6 Ac 3 2 h389) (ck 1 (en (sq (ry 12 (.refl _) (ck 4 (bx H λ x110 h390 H=>sp (Bm 0 1 h390) (sp (B4 (eL Ac) 0 0 (ty 120) h390) (ck 1 (bx H λ x111 h391 H=>sp (Aj Ac h391) (ck 2 (bx H λ l46 h392 H=>sp (A6 Ac 4 2 h392) (ck 1 (my (bx H λ r145 h393 H=>lt [6,0] (Pc h393) (nx 14 13 (mx (ck 1 (nz (qz (sr (ck 5 (en (cn H (λ H=>?_) (λ H=>?_))))))))))))))))))))))))))))
   ·exact sr (ck 2 (en (re (qR (qr (by cases H;exact lo rfl (rl (s':=Si o0_ r145) (sg [6]))))))))
   ·exact sk (qN (qs (sg [1,2,3,7,8]) (hFR15_searchxxx_J1 () H)))
 ·exact ex 0 (qx (by cases H;exact xo rfl (sg [])))
theorem LT {z} (hrec98k2_:∀ {p0_:Ag} {o0_:(List (List Aa))} {z:(List Aa)},rec98k2_ p0_ o0_=some z->BL Tryz.prog 98 [.agg (AG p0_),.d (.nil),.osl 0 1 0 (o0_.length)] [some (.arr 1 (o0_.map (eL Ac)))] 1 (.osl 1 2 0 (z.length)) [some (.arr 1 (o0_.map (eL Ac))),some (.arr 2 (z.map Ac))]) (H:Cb n rec98k2_ p0_ o0_=some z):BL Tryz.prog 98 [.agg (AG p0_),.d (.nil),.osl 0 1 0 (o0_.length)] [some (.arr 1 (o0_.map (eL Ac)))] 1 (.osl 1 2 0 (z.length)) [some (.arr 1 (o0_.map (eL Ac))),some (.arr 2 (z.map Ac))]:=by
 refine fL 80 1 (Jb3 p0_ o0_) Tryz.func98 (sr (ck 2 (en (sr (ck 3 (en (sq (sr (ck 4 (en (cn H (λ H=>?_) (λ H=>?_))))))))))))
 ·exact sr (ck 2 (en (re (qr (by cases H;exact pL (rl (s':=Si o0_ ([]:List Aa)) (tr (AR.nilo 6 2 (by kernel_rfl)) (sg [6]))))))))
 ·refine sk (qz (sq (sr (ck 1 (en (bk 0 (bx H λ y124 h394 H=>?_)))))))
  rcases y124 with y125|y126
  ·exact lX FK h394 (tr (AR.nilo 1 2 (by kernel_rfl)) (sg [1,2,3,7,8])) rfl λ s hE95=>qH (qs (hE95) (sr (ck 1 (en (re (by cases H;exact pL (rl (s':=Si o0_ ([]:List Aa)) (tr (AR.nilo 6 2 (by kernel_rfl)) (sg [6])))))))))
  ·exact lL FK h394 (tr (AR.nilo 1 2 (by kernel_rfl)) (sg [1,2,3,7,8])) rfl λ s hE96=>qR (qr (by cases H;exact pL hE96))
end
section
variable (p0_:Ag) (o0_:(List (List Aa)))
variable {p0_ o0_}
theorem NX {z} (H:G0 n p0_ o0_=some z):BL Tryz.prog 98 [.agg (AG p0_),.d (.nil),.osl 0 1 0 (o0_.length)] [some (.arr 1 (o0_.map (eL Ac)))] 1 (.osl 1 2 0 (z.length)) [some (.arr 1 (o0_.map (eL Ac))),some (.arr 2 (z.map Ac))]:=by
  have key:∀ (d:Nat) {p0_:Ag} {o0_:(List (List Aa))} {z:(List Aa)},JZ (λ _ _=>none) (Cb n) d p0_ o0_=some z->BL Tryz.prog 98 [.agg (AG p0_),.d (.nil),.osl 0 1 0 (o0_.length)] [some (.arr 1 (o0_.map (eL Ac)))] 1 (.osl 1 2 0 (z.length)) [some (.arr 1 (o0_.map (eL Ac))),some (.arr 2 (z.map Ac))]:=by
    intro d
    induction d with
    | zero=>intro _ _ _ H;cases H
    | succ d ih=>intro _ _ _ H;exact LT (λ h=>ih h) H
  exact key n H
end
section
variable (p0_:Ag) (all_1:(List (List Aa))) (best_1:(List Aa)) (i_29:Int) (best_2:(List Aa))
def JiV:St:=⟨(0,.agg [.d (.int .i64 p0_.W),.d (.int .i64 p0_.H),.d (.int .i64 p0_.Gap),.d (.sl (p0_.F.map Aw))])::[],[]⟩
def JiW:St:=⟨(1,.ptr 0 0)::(2,.ptr 1 0)::(3,.osl 2 1 0 (all_1.length))::(4,.osl 3 2 0 (best_1.length))::(5,.d (.int .i64 i_29))::[],[some (.box (AG p0_)),some (.box [.osl 4 2 0 (List.length ([]:List Aa)),.d (.int .i64 0),.d (.int .i64 0)]),some (.arr 1 (all_1.map (eL Ac))),some (.arr 2 (best_1.map Ac)),some (.arr 2 (List.map Ac ([]:List Aa)))]⟩
def JiX:St:=⟨(2,.ptr 0 0)::(4,.osl 1 2 0 (best_2.length))::[],[some (.box [.osl 2 2 0 (List.length ([]:List Aa)),.d (.int .i64 0),.d (.int .i64 0)]),some (.arr 2 (best_2.map Ac)),some (.arr 2 (List.map Ac ([]:List Aa)))]⟩
def Qk:((List Aa)⊕Jf)->Ex->St->Prop:=xS (xX 0 0 (λ (y:(List Aa))=>JiX y)) (xR ty Tryz.f84 (λ (y:Jf)=>.agg [.own 2 (y.L.map Ac),.d (.int .i64 y.At),.d (.int .i64 y.E)]))
def JS:((List (List Aa))×(List Aa)×Int)->St:=(λ (x:((List (List Aa))×(List Aa)×Int))=>JiW p0_ x.1 x.2.1 x.2.2)
variable {p0_ all_1 best_1 i_29 best_2}
theorem IR (x:((List (List Aa))×(List Aa)×Int)) (z:(((List (List Aa))×(List Aa)×Int)⊕((List Aa)⊕Jf))) (H:Fp n p0_ x.1 x.2.1 x.2.2=some z):WP (cxk 36 0) (Av Tryz.f84) [1,1,0,1,0,0] (As 0 (JS p0_) (Qk) z) (JS p0_ x):=by
 obtain ⟨all_1,best_1,i_29⟩:=x
 refine sq (sr (ck 3 (sp (Au Aw p0_.F) (ck 1 (en (cn H (λ H=>?_) (λ H=>?_)))))))
 ·refine sk (qz (sq (bk 1 (sr (ck 3 (bx H λ r146 h395 H=>ca false (MR h395) (ck 1 (bx H λ l47 h396 H=>sp (A6 (eL Ac) 2 1 h396) (ck 1 (en (sr (ck 2 (bx H λ r147 h397 H=>lt [6] (NX h397) (ck 1 (en (sq (sr (ck 4 (en (cn H (λ H=>?_) (λ H=>?_)))))))))))))))))))))
  ·exact sr (ck 3 (en (re (qr (qR (qr (by cases H;exact ro rfl (rO (v:=.agg [.d (.nil),.d (.int .i64 i_29),.d (.int .i64 150)]) [] (a1 (c1 vz (c1 vd (c1 vd (c0)))))))))))))
  ·exact sk (qz (rz (ck 2 (ae (qN (qz (rz (ck 3 (ae (by cases H;exact og (sg [1,2,3,4,5])))))))))))
 ·exact ex 0 (qx (by cases H;exact xo rfl (sg [2,4])))
theorem S8 {z} (H:MC n p0_=some z):Aq Tryz.prog 84 [.agg (AG p0_)] (.agg [.own 2 (z.L.map Ac),.d (.int .i64 z.At),.d (.int .i64 z.E)]):=by
 refine fO 36 (JiV p0_) Tryz.func84 (sr (ck 2 (en (sr (ck 4 (en (sq (sr (ck 1 (en (bk 0 (bx H λ y127 h398 H=>?_))))))))))))
 rcases y127 with y128|y129
 ·exact lX IR h398 (tr (Bj 1 0 2 (by kernel_rfl)) (sg [1,2,3,4,5])) rfl λ s hE97=>qH (qs (hE97) (sr (ck 5 (en (re (by cases H;exact pr (rO (v:=.agg [.osl 1 2 0 (y128.length),.d (.int .i64 ((y128.length:Nat):Int)),.d (.int .i64 0)]) [1] (a1 (c1 vo (c1 vd (c1 vd (c0))))))))))))
 ·exact lR IR h398 (tr (Bj 1 0 2 (by kernel_rfl)) (sg [1,2,3,4,5])) rfl λ s hE98=>qR (qr (by cases H;exact pr hE98))
end
section
variable (p0_:Ag)
def JiY:St:=⟨(0,.agg [.d (.int .i64 p0_.W),.d (.int .i64 p0_.H),.d (.int .i64 p0_.Gap),.d (.sl (p0_.F.map Aw))])::[],[]⟩
variable {p0_}
theorem KX {z} (H:D1 n p0_=some z):Aq Tryz.prog 63 [.agg (AG p0_)] (.d (.bool z)):=by
 refine fO 11 (JiY p0_) Tryz.func63 (sr (ck 2 (en (sq (sr (ck 1 (bx H λ r148 h399 H=>ca false (S6 h399) (ck 2 (en (cn H (λ H=>?_) (λ H=>?_)))))))))))
 ·exact sr (ck 1 (en (re (qr (by cases H;exact pr rd)))))
 ·exact sk (qz (sr (ck 1 (bx H λ r149 h400 H=>ca false (S8 h400) (ck 3 (en (re (by cases H;exact pr rd))))))))
end
section
variable (p0_:Be) (p1_:(List UInt8)) (r150:(List UInt8)) (out_53:Ai) (i_30:Int) (out_54:Ai) (row_3:(List (List UInt8))) (k_21:Int) (row_4:(List (List UInt8))) (x_27:Bool)
def JiZ:St:=⟨(0,.agg [.d (.int .u8 p0_.Kind),.d (.int .u8 p0_.N),.d (.sl (p0_.T.map eU8)),.d (.int .u8 p0_.F.Kind),.d (.int .u8 p0_.F.N),.d (.sl (p0_.F.L.map (AY eU8))),.d (.int .u8 p0_.P.W),.d (.int .u8 p0_.P.H),.d (.int .u8 p0_.P.Gap),.d (.sl (p0_.P.F.map (JC eU8)))])::(1,.d (.str p1_))::[],[]⟩
def Ji0:St:=⟨(4,.ptr 0 0)::(5,.d (.str r150))::[],[some (.box [.d (.int .i64 0),.d (.int .i64 0),.d (.str []),.osl 1 1 0 (List.length ([]:List (List (List UInt8)))),.osl 2 2 0 (List.length ([]:List Ao)),.d (.int .i64 0),.d (.int .i64 0),.d (.int .i64 0),.osl 3 3 0 (List.length ([]:List Ax)),.d (.int .i64 0)]),some (.arr 1 (List.map (eL eS) ([]:List (List (List UInt8))))),some (.arr 2 (List.map AC ([]:List Ao))),some (.arr 3 (List.map Aw ([]:List Ax)))]⟩
def Ji1:St:=⟨(1,.d (.str p1_))::(2,.ptr 0 0)::(4,.ptr 1 0)::(6,.d (.int .i64 (Ak .i64 1 (IntKind.i64.wrap (Am p0_.N 3)))))::(7,.ptr 2 0)::(8,.d (.int .i64 i_30))::[],[some (.box (Iu p0_)),some (.box [.d (.int .i64 0),.d (.int .i64 0),.d (.str []),.osl 3 1 0 (List.length ([]:List (List (List UInt8)))),.osl 4 2 0 (List.length ([]:List Ao)),.d (.int .i64 0),.d (.int .i64 0),.d (.int .i64 0),.osl 5 3 0 (List.length ([]:List Ax)),.d (.int .i64 0)]),some (.box (GA out_53 (.osl 6 1 0 (out_53.Rows.length)) (.osl 7 2 0 (out_53.F.length)) (.osl 8 3 0 (out_53.Pic.F.length)))),some (.arr 1 (List.map (eL eS) ([]:List (List (List UInt8))))),some (.arr 2 (List.map AC ([]:List Ao))),some (.arr 3 (List.map Aw ([]:List Ax))),some (.arr 1 (out_53.Rows.map (eL eS))),some (.arr 2 (out_53.F.map AC)),some (.arr 3 (out_53.Pic.F.map Aw))]⟩
def Ji2:St:=⟨(4,.ptr 0 0)::(7,.ptr 1 0)::[],[some (.box [.d (.int .i64 0),.d (.int .i64 0),.d (.str []),.osl 2 1 0 (List.length ([]:List (List (List UInt8)))),.osl 3 2 0 (List.length ([]:List Ao)),.d (.int .i64 0),.d (.int .i64 0),.d (.int .i64 0),.osl 4 3 0 (List.length ([]:List Ax)),.d (.int .i64 0)]),some (.box (GA out_54 (.osl 5 1 0 (out_54.Rows.length)) (.osl 6 2 0 (out_54.F.length)) (.osl 7 3 0 (out_54.Pic.F.length)))),some (.arr 1 (List.map (eL eS) ([]:List (List (List UInt8))))),some (.arr 2 (List.map AC ([]:List Ao))),some (.arr 3 (List.map Aw ([]:List Ax))),some (.arr 1 (out_54.Rows.map (eL eS))),some (.arr 2 (out_54.F.map AC)),some (.arr 3 (out_54.Pic.F.map Aw))]⟩
def Ji3:St:=⟨(1,.d (.str p1_))::(2,.ptr 0 0)::(4,.ptr 1 0)::(6,.d (.int .i64 (Ak .i64 1 (IntKind.i64.wrap (Am p0_.N 3)))))::(7,.ptr 2 0)::(8,.d (.int .i64 i_30))::(9,.osl 3 1 0 (row_3.length))::(10,.d (.int .i64 k_21))::[],[some (.box (Iu p0_)),some (.box [.d (.int .i64 0),.d (.int .i64 0),.d (.str []),.osl 4 1 0 (List.length ([]:List (List (List UInt8)))),.osl 5 2 0 (List.length ([]:List Ao)),.d (.int .i64 0),.d (.int .i64 0),.d (.int .i64 0),.osl 6 3 0 (List.length ([]:List Ax)),.d (.int .i64 0)]),some (.box (GA out_53 (.osl 7 1 0 (out_53.Rows.length)) (.osl 8 2 0 (out_53.F.length)) (.osl 9 3 0 (out_53.Pic.F.length)))),some (.arr 1 (row_3.map eS)),some (.arr 1 (List.map (eL eS) ([]:List (List (List UInt8))))),some (.arr 2 (List.map AC ([]:List Ao))),some (.arr 3 (List.map Aw ([]:List Ax))),some (.arr 1 (out_53.Rows.map (eL eS))),some (.arr 2 (out_53.F.map AC)),some (.arr 3 (out_53.Pic.F.map Aw))]⟩
def Ji4:St:=⟨(1,.d (.str p1_))::(2,.ptr 0 0)::(4,.ptr 1 0)::(6,.d (.int .i64 (Ak .i64 1 (IntKind.i64.wrap (Am p0_.N 3)))))::(7,.ptr 2 0)::(8,.d (.int .i64 i_30))::(9,.osl 3 1 0 (row_4.length))::[],[some (.box (Iu p0_)),some (.box [.d (.int .i64 0),.d (.int .i64 0),.d (.str []),.osl 4 1 0 (List.length ([]:List (List (List UInt8)))),.osl 5 2 0 (List.length ([]:List Ao)),.d (.int .i64 0),.d (.int .i64 0),.d (.int .i64 0),.osl 6 3 0 (List.length ([]:List Ax)),.d (.int .i64 0)]),some (.box (GA out_53 (.osl 7 1 0 (out_53.Rows.length)) (.osl 8 2 0 (out_53.F.length)) (.osl 9 3 0 (out_53.Pic.F.length)))),some (.arr 1 (row_4.map eS)),some (.arr 1 (List.map (eL eS) ([]:List (List (List UInt8))))),some (.arr 2 (List.map AC ([]:List Ao))),some (.arr 3 (List.map Aw ([]:List Ax))),some (.arr 1 (out_53.Rows.map (eL eS))),some (.arr 2 (out_53.F.map AC)),some (.arr 3 (out_53.Pic.F.map Aw))]⟩
def Ql:(List (List UInt8))->Ex->St->Prop:=xX 0 3 (λ (y:(List (List UInt8)))=>Ji4 p0_ p1_ out_53 i_30 y)
def JT:((List (List UInt8))×Int)->St:=(λ (x:((List (List UInt8))×Int))=>Ji3 p0_ p1_ out_53 i_30 x.1 x.2)
def Qm:Ai->Ex->St->Prop:=xX 0 1 (λ (y:Ai)=>Ji2 y)
def JU:(Ai×Int)->St:=(λ (x:(Ai×Int))=>Ji1 p0_ p1_ x.1 x.2)
def Ji5:St:=⟨(2,.ptr 0 0)::(4,.ptr 1 0)::(5,.d (.str r150))::(19,.d (.int .u8 (Am p0_.Kind 9)))::(77,.d (.bool x_27))::[],[some (.box (Iu p0_)),some (.box [.d (.int .i64 0),.d (.int .i64 0),.d (.str []),.osl 2 1 0 (List.length ([]:List (List (List UInt8)))),.osl 3 2 0 (List.length ([]:List Ao)),.d (.int .i64 0),.d (.int .i64 0),.d (.int .i64 0),.osl 4 3 0 (List.length ([]:List Ax)),.d (.int .i64 0)]),some (.arr 1 (List.map (eL eS) ([]:List (List (List UInt8))))),some (.arr 2 (List.map AC ([]:List Ao))),some (.arr 3 (List.map Aw ([]:List Ax)))]⟩
variable {p0_ p1_ r150 out_53 i_30 out_54 row_3 k_21 row_4 x_27}
theorem Pd (x:((List (List UInt8))×Int)) (z:(((List (List UInt8))×Int)⊕(List (List UInt8)))) (H:Fr n p0_ p1_ out_53 i_30 x.1 x.2=some z):WP (cxk 117 0) (Av Tryz.f44) [1,1,0,1,0,1,1,1,0,1,0,1,0,0,1,0,0,1,0,1,0,0] (As 0 (JT p0_ p1_ out_53 i_30) (Ql p0_ p1_ out_53 i_30) z) (JT p0_ p1_ out_53 i_30 x):=by
 obtain ⟨row_3,k_21⟩:=x
 refine sq (sr (ck 3 (en (cn H (λ H=>?_) (λ H=>?_)))))
 ·exact sk (qz (sq (bk 4 (sr (ck 6 (sp (Au eU8 p0_.T) (ck 2 (en (rz (ck 4 (bx H λ l48 h402 H=>sp (JdL eU8 1 h402) (ck 1 (bx H λ r151 h403 H=>ca false (Jt h403) (ck 1 (bx H λ l49 h404 H=>sp (A6 eS 3 1 h404) (ck 1 (ae (qN (qz (rz (ck 3 (ae (by cases H;exact og (sg [1,2,4,6,7,8,9,10]))))))))))))))))))))))))
 ·exact ex 3 (qx (by cases H;exact xo rfl (sg [1,2,4,6,7,8,9])))
theorem Pe (x:(Ai×Int)) (z:((Ai×Int)⊕Ai)) (H:Fs n p0_ p1_ x.1 x.2=some z):WP (cxk 117 0) (Av Tryz.f44) [1,1,0,1,0,1,1,1,0,1,0,1,0,0] (As 0 (JU p0_ p1_) (Qm) z) (JU p0_ p1_ x):=by
 obtain ⟨out_53,i_30⟩:=x
 refine sq (sr (ck 8 (en (cn H (λ H=>?_) (λ H=>?_)))))
 ·exact sk (qz (sq (bk 2 (sr (ck 2 (en (sq (sr (ck 1 (en (bk 3 (bx H λ y130 h405 H=>lX Pd h405 (sg [1,2,4,6,7,8,9,10]) rfl λ s hE99=>qH (qs (hE99) (rg (fz (enc:=eS) (xs:=y130) 9 3 1) (ck 4 (bx H λ l50 h406 H=>sp (A6 (eL eS) 7 1 h406) (ck 2 (ae (qN (qz (rz (ck 3 (ae (by cases H;exact og (sg [1,2,4,6,7,8])))))))))))))))))))))))))
 ·exact ex 1 (qx (by cases H;exact xo rfl (sg [4,7])))
theorem S9 {z} (H:MD n p0_ p1_=some z):Aq Tryz.prog 44 [.agg (Iu p0_),.d (.str p1_)] (.agg [.d (.int .i64 z.Kind),.d (.int .i64 z.Level),.d (.str z.Text),.own 1 (z.Rows.map (eL eS)),.d (.sl (z.F.map AC)),.d (.int .i64 z.Pic.W),.d (.int .i64 z.Pic.H),.d (.int .i64 z.Pic.Gap),.d (.sl (z.Pic.F.map Aw)),.d (.int .i64 z.Page)]):=by
 refine fO 117 (JiZ p0_ p1_) Tryz.func44 (sr (ck 2 (en (sr (ck 3 (bx H λ r150 h401 H=>ca false (Jt h401) (ck 1 (en (sj (λ (x:Unit)=>Ji0 r150) (λ (x:Unit)=>Fq n r150) z ?_ (λ hFR17_Block_J1=>?_))))))))))
 ·intro _ H
  exact sr (ck 3 (en (re (by cases H;exact pr (rO (v:=.agg [.d (.int .i64 1),.d (.int .i64 0),.d (.str r150),.d (.nil),.d (.nil),.d (.int .i64 0),.d (.int .i64 0),.d (.int .i64 0),.d (.nil),.d (.int .i64 0)]) [] (a1 (c1 vd (c1 vd (c1 vd (c1 vz (c1 vn (c1 vd (c1 vd (c1 vd (c1 vn (c1 vd (c0)))))))))))))))))
 refine sr (ck 3 (en (bk 0 (sr (ck 2 (en (cn H (λ H=>?_) (λ H=>?_))))))))
 ·exact sr (ck 8 (en (re (qR (qr (by cases H;exact pr (rO (v:=.agg [.d (.int .i64 2),.d (.int .i64 (Ak .i64 1 (IntKind.i64.wrap (Am p0_.N 3)))),.d (.str r150),.d (.nil),.d (.nil),.d (.int .i64 0),.d (.int .i64 0),.d (.int .i64 0),.d (.nil),.d (.int .i64 0)]) [] (a1 (c1 vd (c1 vd (c1 vd (c1 vz (c1 vn (c1 vd (c1 vd (c1 vd (c1 vn (c1 vd (c0)))))))))))))))))))
 ·refine sr (ck 2 (en (cn H (λ H=>?_) (λ H=>?_))))
  ·exact sr (ck 9 (en (sq (sr (ck 1 (en (bk 1 (bx H λ y131 h407 H=>lX Pe h407 (tr (tr (tr (tr (tr (tr (Bj 1 3 1 (by kernel_rfl)) (Bj 1 4 2 (by kernel_rfl))) (Bj 1 8 3 (by kernel_rfl))) (Bj 2 3 1 (by kernel_rfl))) (Bj 2 4 2 (by kernel_rfl))) (Bj 2 8 3 (by kernel_rfl))) (sg [1,2,4,6,7,8])) rfl λ s hE100=>qH (qs (hE100) (sr (ck 2 (ae (qs (tr (fzc (enc:=AC) (xs:=y131.F) 0 4 6 2) (fzc (enc:=Aw) (xs:=y131.Pic.F) 0 8 7 3)) (re (qR (qr (by cases H;exact pr (rO (v:=.agg [.d (.int .i64 z.Kind),.d (.int .i64 z.Level),.d (.str z.Text),.osl 5 1 0 (z.Rows.length),.d (.sl (z.F.map AC)),.d (.int .i64 z.Pic.W),.d (.int .i64 z.Pic.H),.d (.int .i64 z.Pic.Gap),.d (.sl (z.Pic.F.map Aw)),.d (.int .i64 z.Page)]) [5] (a1 (c1 vd (c1 vd (c1 vd (c1 vo (c1 vd (c1 vd (c1 vd (c1 vd (c1 vd (c1 vd (c0))))))))))))))))))))))))))))))
  ·refine sj (λ (x:Bool)=>Ji5 p0_ r150 x) (λ (x:Bool)=>Dz n p0_ r150 x) z ?_ (λ hFR17_Block_J2=>?_)
   ·intro x_27 H
    refine cn H (λ H=>?_) (λ H=>?_)
    ·exact sr (ck 3 (en (re (qR (qr (by cases H;exact pr (rO (v:=.agg [.d (.int .i64 4),.d (.int .i64 0),.d (.str r150),.d (.nil),.d (.nil),.d (.int .i64 0),.d (.int .i64 0),.d (.int .i64 0),.d (.nil),.d (.int .i64 0)]) [] (a1 (c1 vd (c1 vd (c1 vd (c1 vz (c1 vn (c1 vd (c1 vd (c1 vd (c1 vn (c1 vd (c0)))))))))))))))))))
    ·refine sr (ck 2 (en (cn H (λ H=>?_) (λ H=>?_))))
     ·exact sr (ck 2 (bx H λ r152 h408 H=>ca false (UI h408) (ck 2 (en (re (qR (qr (by cases H;exact pr (rO (v:=.agg [.d (.int .i64 5),.d (.int .i64 0),.d (.str []),.d (.nil),.d (.sl (r152.map AC)),.d (.int .i64 0),.d (.int .i64 0),.d (.int .i64 0),.d (.nil),.d (.int .i64 0)]) [] (a1 (c1 vd (c1 vd (c1 vd (c1 vz (c1 vd (c1 vd (c1 vd (c1 vd (c1 vn (c1 vd (c0)))))))))))))))))))))
     ·refine sr (ck 2 (en (cn H (λ H=>?_) (λ H=>?_))))
      ·refine sr (ck 6 (sp (Au (JC eU8) p0_.P.F) (ck 1 (bx H λ l51 h409 H=>sp (Jbr (JC eU8) 6 h409) (ck 3 (en (sr (ck 2 (bx H λ r153 h410 H=>ca false (UJ h410) (ck 2 (en (sr (ck 1 (bx H λ r154 h411 H=>ca false (KX h411) (en (cn H (λ H=>?_) (λ H=>?_)))))))))))))))))
       ·exact sr (ck 3 (en (re (qR (qr (by cases H;exact pr (rO (v:=.agg [.d (.int .i64 6),.d (.int .i64 0),.d (.str []),.d (.nil),.d (.nil),.d (.int .i64 r153.W),.d (.int .i64 r153.H),.d (.int .i64 r153.Gap),.d (.sl (r153.F.map Aw)),.d (.int .i64 0)]) [] (a1 (c1 vd (c1 vd (c1 vd (c1 vz (c1 vn (c1 vd (c1 vd (c1 vd (c1 vd (c1 vd (c0)))))))))))))))))))
       ·exact sk (qN (qs (sg [4,5]) (hFR17_Block_J1 () H)))
      ·refine sr (ck 2 (en (cn H (λ H=>?_) (λ H=>?_))))
       ·exact sr (ck 6 (en (re (qR (qr (by cases H;exact pr (rO (v:=.agg [.d (.int .i64 7),.d (.int .i64 0),.d (.str []),.d (.nil),.d (.nil),.d (.int .i64 0),.d (.int .i64 0),.d (.int .i64 0),.d (.nil),.d (.int .i64 (Ak .i64 1 (IntKind.i64.wrap p0_.N)))]) [] (a1 (c1 vd (c1 vd (c1 vd (c1 vz (c1 vn (c1 vd (c1 vd (c1 vd (c1 vn (c1 vd (c0)))))))))))))))))))
       ·exact sk (qN (qs (sg [4,5]) (hFR17_Block_J1 () H)))
   refine sr (ck 2 (en (cn H (λ H=>?_) (λ H=>?_))))
   ·exact sk (qs (tr (tr (tr (Bj 1 3 1 (by kernel_rfl)) (Bj 1 4 2 (by kernel_rfl))) (Bj 1 8 3 (by kernel_rfl))) (sg [2,4,5,19,77])) (hFR17_Block_J2 ((Am p0_.Kind 9)==3) H))
   ·exact rz (ck 2 (ae (qs (tr (tr (tr (Bj 1 3 1 (by kernel_rfl)) (Bj 1 4 2 (by kernel_rfl))) (Bj 1 8 3 (by kernel_rfl))) (sg [2,4,5,19,77])) (hFR17_Block_J2 ((Am p0_.Kind 9)==4) H))))
end
section
variable (p0_:Ag)
def Ji6:St:=⟨(0,.agg [.d (.int .i64 p0_.W),.d (.int .i64 p0_.H),.d (.int .i64 p0_.Gap),.d (.sl (p0_.F.map Aw))])::[],[]⟩
variable {p0_}
theorem NY {z} (H:Kv n p0_=some z):Aq Tryz.prog 64 [.agg (AG p0_)] (.d (.bool z)):=by
 exact fO 22 (Ji6 p0_) Tryz.func64 (sr (ck 2 (en (sr (ck 5 (gc 2 (p0_.W==0) (pA (ck 2 (gc 2 ((p0_.W==0)&&(p0_.H==0)) (pA (ck 2 (gc 1 (((p0_.W==0)&&(p0_.H==0))&&(p0_.Gap==0)) (sE (g:=(((p0_.W==0)&&(p0_.H==0))&&(p0_.Gap==0))) (λ hg=>Au Aw p0_.F) (gc 1 (((p0_.W==0)&&(p0_.H==0))&&(p0_.Gap==0)) (pA (ck 1 (en (re (by cases H;exact pr rd)))))))))))))))))))
end
section
variable (p0_:Int)
def Ji7:St:=⟨(0,.d (.int .u8 p0_))::[],[]⟩
variable {p0_}
theorem Pf {z} (H:H6 n p0_=some z):Aq Tryz.prog 87 [.d (.int .u8 p0_)] (.d (.bool z)):=by
 exact fO 11 (Ji7 p0_) Tryz.func87 (sr (ck 1 (en (sr (ck 5 (gc 2 (decide (Ed .u8 p0_ 127>=32)) (pA (ck 1 (en (re (by cases H;exact pr rd)))))))))))
end
section
variable (p0_:(List UInt8)) (i_31:Int)
def Ji8:St:=⟨(0,.d (.str p0_))::[],[]⟩
def Ji9:St:=⟨(0,.d (.str p0_))::(4,.d (.int .i64 i_31))::[],[]⟩
def Jja:St:=⟨(0,.d (.str p0_))::[],[]⟩
def Ta:(Unit⊕(Int×Int))->Ex->St->Prop:=xS (xX 0 0 (λ (y:Unit)=>Jja p0_)) (xR ty Tryz.f68 (λ (y:(Int×Int))=>.tup [.d (.int .i64 y.1),.d (.int .i64 y.2)]))
def Mj:Int->St:=(λ (x:Int)=>Ji9 p0_ x)
variable {p0_ i_31}
theorem KY (x:Int) (z:(Int⊕(Unit⊕(Int×Int)))) (H:HD n p0_ x=some z):WP (cxk 19 0) (Av Tryz.f68) [1,0,1,0,0] (As 0 (Mj p0_) (Ta p0_) z) (Mj p0_ x):=by
 revert H
 generalize x=i_31
 intro H
 refine sq (sr (ck 4 (en (cn H (λ H=>?_) (λ H=>?_)))))
 ·refine sk (qz (sq (bk 1 (sr (ck 2 (bx H λ b6 h412 H=>sp (Gf h412) (bx H λ r155 h413 H=>ca false (Pf h413) (ck 1 (en (cn H (λ H=>?_) (λ H=>?_)))))))))))
  ·exact sr (ck 3 (en (re (qR (qr (by cases H;exact ro rfl rdT))))))
  ·exact sk (qN (qz (rz (ck 3 (ae (by cases H;exact og (sg [0,4])))))))
 ·exact ex 0 (qx (by cases H;exact xo rfl (sg [0])))
theorem Wj {z} (H:NB n p0_=some z):Aq Tryz.prog 68 [.d (.str p0_)] (.tup [.d (.int .i64 z.1),.d (.int .i64 z.2)]):=by
 refine fO 19 (Ji8 p0_) Tryz.func68 (sr (ck 2 (en (sq (sr (ck 1 (en (bk 0 (bx H λ y132 h414 H=>?_)))))))))
 rcases y132 with y133|y134
 ·exact lX KY h414 (sg [0,4]) rfl λ s hE101=>qH (qs (hE101) (sr (ck 4 (en (re (by cases H;exact pr rdT))))))
 ·exact lR KY h414 (sg [0,4]) rfl λ s hE102=>qR (qr (by cases H;exact pr hE102))
end
section
variable (p0_:(List UInt8))
def Jjb:St:=⟨(0,.d (.str p0_))::[],[]⟩
variable {p0_}
theorem Tb {z} (H:Jj n p0_=some z):Aq Tryz.prog 48 [.d (.str p0_)] (.d (.bool z)):=by
 exact fO 12 (Jjb p0_) Tryz.func48 (sr (ck 1 (en (sr (ck 1 (bx H λ r156 h415 H=>ca false (Wj h415) (ck 5 (en (sr (ck 3 (en (re (by cases H;exact pr rd)))))))))))))
end
section
variable (p0_:Int)
def Jjc:St:=⟨(0,.d (.int .u8 p0_))::[],[]⟩
variable {p0_}
theorem GB {z} (H:GE n p0_=some z):Aq Tryz.prog 49 [.d (.int .u8 p0_)] (.d (.bool z)):=by
 exact fO 6 (Jjc p0_) Tryz.func49 (sr (ck 1 (en (sr (ck 4 (en (re (by cases H;exact pr rd))))))))
end
section
variable (p0_:(List UInt8)) (i_32:Int)
def Jjd:St:=⟨(0,.d (.str p0_))::[],[]⟩
def Jje:St:=⟨(0,.d (.str p0_))::(3,.d (.int .i64 i_32))::[],[]⟩
def Jjf:St:=⟨[],[]⟩
def Sj:(Unit⊕Bool)->Ex->St->Prop:=xS (xX 0 0 (λ (y:Unit)=>Jjf)) (xR ty Tryz.f33 (λ (y:Bool)=>.d (.bool y)))
def KZ:Int->St:=(λ (x:Int)=>Jje p0_ x)
variable {p0_ i_32}
theorem JV (x:Int) (z:(Int⊕(Unit⊕Bool))) (H:Jk n p0_ x=some z):WP (cxk 47 0) (Av Tryz.f33) [1,1,0,1,0,0] (As 0 (KZ p0_) (Sj) z) (KZ p0_ x):=by
 revert H
 generalize x=i_32
 intro H
 refine sq (sr (ck 4 (en (cn H (λ H=>?_) (λ H=>?_)))))
 ·refine sk (qz (sq (bk 1 (sr (ck 2 (bx H λ b9 h421 H=>sp (Gf h421) (bx H λ r160 h422 H=>ca false (GB h422) (ck 3 (gc 1 r160 (bx H λ b10 h423 H=>sE (λ hg=>Gf (A5 h423 hg)) (bx H λ r161 h424 H=>cG false (leZ) rfl (λ hg=>GB (A5 h424 hg)) (Or.inl rfl) (BU (λ hh=>hh) (CY)) rfl (pA (en (cn H (λ H=>?_) (λ H=>?_)))))))))))))))
  ·exact sr (ck 1 (en (re (qR (qr (by cases H;exact ro rfl rd))))))
  ·exact sk (qN (qz (rz (ck 3 (ae (by cases H;exact og (sg [0,3])))))))
 ·exact ex 0 (qx (by cases H;exact xo rfl (sg [])))
theorem GC {z} (H:GG n p0_=some z):Aq Tryz.prog 33 [.d (.str p0_)] (.d (.bool z)):=by
 refine fO 47 (Jjd p0_) Tryz.func33 (sr (ck 1 (en (sq (sr (ck 1 (bx H λ r157 h416 H=>ca false (Tb h416) (ck 3 (gc 2 (!(!r157)) (pO (ck 2 (gc 2 (!((!r157)||(((p0_.length:Nat):Int)==0))) (pO (ck 2 (bx H λ b7 h417 H=>sE (λ hg=>Gf (A5 h417 hg)) (bx H λ r158 h418 H=>cG false (leZ) rfl (λ hg=>GB (A5 h418 hg)) (Or.inl rfl) (BU (λ hh=>hh) (CY)) rfl (pO (ck 3 (gc 2 (!((((!r157)||(((p0_.length:Nat):Int)==0))||(decide (((p0_.length:Nat):Int)>400)))||r158)) (bx H λ b8 h419 H=>sE (λ hg=>Gf (A5 h419 hg)) (bx H λ r159 h420 H=>cG false (leZ) rfl (λ hg=>GB (A5 h420 hg)) (Or.inl rfl) (BU (λ hh=>hh) (CY)) rfl (pO (en (cn H (λ H=>?_) (λ H=>?_)))))))))))))))))))))))))
 ·exact sr (ck 1 (en (re (qr (by cases H;exact pr rd)))))
 ·refine sk (qz (sq (sr (ck 1 (en (bk 0 (bx H λ y135 h425 H=>?_)))))))
  rcases y135 with y136|y137
  ·exact lX JV h425 (sg [0,3]) rfl λ s hE103=>qH (qs (hE103) (sr (ck 1 (en (re (by cases H;exact pr rd))))))
  ·exact lR JV h425 (sg [0,3]) rfl λ s hE104=>qR (qr (by cases H;exact pr hE104))
end
section
variable (p0_:(List (List (List UInt8)))) (i_33:Int) (k_22:Int)
def Jjg:St:=⟨(0,.d (.sl (p0_.map (eL eS))))::[],[]⟩
def Jjh:St:=⟨(0,.d (.sl (p0_.map (eL eS))))::(3,.d (.int .i64 i_33))::[],[]⟩
def Jji:St:=⟨[],[]⟩
def Jjj:St:=⟨(0,.d (.sl (p0_.map (eL eS))))::(3,.d (.int .i64 i_33))::(4,.d (.int .i64 k_22))::[],[]⟩
def Jjk:St:=⟨(0,.d (.sl (p0_.map (eL eS))))::(3,.d (.int .i64 i_33))::[],[]⟩
def NZ:(Unit⊕Bool)->Ex->St->Prop:=xS (xX 0 2 (λ (y:Unit)=>Jjk p0_ i_33)) (xR ty Tryz.f65 (λ (y:Bool)=>.d (.bool y)))
def HN:Int->St:=(λ (x:Int)=>Jjj p0_ i_33 x)
def N0:(Unit⊕Bool)->Ex->St->Prop:=xS (xX 0 0 (λ (y:Unit)=>Jji)) (xR ty Tryz.f65 (λ (y:Bool)=>.d (.bool y)))
def HO:Int->St:=(λ (x:Int)=>Jjh p0_ x)
variable {p0_ i_33 k_22}
theorem Hd (x:Int) (z:(Int⊕(Unit⊕Bool))) (H:DG n p0_ i_33 x=some z):WP (cxk 74 0) (Av Tryz.f65) [1,1,0,1,0,0,1,0,0,1,1,0,0] (As 0 (HN p0_ i_33) (NZ p0_ i_33) z) (HN p0_ i_33 x):=by
 revert H
 generalize x=k_22
 intro H
 refine sq (sr (ck 3 (bx H λ x116 h430 H=>sp (Aj (eL eS) h430) (ck 1 (sp (Au eS x116) (ck 1 (en (cn H (λ H=>?_) (λ H=>?_)))))))))
 ·refine sk (qz (sq (bk 3 (sr (ck 2 (bx H λ x117 h431 H=>sp (Aj (eL eS) h431) (ck 2 (bx H λ x118 h432 H=>sp (Aj eS h432) (ck 1 (bx H λ r162 h433 H=>ca false (GC h433) (ck 4 (bx H λ x119 h434 H=>sE (λ hg=>Aj (eL eS) (A5 h434 hg)) (gc 1 (!(!r162)) (ck 1 (bx H λ x120 h435 H=>sE (λ hg=>Aj eS (A5 h435 hg)) (gc 3 (!(!r162)) (pO (en (cn H (λ H=>?_) (λ H=>?_))))))))))))))))))))
  ·exact sr (ck 1 (en (re (qR (qr (by cases H;exact ro rfl rd))))))
  ·exact sk (qN (qz (rz (ck 3 (ae (by cases H;exact og (sg [0,3,4])))))))
 ·exact ex 2 (qx (by cases H;exact xo rfl (sg [0,3])))
theorem He (x:Int) (z:(Int⊕(Unit⊕Bool))) (H:DH n p0_ x=some z):WP (cxk 74 0) (Av Tryz.f65) [1,1,0,1,0,0] (As 0 (HO p0_) (N0) z) (HO p0_ x):=by
 revert H
 generalize x=i_33
 intro H
 refine sq (sr (ck 2 (sp (Au (eL eS) p0_) (ck 1 (en (cn H (λ H=>?_) (λ H=>?_)))))))
 ·refine sk (qz (sq (bk 1 (sq (sr (ck 2 (bx H λ x112 h426 H=>sp (Aj (eL eS) h426) (ck 1 (sp (Au eS x112) (ck 1 (bx H λ x113 h427 H=>sp (Aj (eL eS) h427) (ck 1 (sp (Au eS x113) (ck 4 (bx H λ x114 h428 H=>sE (λ hg=>Aj (eL eS) (A5 h428 hg)) (gc 1 (!(((x112.length:Nat):Int) != ((x113.length:Nat):Int))) (sE (g:=(!(((x112.length:Nat):Int) != ((x113.length:Nat):Int)))) (λ hg=>Au eS x114) (gc 1 (!(((x112.length:Nat):Int) != ((x113.length:Nat):Int))) (pO (ck 3 (bx H λ x115 h429 H=>sE (λ hg=>Aj (eL eS) (A5 h429 hg)) (gc 1 (!((((x112.length:Nat):Int) != ((x113.length:Nat):Int))||(decide (((x114.length:Nat):Int)<1)))) (sE (g:=(!((((x112.length:Nat):Int) != ((x113.length:Nat):Int))||(decide (((x114.length:Nat):Int)<1))))) (λ hg=>Au eS x115) (gc 1 (!((((x112.length:Nat):Int) != ((x113.length:Nat):Int))||(decide (((x114.length:Nat):Int)<1)))) (pO (en (cn H (λ H=>?_) (λ H=>?_))))))))))))))))))))))))))))
  ·exact sr (ck 1 (en (re (qr (qR (qr (by cases H;exact ro rfl rd)))))))
  ·refine sk (qz (sr (ck 1 (en (bk 2 (bx H λ y138 h436 H=>?_))))))
   rcases y138 with y139|y140
   ·exact lX Hd h436 (sg [0,3,4]) rfl λ s hE105=>qH (qN (qs (hE105) (rz (ck 3 (ae (by cases H;exact og (sg [0,3])))))))
   ·exact lR Hd h436 (sg [0,3,4]) rfl λ s hE106=>qR (qR (qr (by cases H;exact ro rfl hE106)))
 ·exact ex 0 (qx (by cases H;exact xo rfl (sg [])))
theorem Qn {z} (H:EC n p0_=some z):Aq Tryz.prog 65 [.d (.sl (p0_.map (eL eS)))] (.d (.bool z)):=by
 refine fO 74 (Jjg p0_) Tryz.func65 (sr (ck 1 (en (sq (sr (ck 1 (sp (Au (eL eS) p0_) (ck 3 (sE (g:=(!(decide (((p0_.length:Nat):Int)<1)))) (λ hg=>Au (eL eS) p0_) (gc 1 (!(decide (((p0_.length:Nat):Int)<1))) (pO (en (cn H (λ H=>?_) (λ H=>?_))))))))))))))
 ·exact sr (ck 1 (en (re (qr (by cases H;exact pr rd)))))
 ·refine sk (qz (sq (sr (ck 1 (en (bk 0 (bx H λ y141 h437 H=>?_)))))))
  rcases y141 with y142|y143
  ·exact lX He h437 (sg [0,3]) rfl λ s hE107=>qH (qs (hE107) (sr (ck 1 (en (re (by cases H;exact pr rd))))))
  ·exact lR He h437 (sg [0,3]) rfl λ s hE108=>qR (qr (by cases H;exact pr hE108))
end
section
variable (p0_:(List Ai)) (p1_:Int) (text_1:Bool) (level_1:Bool) (rows_1:Bool) (tree_1:Bool) (picture_1:Bool) (page_1:Bool) (x121:Ai) (r163:Bool) (page_2:Bool) (k_23:Int) (page_3:Bool)
def Jjl:St:=⟨(0,.d (.sl (p0_.map AD)))::(1,.d (.int .i64 p1_))::[],[]⟩
def Jjm:St:=⟨(6,.d (.bool text_1))::(7,.d (.bool level_1))::(8,.d (.bool rows_1))::(9,.d (.bool tree_1))::(10,.d (.bool picture_1))::(11,.d (.bool page_1))::[],[]⟩
def Jjn:St:=⟨(0,.d (.sl (p0_.map AD)))::(1,.d (.int .i64 p1_))::(5,.ptr 0 0)::(6,.d (.bool (x121.Text==[])))::(7,.d (.bool (x121.Level==0)))::(8,.d (.bool (((x121.Rows.length:Nat):Int)==0)))::(9,.d (.bool (((x121.F.length:Nat):Int)==0)))::(10,.d (.bool r163))::(11,.d (.bool page_2))::(12,.d (.int .i64 k_23))::[],[some (.box (Uy x121))]⟩
def Jjo:St:=⟨(6,.d (.bool (x121.Text==[])))::(7,.d (.bool (x121.Level==0)))::(8,.d (.bool (((x121.Rows.length:Nat):Int)==0)))::(9,.d (.bool (((x121.F.length:Nat):Int)==0)))::(10,.d (.bool r163))::(11,.d (.bool page_3))::[],[]⟩
def Qo:Bool->Ex->St->Prop:=xX 0 1 (λ (y:Bool)=>Jjo x121 r163 y)
def JW:(Bool×Int)->St:=(λ (x:(Bool×Int))=>Jjn p0_ p1_ x121 r163 x.1 x.2)
variable {p0_ p1_ text_1 level_1 rows_1 tree_1 picture_1 page_1 x121 r163 page_2 k_23 page_3}
theorem Pg (x:(Bool×Int)) (z:((Bool×Int)⊕Bool)) (H:Ft n p0_ p1_ x121 r163 x.1 x.2=some z):WP (cxk 149 0) (Av Tryz.f45) [1,1,1,1,0,1,0,1,1,1,1,1,1,1,1,1,1,1,1,1,0,1,1,0,0] (As 0 (JW p0_ p1_ x121 r163) (Qo x121 r163) z) (JW p0_ p1_ x121 r163 x):=by
 obtain ⟨page_2,k_23⟩:=x
 refine sq (sr (ck 3 (en (cn H (λ H=>?_) (λ H=>?_)))))
 ·exact sk (qz (sq (bk 2 (rz (ck 4 (bx H λ x124 h448 H=>sE (λ hg=>Aj AD (A5 h448 hg)) (gc 4 page_2 (ck 2 (bx H λ x125 h449 H=>sE (λ hg=>Aj AD (A5 h449 hg)) (gc 2 (page_2&&!(x124.Kind != 7)) (ck 1 (gc 2 (page_2&&!(x124.Kind != 7)) (pG (g:=page_2) (v:=.d (.bool ((x124.Kind != 7)||(decide (x125.Page<x121.Page))))) (λ hg=>CV (c:=.gv page_2 (.d (.bool (x124.Kind != 7)))) (a:=.d (.bool true)) (b:=.gv (page_2&&!(x124.Kind != 7)) (.d (.bool (decide (x125.Page<x121.Page))))) rfl rfl rfl ((λ hh=>hh) hg) trivial (λ ht=>by rw [(λ hh=>hh) hg,ht];rfl)) (pA (ck 1 (ae (qN (qz (rz (ck 3 (ae (by cases H;exact og (sg [0,1,5,6,7,8,9,10,11,12])))))))))))))))))))))))
 ·exact ex 1 (qx (by cases H;exact xo rfl (sg [6,7,8,9,10,11])))
theorem Tc {z} (H:ME n p0_ p1_=some z):Aq Tryz.prog 45 [.d (.sl (p0_.map AD)),.d (.int .i64 p1_)] (.d (.bool z)):=by
 refine fO 149 (Jjl p0_ p1_) Tryz.func45 (sr (ck 1 (en (sr (ck 2 (bx H λ x121 h438 H=>sp (Aj AD h438) (ck 3 (en (sr (ck 8 (en (sr (ck 2 (sp (Au (eL eS) x121.Rows) (ck 3 (sp (Au AC x121.F) (ck 3 (bx H λ r163 h439 H=>ca false (NY h439) (ck 7 (en (sj (λ (x:(Bool×Bool×Bool×Bool×Bool×Bool))=>Jjm x.1 x.2.1 x.2.2.1 x.2.2.2.1 x.2.2.2.2.1 x.2.2.2.2.2) (λ (x:(Bool×Bool×Bool×Bool×Bool×Bool))=>B5 n x.1 x.2.1 x.2.2.1 x.2.2.2.1 x.2.2.2.2.1 x.2.2.2.2.2) z ?_ (λ hFR17_Right_J1=>?_))))))))))))))))))))))
 ·rintro ⟨text_1,level_1,rows_1,tree_1,picture_1,page_1⟩ H
  exact sr (ck 3 (pA (ck 2 (pA (ck 2 (pA (ck 2 (pA (ck 2 (pA (ck 1 (en (re (by cases H;exact pr rd))))))))))))))
 refine sr (ck 2 (en (bk 0 (sr (ck 2 (en (cn H (λ H=>?_) (λ H=>?_))))))))
 ·exact rz (ck 2 (bx H λ r164 h440 H=>ca false (GC h440) (ck 1 (ae (qN (qs (sg [6,7,8,9,10,11]) (hFR17_Right_J1 (r164,(x121.Level==0),(((x121.Rows.length:Nat):Int)==0),(((x121.F.length:Nat):Int)==0),r163,(x121.Page==0)) H)))))))
 ·refine sr (ck 2 (en (cn H (λ H=>?_) (λ H=>?_))))
  ·exact rz (ck 2 (bx H λ r165 h441 H=>ca false (GC h441) (ck 5 (gc 2 (decide (x121.Level>=1)) (pA (ck 2 (ae (qN (qs (sg [6,7,8,9,10,11]) (hFR17_Right_J1 (r165,((decide (x121.Level>=1))&&(decide (x121.Level<=3))),(((x121.Rows.length:Nat):Int)==0),(((x121.F.length:Nat):Int)==0),r163,(x121.Page==0)) H))))))))))
  ·refine sr (ck 2 (en (cn H (λ H=>?_) (λ H=>?_))))
   ·exact rz (ck 2 (bx H λ r166 h442 H=>ca false (Qn h442) (ck 1 (ae (qN (qs (sg [6,7,8,9,10,11]) (hFR17_Right_J1 ((x121.Text==[]),(x121.Level==0),r166,(((x121.F.length:Nat):Int)==0),r163,(x121.Page==0)) H)))))))
   ·refine sr (ck 2 (en (cn H (λ H=>?_) (λ H=>?_))))
    ·exact rz (ck 2 (bx H λ r167 h443 H=>ca false (GC h443) (ck 2 (gc 1 r167 (pA (ck 3 (gc 1 (r167&&(decide (p1_>0))) (bx H λ x122 h444 H=>sE (λ hg=>Aj AD (A5 h444 hg)) (gc 4 (r167&&(decide (p1_>0))) (ck 2 (gc 1 ((r167&&(decide (p1_>0)))&&!(x122.Kind==1)) (bx H λ x123 h445 H=>sE (λ hg=>Aj AD (A5 h445 hg)) (gc 3 ((r167&&(decide (p1_>0)))&&!(x122.Kind==1)) (pG (g:=(r167&&(decide (p1_>0)))) (v:=.d (.bool ((x122.Kind==1)||(x123.Kind==4)))) (λ hg=>CV (c:=.gv (r167&&(decide (p1_>0))) (.d (.bool (x122.Kind==1)))) (a:=.d (.bool true)) (b:=.gv ((r167&&(decide (p1_>0)))&&!(x122.Kind==1)) (.d (.bool (x123.Kind==4)))) rfl rfl rfl ((λ hh=>hh) hg) trivial (λ ht=>by rw [(λ hh=>hh) hg,ht];rfl)) (pA (ck 1 (ae (qN (qs (sg [6,7,8,9,10,11]) (hFR17_Right_J1 (((r167&&(decide (p1_>0)))&&((x122.Kind==1)||(x123.Kind==4))),(x121.Level==0),(((x121.Rows.length:Nat):Int)==0),(((x121.F.length:Nat):Int)==0),r163,(x121.Page==0)) H))))))))))))))))))))
    ·refine sr (ck 2 (en (cn H (λ H=>?_) (λ H=>?_))))
     ·exact rz (ck 2 (bx H λ r168 h446 H=>ca false (NK h446) (ck 1 (ae (qN (qs (sg [6,7,8,9,10,11]) (hFR17_Right_J1 ((x121.Text==[]),(x121.Level==0),(((x121.Rows.length:Nat):Int)==0),r168,r163,(x121.Page==0)) H)))))))
     ·refine sr (ck 2 (en (cn H (λ H=>?_) (λ H=>?_))))
      ·exact rz (ck 2 (bx H λ r169 h447 H=>ca false (KX h447) (ck 1 (ae (qN (qs (sg [6,7,8,9,10,11]) (hFR17_Right_J1 ((x121.Text==[]),(x121.Level==0),(((x121.Rows.length:Nat):Int)==0),(((x121.F.length:Nat):Int)==0),r169,(x121.Page==0)) H)))))))
      ·refine sr (ck 2 (en (cn H (λ H=>?_) (λ H=>?_))))
       ·exact sr (ck 5 (gc 2 (decide (x121.Page>=1)) (pA (ck 1 (en (sr (ck 1 (en (bk 1 (bx H λ y144 h450 H=>lX Pg h450 (sg [0,1,5,6,7,8,9,10,11,12]) rfl λ s hE109=>qH (qN (qs (tr (hE109) (sg [6,7,8,9,10,11])) (hFR17_Right_J1 ((x121.Text==[]),(x121.Level==0),(((x121.Rows.length:Nat):Int)==0),(((x121.F.length:Nat):Int)==0),r163,y144) H)))))))))))))
       ·exact sr (ck 1 (en (re (qR (qr (by cases H;exact pr rd))))))
end
section
variable (p0_:(List Be)) (p1_:Int) (p2_:(List UInt8)) (out_55:(List Ai)) (i_34:Int) (out_56:(List Ai)) (out_57:(List Ai))
def Jjp:St:=⟨(0,.d (.sl (p0_.map BO)))::(1,.d (.int .i64 p1_))::(2,.d (.str p2_))::[],[]⟩
def Jjq:St:=⟨(0,.d (.sl (p0_.map BO)))::(1,.d (.int .i64 p1_))::(2,.d (.str p2_))::(7,.osl 0 10 0 (out_55.length))::(8,.d (.int .i64 i_34))::[],[some (.arr 10 (out_55.map AD))]⟩
def Jjr:St:=⟨(7,.osl 0 10 0 (out_56.length))::[],[some (.arr 10 (out_56.map AD))]⟩
def Jjs:St:=⟨(0,.d (.sl (p0_.map BO)))::(1,.d (.int .i64 p1_))::(2,.d (.str p2_))::(7,.osl 0 10 0 (out_57.length))::(8,.d (.int .i64 i_34))::[],[some (.arr 10 (out_57.map AD))]⟩
def Sk:(List Ai)->Ex->St->Prop:=xX 0 0 (λ (y:(List Ai))=>Jjr y)
def K0:((List Ai)×Int)->St:=(λ (x:((List Ai)×Int))=>Jjq p0_ p1_ p2_ x.1 x.2)
variable {p0_ p1_ p2_ out_55 i_34 out_56 out_57}
theorem Qp (x:((List Ai)×Int)) (z:(((List Ai)×Int)⊕(List Ai))) (H:Gw n p0_ p1_ p2_ x.1 x.2=some z):WP (cxk 42 0) (Av Tryz.f29) [1,1,0,1,0,0] (As 0 (K0 p0_ p1_ p2_) (Sk) z) (K0 p0_ p1_ p2_ x):=by
 obtain ⟨out_55,i_34⟩:=x
 refine sq (sr (ck 2 (sp (Au BO p0_) (ck 4 (gc 1 (decide (i_34<((p0_.length:Nat):Int))) (pA (en (cn H (λ H=>?_) (λ H=>?_)))))))))
 ·refine sk (qz (sj (λ (x:(List Ai))=>Jjs p0_ p1_ p2_ i_34 x) (λ (x:(List Ai))=>Jl n i_34 x) z ?_ (λ hFR17_Made_J1=>?_)))
  ·intro out_57 H
   exact rz (ck 3 (ae (by cases H;exact og (sg [0,1,2,7,8]))))
  refine bk 1 (sr (ck 3 (bx H λ x126 h451 H=>sp (Aj BO h451) (ck 2 (bx H λ r170 h452 H=>ca false (S9 h452) (ck 1 (bx H λ l52 h453 H=>sp (A6 AD 0 10 h453) (ck 1 (en (sr (ck 4 (bx H λ r171 h454 H=>cb (ks:=[2]) (obl:=[(0+List.length l52,List.length (l52.map AD))]) false (leK leM (leZ)) (Cy F4 (Cy rfl rfl)) (Tc h454) (Or.inr trivial) rfl (ck 1 (en (cn H (λ H=>?_) (λ H=>?_))))))))))))))))
  ·exact rz (ck 4 (bx H λ l53 h455 H=>sp (Mx 2 10 h455) (ck 1 (ae (qN (qs (tr (XF (k:=2) (sz:=10) 7 (l53.map AD) (l53.length) (by kernel_rfl) (QG h455) (Uq (enc:=AD) h455) (Yr h455)) (sg [0,1,2,7,8])) (hFR17_Made_J1 l53 H)))))))
  ·exact sk (qN (qs (sg [0,1,2,7,8]) (hFR17_Made_J1 l52 H)))
 ·exact ex 0 (qx (by cases H;exact xo rfl (sg [7])))
theorem UN {z} (H:OK n p0_ p1_ p2_=some z):Aq Tryz.prog 29 [.d (.sl (p0_.map BO)),.d (.int .i64 p1_),.d (.str p2_)] (.own 10 (z.map AD)):=by
 exact fO 42 (Jjp p0_ p1_ p2_) Tryz.func29 (sr (ck 1 (en (sr (ck 2 (en (sq (sr (ck 1 (en (bk 0 (bx H λ y145 h456 H=>lX Qp h456 (sg [0,1,2,7,8]) rfl λ s hE110=>qH (qs (hE110) (sr (ck 2 (en (re (by cases H;exact pr (rO (v:=.osl 0 10 0 (z.length)) [0] (ao vo))))))))))))))))))))
end
section
variable (p0_:(List Be))
def Jlm:St:=⟨(0,.d (.sl (p0_.map BO)))::[],[]⟩
variable {p0_}
theorem UO {z} (H:OL n p0_=some z):Aq Tryz.prog 9 [.d (.sl (p0_.map BO))] (.own 10 (z.map AD)):=by
 exact fO 5 (Jlm p0_) Tryz.func9 (sr (ck 1 (en (sr (ck 1 (bx H λ r172 h457 H=>cl [List.length r172] (UN h457) (ck 1 (en (re (by cases H;exact pr (rO (v:=.osl 0 10 0 (z.length)) [0] (ao vo))))))))))))
end
section
variable (p0_:(List Ai)) (p1_:Int)
def Jjt:St:=⟨(0,.d (.sl (p0_.map AD)))::(1,.d (.int .i64 p1_))::[],[]⟩
variable {p0_ p1_}
theorem Sl {z} (H:HE n p0_ p1_=some z):Aq Tryz.prog 22 [.d (.sl (p0_.map AD)),.d (.int .i64 p1_)] (.d (.bool z)):=by
 exact fO 37 (Jjt p0_ p1_) Tryz.func22 (sr (ck 1 (en (sr (ck 5 (sE (g:=decide (p1_>=0)) (λ hg=>Au AD p0_) (gc 1 (decide (p1_>=0)) (pA (ck 3 (bx H λ x127 h458 H=>sE (λ hg=>Aj AD (A5 h458 hg)) (gc 4 ((decide (p1_>=0))&&(decide (p1_<((p0_.length:Nat):Int)))) (ck 2 (bx H λ x128 h459 H=>sE (λ hg=>Aj AD (A5 h459 hg)) (gc 3 (((decide (p1_>=0))&&(decide (p1_<((p0_.length:Nat):Int))))&&!(x127.Kind==1)) (pG (g:=((decide (p1_>=0))&&(decide (p1_<((p0_.length:Nat):Int))))) (v:=.d (.bool ((x127.Kind==1)||(x128.Kind==2)))) (λ hg=>CV (c:=.gv ((decide (p1_>=0))&&(decide (p1_<((p0_.length:Nat):Int)))) (.d (.bool (x127.Kind==1)))) (a:=.d (.bool true)) (b:=.gv (((decide (p1_>=0))&&(decide (p1_<((p0_.length:Nat):Int))))&&!(x127.Kind==1)) (.d (.bool (x128.Kind==2)))) rfl rfl rfl ((λ hh=>hh) hg) trivial (λ ht=>by rw [(λ hh=>hh) hg,ht];rfl)) (gc 1 ((decide (p1_>=0))&&(decide (p1_<((p0_.length:Nat):Int)))) (ck 2 (bx H λ x129 h460 H=>sE (λ hg=>Aj AD (A5 h460 hg)) (gc 3 (((decide (p1_>=0))&&(decide (p1_<((p0_.length:Nat):Int))))&&!((x127.Kind==1)||(x128.Kind==2))) (pG (g:=((decide (p1_>=0))&&(decide (p1_<((p0_.length:Nat):Int))))) (v:=.d (.bool (((x127.Kind==1)||(x128.Kind==2))||(x129.Kind==4)))) (λ hg=>CV (c:=.gv ((decide (p1_>=0))&&(decide (p1_<((p0_.length:Nat):Int)))) (.d (.bool ((x127.Kind==1)||(x128.Kind==2))))) (a:=.d (.bool true)) (b:=.gv (((decide (p1_>=0))&&(decide (p1_<((p0_.length:Nat):Int))))&&!((x127.Kind==1)||(x128.Kind==2))) (.d (.bool (x129.Kind==4)))) rfl rfl rfl ((λ hh=>hh) hg) trivial (λ ht=>by rw [(λ hh=>hh) hg,ht];rfl)) (pA (ck 1 (en (re (by cases H;exact pr rd)))))))))))))))))))))))))
end
end Go.AI
end
section
namespace Go.AI
open Go.Proofs
set_option maxRecDepth 10000
variable {n:Nat}
section
variable (p0_:(List Ai)) (p1_:AS) (p2_:(List UInt8)) (l_1:(List Int)) (i_35:Int) (l_2:(List Int)) (l_3:(List Int)) (c_4:Ab)
def Jju:St:=⟨(0,.d (.sl (p0_.map AD)))::(1,.agg [.d (.int .u8 p1_.Block),.d (.int .u8 p1_.At),.d (.int .u8 p1_.Cut),.d (.sl (p1_.Put.map eU8))])::(2,.d (.str p2_))::[],[]⟩
def Jjv:St:=⟨(0,.d (.sl (p0_.map AD)))::(2,.d (.str p2_))::(4,.ptr 0 0)::(6,.ptr 1 0)::(7,.osl 2 1 0 (l_1.length))::(8,.d (.int .i64 i_35))::[],[some (.box (DM p1_)),some (.box [.d (.int .i64 0),.d (.int .i64 0),.d (.int .i64 0),.d (.str [])]),some (.arr 1 (l_1.map A1))]⟩
def Jjw:St:=⟨(0,.d (.sl (p0_.map AD)))::(2,.d (.str p2_))::(4,.ptr 0 0)::(6,.ptr 1 0)::(7,.osl 2 1 0 (l_2.length))::[],[some (.box (DM p1_)),some (.box [.d (.int .i64 0),.d (.int .i64 0),.d (.int .i64 0),.d (.str [])]),some (.arr 1 (l_2.map A1))]⟩
def Jjx:St:=⟨(0,.d (.sl (p0_.map AD)))::(2,.d (.str p2_))::(4,.ptr 0 0)::(6,.ptr 1 0)::(7,.osl 2 1 0 (l_3.length))::(8,.d (.int .i64 i_35))::[],[some (.box (DM p1_)),some (.box [.d (.int .i64 0),.d (.int .i64 0),.d (.int .i64 0),.d (.str [])]),some (.arr 1 (l_3.map A1))]⟩
def Sm:(List Int)->Ex->St->Prop:=xX 0 0 (λ (y:(List Int))=>Jjw p0_ p1_ p2_ y)
def K1:((List Int)×Int)->St:=(λ (x:((List Int)×Int))=>Jjv p0_ p1_ p2_ x.1 x.2)
def Jjy:St:=⟨(6,.ptr 0 0)::(9,.ptr 1 0)::[],[some (.box [.d (.int .i64 0),.d (.int .i64 0),.d (.int .i64 0),.d (.str [])]),some (.box (Ba c_4))]⟩
variable {p0_ p1_ p2_ l_1 i_35 l_2 l_3 c_4}
theorem Qq (x:((List Int)×Int)) (z:(((List Int)×Int)⊕(List Int))) (H:Gx n p0_ p1_ p2_ x.1 x.2=some z):WP (cxk 77 0) (Av Tryz.f10) [1,1,0,1,0,0] (As 0 (K1 p0_ p1_ p2_) (Sm p0_ p1_ p2_) z) (K1 p0_ p1_ p2_ x):=by
 obtain ⟨l_1,i_35⟩:=x
 refine sq (sr (ck 2 (sp (Au AD p0_) (ck 1 (en (cn H (λ H=>?_) (λ H=>?_)))))))
 ·refine sk (qz (sj (λ (x:(List Int))=>Jjx p0_ p1_ p2_ i_35 x) (λ (x:(List Int))=>Jm n i_35 x) z ?_ (λ hFR32_Made_J1=>?_)))
  ·intro l_3 H
   exact rz (ck 3 (ae (by cases H;exact og (sg [0,2,4,6,7,8]))))
  refine bk 1 (sr (ck 2 (bx H λ r173 h461 H=>ca false (Sl h461) (en (cn H (λ H=>?_) (λ H=>?_))))))
  ·exact rz (ck 3 (bx H λ l54 h462 H=>sp (A6 A1 2 1 h462) (ck 1 (ae (qN (qs (sg [0,2,4,6,7,8]) (hFR32_Made_J1 l54 H)))))))
  ·exact sk (qN (qs (sg [0,2,4,6,7,8]) (hFR32_Made_J1 l_1 H)))
 ·exact ex 0 (qx (by cases H;exact xo rfl (sg [0,2,4,6,7])))
theorem UP {z} (H:OM n p0_ p1_ p2_=some z):Aq Tryz.prog 10 [.d (.sl (p0_.map AD)),.agg (DM p1_),.d (.str p2_)] (.agg [.d (.int .i64 z.Block),.d (.int .i64 z.At),.d (.int .i64 z.Cut),.d (.str z.Put)]):=by
 refine fO 77 (Jju p0_ p1_ p2_) Tryz.func10 (sr (ck 2 (en (sr (ck 2 (en (sq (sr (ck 1 (en (bk 0 (bx H λ y146 h463 H=>lX Qq h463 (sg [0,2,4,6,7,8]) rfl λ s hE111=>qH (qs (hE111) (sq (sr (ck 3 (en (cn H (λ H=>?_) (λ H=>?_)))))))))))))))))))
 ·exact sr (ck 5 (en (re (qr (by cases H;exact pr rd)))))
 ·refine sk (qz (sr (ck 6 (bx H λ gd12 h464 H=>so (Ef h464) (bx H λ x130 h465 H=>sp (Bm 2 1 h465) (sp (B4 A1 2 0 (ty 3) h465) (ck 3 (en (sr (ck 3 (bx H λ x131 h466 H=>sp (Aj AD h466) (ck 4 (en (sr (ck 5 (bx H λ gd13 h467 H=>so (Ef h467) (ck 2 (en (sr (ck 9 (bx H λ gd14 h468 H=>so (Ef h468) (ck 2 (en (sj (λ (x:Ab)=>Jjy x) (λ (x:Ab)=>Jn n x) z ?_ (λ hFR32_Made_J2=>?_)))))))))))))))))))))))))
  ·intro c_4 H
   exact sr (ck 2 (en (re (by cases H;exact pr rd))))
  refine sr (ck 2 (sp (Au eU8 p1_.Put) (ck 1 (en (cn H (λ H=>?_) (λ H=>?_))))))
  ·exact rz (ck 3 (bx H λ r174 h469 H=>ca false (Jt h469) (ck 2 (ae (qs (sg [6,9]) (hFR32_Made_J2 ({ Block:=x130,At:=Am (IntKind.i64.wrap p1_.At) (Ak .i64 ((x131.Text.length:Nat):Int) 1),Cut:=Am (IntKind.i64.wrap (Am p1_.Cut 4)) (Ak .i64 (AW .i64 ((x131.Text.length:Nat):Int) (Am (IntKind.i64.wrap p1_.At) (Ak .i64 ((x131.Text.length:Nat):Int) 1))) 1),Put:=r174 }:Ab) H))))))
  ·exact sk (qs (sg [6,9]) (hFR32_Made_J2 ({ Block:=x130,At:=Am (IntKind.i64.wrap p1_.At) (Ak .i64 ((x131.Text.length:Nat):Int) 1),Cut:=Am (IntKind.i64.wrap (Am p1_.Cut 4)) (Ak .i64 (AW .i64 ((x131.Text.length:Nat):Int) (Am (IntKind.i64.wrap p1_.At) (Ak .i64 ((x131.Text.length:Nat):Int) 1))) 1),Put:=[] }:Ab) H))
end
section
variable (p0_:(List Ai)) (p1_:(List AS)) (p2_:Int) (out_58:(List AH)) (i_38:Int) (out_59:(List AH))
def Jjz:St:=⟨(0,.d (.sl (p0_.map AD)))::(1,.d (.sl (p1_.map Bc)))::(2,.d (.int .i64 p2_))::[],[]⟩
def JjA:St:=⟨(0,.d (.sl (p0_.map AD)))::(1,.d (.sl (p1_.map Bc)))::(2,.d (.int .i64 p2_))::(7,.osl 0 5 0 (out_58.length))::(8,.d (.int .i64 i_38))::[],[some (.arr 5 (out_58.map AU))]⟩
def JjB:St:=⟨(7,.osl 0 5 0 (out_59.length))::[],[some (.arr 5 (out_59.map AU))]⟩
def Ph:(List AH)->Ex->St->Prop:=xX 0 0 (λ (y:(List AH))=>JjB y)
def IS:((List AH)×Int)->St:=(λ (x:((List AH)×Int))=>JjA p0_ p1_ p2_ x.1 x.2)
variable {p0_ p1_ p2_ out_58 i_38 out_59}
theorem N3 (x:((List AH)×Int)) (z:(((List AH)×Int)⊕(List AH))) (H:ED n p0_ p1_ p2_ x.1 x.2=some z):WP (cxk 39 0) (Av Tryz.f16) [1,1,0,1,0,0] (As 0 (IS p0_ p1_ p2_) (Ph) z) (IS p0_ p1_ p2_ x):=by
 obtain ⟨out_58,i_38⟩:=x
 refine sq (sr (ck 2 (sp (Au Bc p1_) (ck 4 (gc 1 (decide (i_38<((p1_.length:Nat):Int))) (pA (en (cn H (λ H=>?_) (λ H=>?_)))))))))
 ·exact sk (qz (sq (bk 1 (rz (ck 3 (bx H λ x136 h507 H=>sp (Aj Bc h507) (ck 7 (bx H λ x137 h508 H=>sp (Aj Bc h508) (ck 1 (bx H λ r200 h509 H=>ca false (UP h509) (ck 2 (bx H λ l57 h510 H=>sp (A6 AU 0 5 h510) (ck 1 (ae (qN (qz (rz (ck 3 (ae (by cases H;exact og (sg [0,1,2,7,8])))))))))))))))))))))
 ·exact ex 0 (qx (by cases H;exact xo rfl (sg [7])))
theorem Sn {z} (H:Kw n p0_ p1_ p2_=some z):Aq Tryz.prog 16 [.d (.sl (p0_.map AD)),.d (.sl (p1_.map Bc)),.d (.int .i64 p2_)] (.own 5 (z.map AU)):=by
 exact fO 39 (Jjz p0_ p1_ p2_) Tryz.func16 (sr (ck 1 (en (sr (ck 2 (en (sq (sr (ck 1 (en (bk 0 (bx H λ y153 h511 H=>lX N3 h511 (sg [0,1,2,7,8]) rfl λ s hE116=>qH (qs (hE116) (sr (ck 2 (en (re (by cases H;exact pr (rO (v:=.osl 0 5 0 (z.length)) [0] (ao vo))))))))))))))))))))
end
section
variable (p0_:Ab) (p1_:Ab)
def JjC:St:=⟨(0,.agg [.d (.int .i64 p0_.Block),.d (.int .i64 p0_.At),.d (.int .i64 p0_.Cut),.d (.str p0_.Put)])::(1,.agg [.d (.int .i64 p1_.Block),.d (.int .i64 p1_.At),.d (.int .i64 p1_.Cut),.d (.str p1_.Put)])::[],[]⟩
variable {p0_ p1_}
theorem Hf {z} (H:D2 n p0_ p1_=some z):Aq Tryz.prog 58 [.agg (Ba p0_),.agg (Ba p1_)] (.d (.bool z)):=by
 exact fO 20 (JjC p0_ p1_) Tryz.func58 (sr (ck 3 (en (sr (ck 7 (gc 1 (p0_.Block==p1_.Block) (ck 1 (gc 2 (p0_.Block==p1_.Block) (ck 1 (gc 2 (p0_.Block==p1_.Block) (pA (ck 1 (en (re (by cases H;exact pr rd)))))))))))))))
end
section
variable (p0_:Ab) (p1_:Ab)
def JjD:St:=⟨(0,.agg [.d (.int .i64 p0_.Block),.d (.int .i64 p0_.At),.d (.int .i64 p0_.Cut),.d (.str p0_.Put)])::(1,.agg [.d (.int .i64 p1_.Block),.d (.int .i64 p1_.At),.d (.int .i64 p1_.Cut),.d (.str p1_.Put)])::[],[]⟩
variable {p0_ p1_}
theorem Jv {z} (H:GH n p0_ p1_=some z):Aq Tryz.prog 41 [.agg (Ba p0_),.agg (Ba p1_)] (.d (.bool z)):=by
 exact fO 19 (JjD p0_ p1_) Tryz.func41 (sr (ck 3 (en (sr (ck 8 (bx H λ r201 h512 H=>cG false (leZ) rfl (λ hg=>Hf (A5 h512 hg)) (Or.inl rfl) (BU (λ hh=>hh) (BU (λ hh=>hh) (CY))) rfl (ck 2 (bx H λ r202 h513 H=>cG false (leZ) rfl (λ hg=>Hf (A5 h513 hg)) (Or.inl rfl) (BU (λ hh=>hh) (BU (λ hh=>hh) (CY))) rfl (gc 1 (!(p0_.Block != p1_.Block)) (pO (ck 1 (en (re (by cases H;exact pr rd))))))))))))))
end
section
variable (p0_:Ab) (p1_:Ab)
def JjE:St:=⟨(0,.agg [.d (.int .i64 p0_.Block),.d (.int .i64 p0_.At),.d (.int .i64 p0_.Cut),.d (.str p0_.Put)])::(1,.agg [.d (.int .i64 p1_.Block),.d (.int .i64 p1_.At),.d (.int .i64 p1_.Cut),.d (.str p1_.Put)])::[],[]⟩
variable {p0_ p1_}
theorem UQ {z} (H:Lr n p0_ p1_=some z):Aq Tryz.prog 60 [.agg (Ba p0_),.agg (Ba p1_)] (.d (.bool z)):=by
 refine fO 34 (JjE p0_ p1_) Tryz.func60 (sr (ck 3 (en (sq (sr (ck 5 (en (cn H (λ H=>?_) (λ H=>?_)))))))))
 ·exact sr (ck 6 (en (re (qr (by cases H;exact pr rd)))))
 ·exact sk (qz (sr (ck 7 (gc 1 (!(decide (p0_.At<p1_.At))) (ck 1 (gc 3 (!(decide (p0_.At<p1_.At))) (ck 1 (gc 1 ((!(decide (p0_.At<p1_.At)))&&(p0_.At==p1_.At)) (ck 1 (gc 2 ((!(decide (p0_.At<p1_.At)))&&(p0_.At==p1_.At)) (pG (g:=(!(decide (p0_.At<p1_.At)))) (v:=.d (.bool ((p0_.At==p1_.At)&&(decide (p0_.Cut<p1_.Cut))))) (λ hg=>CV (c:=.gv (!(decide (p0_.At<p1_.At))) (.d (.bool (p0_.At==p1_.At)))) (a:=.gv ((!(decide (p0_.At<p1_.At)))&&(p0_.At==p1_.At)) (.d (.bool (decide (p0_.Cut<p1_.Cut))))) (b:=.d (.bool false)) rfl rfl rfl ((λ hh=>hh) hg) (λ ht=>by rw [(λ hh=>hh) hg,ht];rfl) trivial) (pO (ck 1 (en (re (by cases H;exact pr rd))))))))))))))))
end
section
variable (p1_:Ab) (o0_:(List Ab)) (x_28:(List Ab)) (i_41:Int) (out_64:(List Ab)) (done_4:Bool) (i_42:Int) (out_65:(List Ab)) (done_5:Bool) (out_66:(List Ab)) (done_6:Bool) (out_67:(List Ab))
def Jb9:St:=⟨(0,.osl 0 4 0 (o0_.length))::(1,.agg [.d (.int .i64 p1_.Block),.d (.int .i64 p1_.At),.d (.int .i64 p1_.Cut),.d (.str p1_.Put)])::[],[some (.arr 4 (o0_.map Ad))]⟩
def Wk:St:=⟨(4,.osl 1 4 0 (x_28.length))::[],[none,some (.arr 4 (x_28.map Ad))]⟩
def Jca:St:=⟨(0,.osl 0 4 0 (o0_.length))::(3,.ptr 1 0)::(5,.osl 2 4 0 (List.length ([]:List Ab)))::(6,.d (.bool false))::(7,.d (.int .i64 i_41))::[],[some (.arr 4 (o0_.map Ad)),some (.box (Ba p1_)),some (.arr 4 (List.map Ad ([]:List Ab)))]⟩
def Jcb:St:=⟨(0,.osl 0 4 0 (o0_.length))::(3,.ptr 1 0)::(5,.osl 2 4 0 (List.length ([]:List Ab)))::(6,.d (.bool false))::[],[some (.arr 4 (o0_.map Ad)),some (.box (Ba p1_)),some (.arr 4 (List.map Ad ([]:List Ab)))]⟩
def N4:(Unit⊕(List Ab))->Ex->St->Prop:=xS (xX 1 0 (λ (y:Unit)=>Jcb p1_ o0_)) (xL 1 ty Tryz.f43 (λ (y:(List Ab))=>.osl 1 4 0 (y.length)) (λ (y:(List Ab))=>[none,some (.arr 4 (y.map Ad))]))
def HP:Int->St:=(λ (x:Int)=>Jca p1_ o0_ x)
def Jcc:St:=⟨(0,.osl 0 4 0 (o0_.length))::(3,.ptr 1 0)::(5,.osl 2 4 0 (out_64.length))::(6,.d (.bool done_4))::(8,.d (.int .i64 i_42))::[],[some (.arr 4 (o0_.map Ad)),some (.box (Ba p1_)),some (.arr 4 (out_64.map Ad))]⟩
def Jcd:St:=⟨(3,.ptr 1 0)::(5,.osl 2 4 0 (out_65.length))::(6,.d (.bool done_5))::[],[some (.arr 4 (o0_.map Ad)),some (.box (Ba p1_)),some (.arr 4 (out_65.map Ad))]⟩
def Jce:St:=⟨(0,.osl 0 4 0 (o0_.length))::(3,.ptr 1 0)::(5,.osl 2 4 0 (out_66.length))::(6,.d (.bool done_6))::(8,.d (.int .i64 i_42))::[],[some (.arr 4 (o0_.map Ad)),some (.box (Ba p1_)),some (.arr 4 (out_66.map Ad))]⟩
def N5:((List Ab)×Bool)->Ex->St->Prop:=xX 1 2 (λ (y:((List Ab)×Bool))=>Jcd p1_ o0_ y.1 y.2)
def HQ:((List Ab)×Bool×Int)->St:=(λ (x:((List Ab)×Bool×Int))=>Jcc p1_ o0_ x.1 x.2.1 x.2.2)
def Jcf:St:=⟨(5,.osl 1 4 0 (out_67.length))::[],[some (.arr 4 (o0_.map Ad)),some (.arr 4 (out_67.map Ad))]⟩
variable {p1_ o0_ x_28 i_41 out_64 done_4 i_42 out_65 done_5 out_66 done_6 out_67}
theorem Hg (x:Int) (z:(Int⊕(Unit⊕(List Ab)))) (H:DK n p1_ o0_ x=some z):WP (cxk 57 1) (Av Tryz.f43) [1,1,0,1,0,0] (As 1 (HP p1_ o0_) (N4 p1_ o0_) z) (HP p1_ o0_ x):=by
 revert H
 generalize x=i_41
 intro H
 refine sq (sr (ck 4 (en (cn H (λ H=>?_) (λ H=>?_)))))
 ·refine sk (qz (sq (bk 1 (sr (ck 2 (bx H λ x141 h523 H=>sp (Bm 0 4 h523) (sp (B4 Ad 0 0 (ty 33) h523) (ck 2 (en (cn H (λ H=>?_) (λ H=>?_)))))))))))
  ·exact sr (ck 2 (en (re (qR (qr (by cases H;exact lo rfl (rl (s':=Wk o0_) (tr (XF (k:=0) (sz:=4) 4 (o0_.map Ad) (o0_.length) (by kernel_rfl) FE leM rfl) (sg [4])))))))))
  ·exact sk (qN (qz (rz (ck 3 (ae (by cases H;exact og (sg [0,3,5,6,7])))))))
 ·exact ex 0 (qx (by cases H;exact xo rfl (sg [0,3,5,6])))
theorem MV (x:((List Ab)×Bool×Int)) (z:(((List Ab)×Bool×Int)⊕((List Ab)×Bool))) (H:DL n p1_ o0_ x.1 x.2.1 x.2.2=some z):WP (cxk 57 1) (Av Tryz.f43) [1,1,1,0,1,0,0] (As 1 (HQ p1_ o0_) (N5 p1_ o0_) z) (HQ p1_ o0_ x):=by
 obtain ⟨out_64,done_4,i_42⟩:=x
 refine sq (sr (ck 4 (en (cn H (λ H=>?_) (λ H=>?_)))))
 ·refine sk (qz (sq (bk 3 (sj (λ (x:((List Ab)×Bool))=>Jce p1_ o0_ i_42 x.1 x.2) (λ (x:((List Ab)×Bool))=>FW n o0_ i_42 x.1 x.2) z ?_ (λ hFR32_insertx_J1=>?_)))))
  ·rintro ⟨out_66,done_6⟩ H
   exact rz (ck 3 (bx H λ x142 h525 H=>sp (Bm 0 4 h525) (sp (B4 Ad 0 0 (ty 33) h525) (ck 1 (bx H λ l61 h526 H=>sp (A6 Ad 2 4 h526) (ck 1 (ae (qN (qz (rz (ck 3 (ae (by cases H;exact og (sg [0,3,5,6,8]))))))))))))))
  refine sr (ck 6 (bx H λ x143 h527 H=>sE (λ hg=>Bm 0 4 (A5 h527 hg)) (sE (g:=(!done_4)) (λ hg=>B4 Ad 0 0 (ty 33) (A5 h527 hg)) (bx H λ r204 h528 H=>cG false (leZ) rfl (λ hg=>UQ (A5 h528 hg)) (Or.inl rfl) (BU (λ hh=>hh) (BU (λ hh=>hh) (CY))) rfl (pA (en (cn H (λ H=>?_) (λ H=>?_))))))))
  ·exact sr (ck 3 (bx H λ l62 h529 H=>sp (A6 Ad 2 4 h529) (ck 1 (en (rz (ck 1 (ae (qs (sg [0,3,5,6,8]) (hFR32_insertx_J1 (l62,true) H)))))))))
  ·exact sk (qs (sg [0,3,5,6,8]) (hFR32_insertx_J1 (out_64,done_4) H))
 ·exact ex 2 (qx (by cases H;exact xo rfl (sg [3,5,6])))
theorem Qr {z} (H:Jo n p1_ o0_=some z):BL Tryz.prog 43 [.osl 0 4 0 (o0_.length),.agg (Ba p1_)] [some (.arr 4 (o0_.map Ad))] 1 (.osl 1 4 0 (z.length)) [none,some (.arr 4 (z.map Ad))]:=by
 refine fL 57 1 (Jb9 p1_ o0_) Tryz.func43 (sr (ck 2 (en (sr (ck 3 (en (sq (sr (ck 1 (en (bk 0 (bx H λ y158 h524 H=>?_))))))))))))
 rcases y158 with y159|y160
 ·refine lX Hg h524 (sg [0,3,5,6,7]) rfl λ s hE120=>qH (qs (hE120) (sq (sr (ck 1 (en (bk 2 (bx H λ y161 h530 H=>lX MV h530 (sg [0,3,5,6,8]) rfl λ s hE121=>qH (qs (hE121) (sj (λ (x:(List Ab))=>Jcf o0_ x) (λ (x:(List Ab))=>FX n x) z ?_ (λ hFR32_insertx_J2=>?_))))))))))
  ·intro out_67 H
   exact sr (ck 2 (en (re (by cases H;exact pL (rl (s':=Wk z) (tr (Ur 0 rfl) (sg [4])))))))
  refine sr (ck 2 (en (cn H (λ H=>?_) (λ H=>?_))))
  ·exact rz (ck 3 (bx H λ l63 h531 H=>sp (A6 Ad 2 4 h531) (ck 1 (ae (qs (sg [5]) (hFR32_insertx_J2 l63 H))))))
  ·exact sk (qs (sg [5]) (hFR32_insertx_J2 y161.1 H))
 ·exact lL Hg h524 (sg [0,3,5,6,7]) rfl λ s hE122=>qR (qr (by cases H;exact pL hE122))
end
section
variable (p0_:(List AH)) (out_68:(List Ab)) (i_43:Int) (out_69:(List Ab)) (out_70:(List Ab)) (free_9:Bool) (k_24:Int) (free_10:Bool)
def JjF:St:=⟨(0,.d (.sl (p0_.map AU)))::[],[]⟩
def JjG:St:=⟨(0,.d (.sl (p0_.map AU)))::(3,.osl 0 4 0 (out_68.length))::(4,.d (.int .i64 i_43))::[],[some (.arr 4 (out_68.map Ad))]⟩
def JjH:St:=⟨(3,.osl 0 4 0 (out_69.length))::[],[some (.arr 4 (out_69.map Ad))]⟩
def JjI:St:=⟨(0,.d (.sl (p0_.map AU)))::(3,.osl 0 4 0 (out_70.length))::(4,.d (.int .i64 i_43))::[],[some (.arr 4 (out_70.map Ad))]⟩
def JjJ:St:=⟨(0,.d (.sl (p0_.map AU)))::(3,.osl 0 4 0 (out_68.length))::(4,.d (.int .i64 i_43))::(5,.d (.bool free_9))::(6,.d (.int .i64 k_24))::[],[some (.arr 4 (out_68.map Ad))]⟩
def JjK:St:=⟨(0,.d (.sl (p0_.map AU)))::(3,.osl 0 4 0 (out_68.length))::(4,.d (.int .i64 i_43))::(5,.d (.bool free_10))::[],[some (.arr 4 (out_68.map Ad))]⟩
def Pi:Bool->Ex->St->Prop:=xX 0 2 (λ (y:Bool)=>JjK p0_ out_68 i_43 y)
def IT:(Bool×Int)->St:=(λ (x:(Bool×Int))=>JjJ p0_ out_68 i_43 x.1 x.2)
def Pj:(List Ab)->Ex->St->Prop:=xX 0 0 (λ (y:(List Ab))=>JjH y)
def IU:((List Ab)×Int)->St:=(λ (x:((List Ab)×Int))=>JjG p0_ x.1 x.2)
variable {p0_ out_68 i_43 out_69 out_70 free_9 k_24 free_10}
theorem N6 (x:(Bool×Int)) (z:((Bool×Int)⊕Bool)) (H:EE n p0_ out_68 i_43 x.1 x.2=some z):WP (cxk 56 0) (Av Tryz.f20) [1,1,0,1,0,0,1,0,0,1,0,1,0,0] (As 0 (IT p0_ out_68 i_43) (Pi p0_ out_68 i_43) z) (IT p0_ out_68 i_43 x):=by
 obtain ⟨free_9,k_24⟩:=x
 refine sq (sr (ck 2 (sp (Au AU p0_) (ck 1 (en (cn H (λ H=>?_) (λ H=>?_)))))))
 ·exact sk (qz (sq (bk 3 (rz (ck 4 (bx H λ x144 h532 H=>sE (λ hg=>Aj AU (A5 h532 hg)) (gc 2 free_9 (ck 2 (bx H λ x145 h533 H=>sE (λ hg=>Aj AU (A5 h533 hg)) (gc 4 free_9 (ck 2 (bx H λ x146 h534 H=>sE (λ hg=>Aj AU (A5 h534 hg)) (gc 2 (free_9&&!((x144.C.Block==x145.C.Block)&&((x144.C.At==x145.C.At)&&((x144.C.Cut==x145.C.Cut)&&((x144.C.Put==x145.C.Put)&&true))))) (ck 2 (bx H λ x147 h535 H=>sE (λ hg=>Aj AU (A5 h535 hg)) (gc 2 (free_9&&!((x144.C.Block==x145.C.Block)&&((x144.C.At==x145.C.At)&&((x144.C.Cut==x145.C.Cut)&&((x144.C.Put==x145.C.Put)&&true))))) (bx H λ r205 h536 H=>cG false (leZ) rfl (λ hg=>Jv (A5 h536 hg)) (Or.inl rfl) (BU (λ hh=>hh) (BU (λ hh=>hh) (CY))) rfl (pG (g:=free_9) (v:=.d (.bool (((x144.C.Block==x145.C.Block)&&((x144.C.At==x145.C.At)&&((x144.C.Cut==x145.C.Cut)&&((x144.C.Put==x145.C.Put)&&true))))||r205))) (λ hg=>CV (c:=.gv free_9 (.d (.bool ((x144.C.Block==x145.C.Block)&&((x144.C.At==x145.C.At)&&((x144.C.Cut==x145.C.Cut)&&((x144.C.Put==x145.C.Put)&&true))))))) (a:=.d (.bool true)) (b:=.gv (free_9&&!((x144.C.Block==x145.C.Block)&&((x144.C.At==x145.C.At)&&((x144.C.Cut==x145.C.Cut)&&((x144.C.Put==x145.C.Put)&&true))))) (.d (.bool r205))) rfl rfl rfl ((λ hh=>hh) hg) trivial (λ ht=>by rw [(λ hh=>hh) hg,ht];rfl)) (pA (ck 1 (ae (qN (qz (rz (ck 3 (ae (by cases H;exact og (sg [0,3,4,5,6]))))))))))))))))))))))))))))
 ·exact ex 2 (qx (by cases H;exact xo rfl (sg [0,3,4,5])))
theorem N7 (x:((List Ab)×Int)) (z:(((List Ab)×Int)⊕(List Ab))) (H:EF n p0_ x.1 x.2=some z):WP (cxk 56 0) (Av Tryz.f20) [1,1,0,1,0,0] (As 0 (IU p0_) (Pj) z) (IU p0_ x):=by
 obtain ⟨out_68,i_43⟩:=x
 refine sq (sr (ck 2 (sp (Au AU p0_) (ck 1 (en (cn H (λ H=>?_) (λ H=>?_)))))))
 ·refine sk (qz (sj (λ (x:(List Ab))=>JjI p0_ i_43 x) (λ (x:(List Ab))=>G1 n i_43 x) z ?_ (λ hFR32_Agreed_J1=>?_)))
  ·intro out_70 H
   exact rz (ck 3 (ae (by cases H;exact og (sg [0,3,4]))))
  refine bk 1 (sr (ck 1 (en (sq (sr (ck 1 (en (bk 2 (bx H λ y162 h537 H=>lX N6 h537 (sg [0,3,4,5,6]) rfl λ s hE123=>qH (qs (hE123) (sr (ck 1 (en (cn H (λ H=>?_) (λ H=>?_)))))))))))))))
  ·exact rz (ck 3 (bx H λ x148 h538 H=>sp (Aj AU h538) (ck 2 (bx H λ r206 h539 H=>lt [0] (Qr h539) (ck 1 (ae (qN (qs (sg [0,3,4]) (hFR32_Agreed_J1 r206 H)))))))))
  ·exact sk (qN (qs (sg [0,3,4]) (hFR32_Agreed_J1 out_68 H)))
 ·exact ex 0 (qx (by cases H;exact xo rfl (sg [3])))
theorem K2 {z} (H:HF n p0_=some z):Aq Tryz.prog 20 [.d (.sl (p0_.map AU))] (.own 4 (z.map Ad)):=by
 exact fO 56 (JjF p0_) Tryz.func20 (sr (ck 1 (en (sr (ck 2 (en (sq (sr (ck 1 (en (bk 0 (bx H λ y163 h540 H=>lX N7 h540 (sg [0,3,4]) rfl λ s hE124=>qH (qs (hE124) (sr (ck 2 (en (re (by cases H;exact pr (rO (v:=.osl 0 4 0 (z.length)) [0] (ao vo))))))))))))))))))))
end
section
variable (p0_:Ab) (p1_:Ab) (c_5:Ab)
def JjL:St:=⟨(0,.agg [.d (.int .i64 p0_.Block),.d (.int .i64 p0_.At),.d (.int .i64 p0_.Cut),.d (.str p0_.Put)])::(1,.agg [.d (.int .i64 p1_.Block),.d (.int .i64 p1_.At),.d (.int .i64 p1_.Cut),.d (.str p1_.Put)])::[],[]⟩
def JjM:St:=⟨(2,.ptr 0 0)::(4,.ptr 1 0)::[],[some (.box (Ba c_5)),some (.box [.d (.int .i64 0),.d (.int .i64 0),.d (.int .i64 0),.d (.str [])])]⟩
variable {p0_ p1_ c_5}
theorem UR {z} (H:Ls n p0_ p1_=some z):Aq Tryz.prog 59 [.agg (Ba p0_),.agg (Ba p1_)] (.tup [.agg [.d (.int .i64 z.1.Block),.d (.int .i64 z.1.At),.d (.int .i64 z.1.Cut),.d (.str z.1.Put)],.d (.bool z.2)]):=by
 refine fO 25 (JjL p0_ p1_) Tryz.func59 (sr (ck 4 (en (sq (sr (ck 2 (bx H λ r207 h541 H=>ca false (Jv h541) (ck 1 (en (cn H (λ H=>?_) (λ H=>?_)))))))))))
 ·exact sr (ck 3 (en (re (qr (by cases H;exact pr rdT)))))
 ·refine sk (qz (sj (λ (x:Ab)=>JjM x) (λ (x:Ab)=>Jp n x) z ?_ (λ hFR32_Over_J1=>?_)))
  ·intro c_5 H
   exact sr (ck 3 (en (re (by cases H;exact pr rdT))))
  refine sr (ck 2 (bx H λ r208 h542 H=>ca false (Hf h542) (en (cn H (λ H=>?_) (λ H=>?_)))))
  ·exact rz (ck 11 (ae (qs (sg [2,4]) (hFR32_Over_J1 ({ Block:=p0_.Block,At:=Ak .i64 p0_.At (AW .i64 ((p1_.Put.length:Nat):Int) p1_.Cut),Cut:=p0_.Cut,Put:=p0_.Put }:Ab) H))))
  ·exact sk (qs (sg [2,4]) (hFR32_Over_J1 p0_ H))
end
section
variable (p0_:Ab) (p1_:(List Ab)) (c_6:Ab) (i_44:Int) (c_7:Ab)
def JjN:St:=⟨(0,.agg [.d (.int .i64 p0_.Block),.d (.int .i64 p0_.At),.d (.int .i64 p0_.Cut),.d (.str p0_.Put)])::(1,.d (.sl (p1_.map Ad)))::[],[]⟩
def JjO:St:=⟨(1,.d (.sl (p1_.map Ad)))::(2,.ptr 0 0)::(4,.ptr 1 0)::(7,.d (.int .i64 i_44))::[],[some (.box (Ba c_6)),some (.box [.d (.int .i64 0),.d (.int .i64 0),.d (.int .i64 0),.d (.str [])])]⟩
def JjP:St:=⟨(1,.d (.sl (p1_.map Ad)))::(2,.ptr 0 0)::(4,.ptr 1 0)::[],[some (.box (Ba c_7)),some (.box [.d (.int .i64 0),.d (.int .i64 0),.d (.int .i64 0),.d (.str [])])]⟩
def Qs:(Ab⊕(Ab×Int×Bool))->Ex->St->Prop:=xS (xX 0 0 (λ (y:Ab)=>JjP p1_ y)) (xR ty Tryz.f42 (λ (y:(Ab×Int×Bool))=>.tup [.agg [.d (.int .i64 y.1.Block),.d (.int .i64 y.1.At),.d (.int .i64 y.1.Cut),.d (.str y.1.Put)],.d (.int .i64 y.2.1),.d (.bool y.2.2)]))
def JX:(Ab×Int)->St:=(λ (x:(Ab×Int))=>JjO p1_ x.1 x.2)
variable {p0_ p1_ c_6 i_44 c_7}
theorem IV (x:(Ab×Int)) (z:((Ab×Int)⊕(Ab⊕(Ab×Int×Bool)))) (H:Fu n p1_ x.1 x.2=some z):WP (cxk 33 0) (Av Tryz.f42) [1,0,1,0,0] (As 0 (JX p1_) (Qs p1_) z) (JX p1_ x):=by
 obtain ⟨c_6,i_44⟩:=x
 refine sq (sr (ck 2 (sp (Au Ad p1_) (ck 1 (en (cn H (λ H=>?_) (λ H=>?_)))))))
 ·refine sk (qz (sq (bk 1 (sr (ck 3 (bx H λ x149 h543 H=>sp (Aj Ad h543) (ck 1 (bx H λ r209 h544 H=>ca false (UR h544) (ck 6 (en (sq (sr (ck 2 (en (cn H (λ H=>?_) (λ H=>?_))))))))))))))))
  ·exact sr (ck 5 (en (re (qr (qR (qr (by cases H;exact ro rfl rdT)))))))
  ·exact sk (qz (rz (ck 2 (ae (qN (qz (rz (ck 3 (ae (by cases H;exact og (sg [1,2,4,7])))))))))))
 ·exact ex 0 (qx (by cases H;exact xo rfl (sg [1,2,4])))
theorem Td {z} (H:MF n p0_ p1_=some z):Aq Tryz.prog 42 [.agg (Ba p0_),.d (.sl (p1_.map Ad))] (.tup [.agg [.d (.int .i64 z.1.Block),.d (.int .i64 z.1.At),.d (.int .i64 z.1.Cut),.d (.str z.1.Put)],.d (.int .i64 z.2.1),.d (.bool z.2.2)]):=by
 refine fO 33 (JjN p0_ p1_) Tryz.func42 (sr (ck 4 (en (sq (sr (ck 1 (en (bk 0 (bx H λ y164 h545 H=>?_)))))))))
 rcases y164 with y165|y166
 ·exact lX IV h545 (sg [1,2,4,7]) rfl λ s hE125=>qH (qs (hE125) (sr (ck 2 (sp (Au Ad p1_) (ck 3 (en (re (by cases H;exact pr rdT))))))))
 ·exact lR IV h545 (sg [1,2,4,7]) rfl λ s hE126=>qR (qr (by cases H;exact pr hE126))
end
section
variable (p0_:(List AH)) (r210:(List Ab)) (v_9:Af) (i_45:Int) (v_10:Af) (v_11:Af) (k_25:Int) (v_12:Af) (v_13:Af) (v_14:Af) (i_46:Int) (v_15:Af)
def JjQ:St:=⟨(0,.d (.sl (p0_.map AU)))::[],[]⟩
def JjR:St:=⟨(0,.d (.sl (p0_.map AU)))::(2,.ptr 0 0)::(3,.ptr 1 0)::(4,.d (.sl (r210.map Ad)))::(5,.d (.int .i64 i_45))::[],[some (.box [.osl 2 4 0 (List.length ([]:List Ab)),.osl 3 2 0 (List.length ([]:List (BF Int)))]),some (.box [.osl 4 4 0 (v_9.Agreed.length),.osl 5 2 0 (v_9.Quarrels.length)]),some (.arr 4 (List.map Ad ([]:List Ab))),some (.arr 2 (List.map (AY A1) ([]:List (BF Int)))),some (.arr 4 (v_9.Agreed.map Ad)),some (.arr 2 (v_9.Quarrels.map (AY A1)))]⟩
def JjS:St:=⟨(2,.ptr 0 0)::(3,.ptr 1 0)::(4,.d (.sl (r210.map Ad)))::[],[some (.box [.osl 2 4 0 (List.length ([]:List Ab)),.osl 3 2 0 (List.length ([]:List (BF Int)))]),some (.box [.osl 4 4 0 (v_10.Agreed.length),.osl 5 2 0 (v_10.Quarrels.length)]),some (.arr 4 (List.map Ad ([]:List Ab))),some (.arr 2 (List.map (AY A1) ([]:List (BF Int)))),some (.arr 4 (v_10.Agreed.map Ad)),some (.arr 2 (v_10.Quarrels.map (AY A1)))]⟩
def JjT:St:=⟨(0,.d (.sl (p0_.map AU)))::(2,.ptr 0 0)::(3,.ptr 1 0)::(4,.d (.sl (r210.map Ad)))::(5,.d (.int .i64 i_45))::(6,.d (.int .i64 k_25))::[],[some (.box [.osl 2 4 0 (List.length ([]:List Ab)),.osl 3 2 0 (List.length ([]:List (BF Int)))]),some (.box [.osl 4 4 0 (v_11.Agreed.length),.osl 5 2 0 (v_11.Quarrels.length)]),some (.arr 4 (List.map Ad ([]:List Ab))),some (.arr 2 (List.map (AY A1) ([]:List (BF Int)))),some (.arr 4 (v_11.Agreed.map Ad)),some (.arr 2 (v_11.Quarrels.map (AY A1)))]⟩
def JjU:St:=⟨(0,.d (.sl (p0_.map AU)))::(2,.ptr 0 0)::(3,.ptr 1 0)::(4,.d (.sl (r210.map Ad)))::(5,.d (.int .i64 i_45))::[],[some (.box [.osl 2 4 0 (List.length ([]:List Ab)),.osl 3 2 0 (List.length ([]:List (BF Int)))]),some (.box [.osl 4 4 0 (v_12.Agreed.length),.osl 5 2 0 (v_12.Quarrels.length)]),some (.arr 4 (List.map Ad ([]:List Ab))),some (.arr 2 (List.map (AY A1) ([]:List (BF Int)))),some (.arr 4 (v_12.Agreed.map Ad)),some (.arr 2 (v_12.Quarrels.map (AY A1)))]⟩
def JjV:St:=⟨(0,.d (.sl (p0_.map AU)))::(2,.ptr 0 0)::(3,.ptr 1 0)::(4,.d (.sl (r210.map Ad)))::(5,.d (.int .i64 i_45))::(6,.d (.int .i64 k_25))::[],[some (.box [.osl 2 4 0 (List.length ([]:List Ab)),.osl 3 2 0 (List.length ([]:List (BF Int)))]),some (.box [.osl 4 4 0 (v_13.Agreed.length),.osl 5 2 0 (v_13.Quarrels.length)]),some (.arr 4 (List.map Ad ([]:List Ab))),some (.arr 2 (List.map (AY A1) ([]:List (BF Int)))),some (.arr 4 (v_13.Agreed.map Ad)),some (.arr 2 (v_13.Quarrels.map (AY A1)))]⟩
def So:Af->Ex->St->Prop:=xX 0 2 (λ (y:Af)=>JjU p0_ r210 i_45 y)
def K3:(Af×Int)->St:=(λ (x:(Af×Int))=>JjT p0_ r210 i_45 x.1 x.2)
def Sp:Af->Ex->St->Prop:=xX 0 0 (λ (y:Af)=>JjS r210 y)
def K4:(Af×Int)->St:=(λ (x:(Af×Int))=>JjR p0_ r210 x.1 x.2)
def JjW:St:=⟨(2,.ptr 0 0)::(3,.ptr 1 0)::(4,.d (.sl (r210.map Ad)))::(7,.d (.int .i64 i_46))::[],[some (.box [.osl 2 4 0 (List.length ([]:List Ab)),.osl 3 2 0 (List.length ([]:List (BF Int)))]),some (.box [.osl 4 4 0 (v_14.Agreed.length),.osl 5 2 0 (v_14.Quarrels.length)]),some (.arr 4 (List.map Ad ([]:List Ab))),some (.arr 2 (List.map (AY A1) ([]:List (BF Int)))),some (.arr 4 (v_14.Agreed.map Ad)),some (.arr 2 (v_14.Quarrels.map (AY A1)))]⟩
def JjX:St:=⟨(2,.ptr 0 0)::(3,.ptr 1 0)::[],[some (.box [.osl 2 4 0 (List.length ([]:List Ab)),.osl 3 2 0 (List.length ([]:List (BF Int)))]),some (.box [.osl 4 4 0 (v_15.Agreed.length),.osl 5 2 0 (v_15.Quarrels.length)]),some (.arr 4 (List.map Ad ([]:List Ab))),some (.arr 2 (List.map (AY A1) ([]:List (BF Int)))),some (.arr 4 (v_15.Agreed.map Ad)),some (.arr 2 (v_15.Quarrels.map (AY A1)))]⟩
def Sr:Af->Ex->St->Prop:=xX 0 4 (λ (y:Af)=>JjX y)
def K5:(Af×Int)->St:=(λ (x:(Af×Int))=>JjW r210 x.1 x.2)
variable {p0_ r210 v_9 i_45 v_10 v_11 k_25 v_12 v_13 v_14 i_46 v_15}
theorem Qt (x:(Af×Int)) (z:((Af×Int)⊕Af)) (H:Jr n p0_ r210 i_45 x.1 x.2=some z):WP (cxk 85 0) (Av Tryz.f19) [1,1,0,1,0,0,1,0,0,1,0,0] (As 0 (K3 p0_ r210 i_45) (So p0_ r210 i_45) z) (K3 p0_ r210 i_45 x):=by
 obtain ⟨v_11,k_25⟩:=x
 refine sq (sr (ck 2 (sp (Au AU p0_) (ck 1 (en (cn H (λ H=>?_) (λ H=>?_)))))))
 ·refine sk (qz (sj (λ (x:Af)=>JjV p0_ r210 i_45 k_25 x) (λ (x:Af)=>Jq n k_25 x) z ?_ (λ hFR32_Join_J1=>?_)))
  ·intro v_13 H
   exact rz (ck 3 (ae (by cases H;exact og (sg [0,2,3,4,5,6]))))
  refine bk 3 (sr (ck 2 (bx H λ x150 h547 H=>sp (Aj AU h547) (ck 4 (bx H λ x151 h548 H=>sp (Aj AU h548) (ck 6 (bx H λ x152 h549 H=>sE (λ hg=>Aj AU (A5 h549 hg)) (gc 2 (!((x150.C.Block==x151.C.Block)&&((x150.C.At==x151.C.At)&&((x150.C.Cut==x151.C.Cut)&&((x150.C.Put==x151.C.Put)&&true))))) (ck 2 (bx H λ x153 h550 H=>sE (λ hg=>Aj AU (A5 h550 hg)) (gc 2 (!((x150.C.Block==x151.C.Block)&&((x150.C.At==x151.C.At)&&((x150.C.Cut==x151.C.Cut)&&((x150.C.Put==x151.C.Put)&&true))))) (bx H λ r211 h551 H=>cG false (leZ) rfl (λ hg=>Jv (A5 h551 hg)) (Or.inl rfl) (BU (λ hh=>hh) (BU (λ hh=>hh) (CY))) rfl (gc 1 (!((x150.C.Block==x151.C.Block)&&((x150.C.At==x151.C.At)&&((x150.C.Cut==x151.C.Cut)&&((x150.C.Put==x151.C.Put)&&true))))) (pA (en (cn H (λ H=>?_) (λ H=>?_)))))))))))))))))
  ·exact rz (ck 6 (bx H λ l64 h552 H=>sp (A6 (AY A1) 5 2 h552) (ck 2 (ae (qN (qs (sg [0,2,3,4,5,6]) (hFR32_Join_J1 ({ Agreed:=v_11.Agreed,Quarrels:=l64 }:Af) H)))))))
  ·exact sk (qN (qs (sg [0,2,3,4,5,6]) (hFR32_Join_J1 v_11 H)))
 ·exact ex 2 (qx (by cases H;exact xo rfl (sg [0,2,3,4,5])))
theorem Qu (x:(Af×Int)) (z:((Af×Int)⊕Af)) (H:Gy n p0_ r210 x.1 x.2=some z):WP (cxk 85 0) (Av Tryz.f19) [1,1,0,1,0,0] (As 0 (K4 p0_ r210) (Sp r210) z) (K4 p0_ r210 x):=by
 obtain ⟨v_9,i_45⟩:=x
 refine sq (sr (ck 2 (sp (Au AU p0_) (ck 1 (en (cn H (λ H=>?_) (λ H=>?_)))))))
 ·exact sk (qz (sq (bk 1 (sr (ck 3 (en (bk 2 (bx H λ y167 h553 H=>lX Qt h553 (sg [0,2,3,4,5,6]) rfl λ s hE127=>qH (qN (qs (hE127) (rz (ck 3 (ae (by cases H;exact og (sg [0,2,3,4,5])))))))))))))))
 ·exact ex 0 (qx (by cases H;exact xo rfl (sg [2,3,4])))
theorem Qv (x:(Af×Int)) (z:((Af×Int)⊕Af)) (H:Gz n r210 x.1 x.2=some z):WP (cxk 85 0) (Av Tryz.f19) [1,1,1,0,1,0,0] (As 0 (K5 r210) (Sr) z) (K5 r210 x):=by
 obtain ⟨v_14,i_46⟩:=x
 refine sq (sr (ck 2 (sp (Au Ad r210) (ck 1 (en (cn H (λ H=>?_) (λ H=>?_)))))))
 ·exact sk (qz (sq (bk 5 (sr (ck 2 (bx H λ x154 h555 H=>sp (Aj Ad h555) (ck 3 (bx H λ r212 h556 H=>cb (ks:=[4]) (obl:=[(0+List.length v_14.Agreed,List.length (v_14.Agreed.map Ad))]) false (leK leM (leZ)) (Cy rfl (Cy F4 rfl)) (Td h556) (Or.inr ⟨⟨trivial,⟨trivial,⟨trivial,⟨trivial,trivial⟩⟩⟩⟩,⟨trivial,⟨trivial,trivial⟩⟩⟩) rfl (ck 8 (en (rz (ck 4 (bx H λ l65 h557 H=>sp (A6 Ad 4 4 h557) (ck 2 (ae (qN (qz (rz (ck 3 (ae (by cases H;exact og (sg [2,3,4,7]))))))))))))))))))))))
 ·exact ex 4 (qx (by cases H;exact xo rfl (sg [2,3])))
theorem US {z} (H:ON n p0_=some z):Aq Tryz.prog 19 [.d (.sl (p0_.map AU))] (.agg [.own 4 (z.Agreed.map Ad),.own 2 (z.Quarrels.map (AY A1))]):=by
 exact fO 85 (JjQ p0_) Tryz.func19 (sr (ck 1 (en (sr (ck 2 (bx H λ r210 h546 H=>ca false (K2 h546) (ck 3 (en (sq (sr (ck 1 (en (bk 0 (bx H λ y168 h554 H=>lX Qu h554 (tr (tr (tr (tr (Bj 0 0 4 (by kernel_rfl)) (Bj 0 1 2 (by kernel_rfl))) (Bj 1 0 4 (by kernel_rfl))) (Bj 1 1 2 (by kernel_rfl))) (sg [0,2,3,4,5])) rfl λ s hE128=>qH (qs (hE128) (sq (sr (ck 1 (en (bk 4 (bx H λ y169 h558 H=>lX Qv h558 (sg [2,3,4,7]) rfl λ s hE129=>qH (qs (hE129) (sr (ck 2 (en (re (by cases H;exact pr (rO (v:=.agg [.osl 4 4 0 (z.Agreed.length),.osl 5 2 0 (z.Quarrels.length)]) [4,5] (a1 (c1 vo (c1 vo (c0))))))))))))))))))))))))))))))))
end
section
variable (p0_:(List Be)) (p1_:(List AS)) (r213:Bool) (r215:(List AH)) (r216:Af) (r219:(List Ab)) (i_47:Int) (in_1:Bool) (k_26:Int) (in_2:Bool) (y170:Bool) (agreed_4:Bool) (k_27:Int) (agreed_5:Bool)
def Jln:St:=⟨(0,.d (.sl (p0_.map BO)))::(1,.d (.sl (p1_.map Bc)))::[],[]⟩
def Jlo:St:=⟨(5,.d (.bool r213))::(6,.d (.sl (r215.map AU)))::(7,.ptr 0 0)::(8,.d (.sl (r219.map Ad)))::(9,.d (.int .i64 i_47))::[],[some (.box [.d (.sl (r216.Agreed.map Ad)),.d (.sl (r216.Quarrels.map (AY A1)))])]⟩
def Jlp:St:=⟨(5,.d (.bool r213))::(7,.ptr 0 0)::(8,.d (.sl (r219.map Ad)))::[],[some (.box [.d (.sl (r216.Agreed.map Ad)),.d (.sl (r216.Quarrels.map (AY A1)))])]⟩
def Jlq:St:=⟨(5,.d (.bool r213))::(6,.d (.sl (r215.map AU)))::(7,.ptr 0 0)::(8,.d (.sl (r219.map Ad)))::(9,.d (.int .i64 i_47))::(10,.d (.bool in_1))::(11,.d (.bool false))::(12,.d (.int .i64 k_26))::[],[some (.box [.d (.sl (r216.Agreed.map Ad)),.d (.sl (r216.Quarrels.map (AY A1)))])]⟩
def Jlr:St:=⟨(5,.d (.bool r213))::(6,.d (.sl (r215.map AU)))::(7,.ptr 0 0)::(8,.d (.sl (r219.map Ad)))::(9,.d (.int .i64 i_47))::(10,.d (.bool in_2))::(11,.d (.bool false))::[],[some (.box [.d (.sl (r216.Agreed.map Ad)),.d (.sl (r216.Quarrels.map (AY A1)))])]⟩
def K6:Bool->Ex->St->Prop:=xX 0 2 (λ (y:Bool)=>Jlr r213 r215 r216 r219 i_47 y)
def FL:(Bool×Int)->St:=(λ (x:(Bool×Int))=>Jlq r213 r215 r216 r219 i_47 x.1 x.2)
def Jls:St:=⟨(5,.d (.bool r213))::(6,.d (.sl (r215.map AU)))::(7,.ptr 0 0)::(8,.d (.sl (r219.map Ad)))::(9,.d (.int .i64 i_47))::(10,.d (.bool y170))::(11,.d (.bool agreed_4))::(13,.d (.int .i64 k_27))::[],[some (.box [.d (.sl (r216.Agreed.map Ad)),.d (.sl (r216.Quarrels.map (AY A1)))])]⟩
def Jlt:St:=⟨(5,.d (.bool r213))::(6,.d (.sl (r215.map AU)))::(7,.ptr 0 0)::(8,.d (.sl (r219.map Ad)))::(9,.d (.int .i64 i_47))::(10,.d (.bool y170))::(11,.d (.bool agreed_5))::[],[some (.box [.d (.sl (r216.Agreed.map Ad)),.d (.sl (r216.Quarrels.map (AY A1)))])]⟩
def K7:Bool->Ex->St->Prop:=xX 0 4 (λ (y:Bool)=>Jlt r213 r215 r216 r219 i_47 y170 y)
def FM:(Bool×Int)->St:=(λ (x:(Bool×Int))=>Jls r213 r215 r216 r219 i_47 y170 x.1 x.2)
def K8:(Unit⊕Bool)->Ex->St->Prop:=xS (xX 0 0 (λ (y:Unit)=>Jlp r213 r216 r219)) (xR ty Tryz.f5 (λ (y:Bool)=>.d (.bool y)))
def FN:Int->St:=(λ (x:Int)=>Jlo r213 r215 r216 r219 x)
variable {p0_ p1_ r213 r215 r216 r219 i_47 in_1 k_26 in_2 y170 agreed_4 k_27 agreed_5}
theorem J5 (x:(Bool×Int)) (z:((Bool×Int)⊕Bool)) (H:CL n r213 r215 r216 r219 i_47 x.1 x.2=some z):WP (cxk 93 0) (Av Tryz.f5) [1,1,1,1,1,1,0,1,0,0,1,0,0,1,0,1,0,0] (As 0 (FL r213 r215 r216 r219 i_47) (K6 r213 r215 r216 r219 i_47) z) (FL r213 r215 r216 r219 i_47 x):=by
 obtain ⟨in_1,k_26⟩:=x
 refine sq (sr (ck 3 (sp (Au (AY A1) r216.Quarrels) (ck 1 (en (cn H (λ H=>?_) (λ H=>?_)))))))
 ·exact sk (qz (sq (bk 3 (rz (ck 3 (gc 1 (!in_1) (ck 1 (bx H λ x155 h566 H=>sE (λ hg=>Aj (AY A1) (A5 h566 hg)) (gc 2 (!in_1) (ck 1 (gc 1 (!in_1) (pO (ck 2 (gc 1 (!(in_1||(x155.a0==i_47))) (ck 1 (bx H λ x156 h567 H=>sE (λ hg=>Aj (AY A1) (A5 h567 hg)) (gc 2 (!(in_1||(x155.a0==i_47))) (ck 1 (gc 1 (!(in_1||(x155.a0==i_47))) (pO (ck 1 (ae (qN (qz (rz (ck 3 (ae (by cases H;exact og (sg [5,6,7,8,9,10,11,12])))))))))))))))))))))))))))))
 ·exact ex 2 (qx (by cases H;exact xo rfl (sg [5,6,7,8,9,10,11])))
theorem J6 (x:(Bool×Int)) (z:((Bool×Int)⊕Bool)) (H:CM n r213 r215 r216 r219 i_47 y170 x.1 x.2=some z):WP (cxk 93 0) (Av Tryz.f5) [1,1,1,1,1,1,0,1,0,0,1,0,0,1,1,0,1,0,0] (As 0 (FM r213 r215 r216 r219 i_47 y170) (K7 r213 r215 r216 r219 i_47 y170) z) (FM r213 r215 r216 r219 i_47 y170 x):=by
 obtain ⟨agreed_4,k_27⟩:=x
 refine sq (sr (ck 2 (sp (Au Ad r219) (ck 1 (en (cn H (λ H=>?_) (λ H=>?_)))))))
 ·exact sk (qz (sq (bk 5 (rz (ck 4 (bx H λ x157 h569 H=>sE (λ hg=>Aj Ad (A5 h569 hg)) (gc 1 (!agreed_4) (ck 2 (bx H λ x158 h570 H=>sE (λ hg=>Aj AU (A5 h570 hg)) (gc 3 (!agreed_4) (pO (ck 1 (ae (qN (qz (rz (ck 3 (ae (by cases H;exact og (sg [5,6,7,8,9,10,11,13]))))))))))))))))))))
 ·exact ex 4 (qx (by cases H;exact xo rfl (sg [5,6,7,8,9,10,11])))
theorem EU (x:Int) (z:(Int⊕(Unit⊕Bool))) (H:CN n r213 r215 r216 r219 x=some z):WP (cxk 93 0) (Av Tryz.f5) [1,1,1,1,1,1,0,1,0,0] (As 0 (FN r213 r215 r216 r219) (K8 r213 r216 r219) z) (FN r213 r215 r216 r219 x):=by
 revert H
 generalize x=i_47
 intro H
 refine sq (sr (ck 2 (sp (Au AU r215) (ck 1 (en (cn H (λ H=>?_) (λ H=>?_)))))))
 ·refine sk (qz (sq (bk 1 (sr (ck 2 (en (sq (sr (ck 1 (en (bk 2 (bx H λ y170 h568 H=>lX J5 h568 (sg [5,6,7,8,9,10,11,12]) rfl λ s hE130=>qH (qs (hE130) (sq (sr (ck 1 (en (bk 4 (bx H λ y171 h571 H=>lX J6 h571 (sg [5,6,7,8,9,10,11,13]) rfl λ s hE131=>qH (qs (hE131) (sr (ck 3 (en (cn H (λ H=>?_) (λ H=>?_)))))))))))))))))))))))))
  ·exact sr (ck 1 (en (re (qR (qr (by cases H;exact ro rfl rd))))))
  ·exact sk (qN (qz (rz (ck 3 (ae (by cases H;exact og (sg [5,6,7,8,9])))))))
 ·exact ex 0 (qx (by cases H;exact xo rfl (sg [5,7,8])))
theorem MW {z} (H:FY n p0_ p1_=some z):Aq Tryz.prog 5 [.d (.sl (p0_.map BO)),.d (.sl (p1_.map Bc))] (.d (.bool z)):=by
 refine fO 93 (Jln p0_ p1_) Tryz.func5 (sr (ck 1 (en (sr (bx H λ r213 h559 H=>ca false (R3 h559) (ck 1 (en (sr (ck 1 (bx H λ r214 h560 H=>ca false (UO h560) (ck 1 (bx H λ r215 h561 H=>ca false (Sn h561) (ck 1 (en (sr (ck 1 (bx H λ r216 h562 H=>ca false (PV h562) (ck 2 (en (sq (sr (ck 2 (bx H λ r217 h563 H=>ca false (US h563) (bx H λ r218 h564 H=>ca false (NH h564) (ck 1 (en (cn H (λ H=>?_) (λ H=>?_))))))))))))))))))))))))))))
 ·exact sr (ck 1 (en (re (qr (by cases H;exact pr rd)))))
 ·refine sk (qz (sr (ck 1 (bx H λ r219 h565 H=>ca false (K2 h565) (ck 1 (en (sq (sr (ck 1 (en (bk 0 (bx H λ y172 h572 H=>?_))))))))))))
  rcases y172 with y173|y174
  ·exact lX EU h572 (sg [5,6,7,8,9]) rfl λ s hE132=>qH (qs (hE132) (sr (ck 2 (sp (Au Ad r216.Agreed) (ck 1 (sp (Au Ad r219) (ck 3 (pA (ck 1 (en (re (by cases H;exact pr rd))))))))))))
  ·exact lR EU h572 (sg [5,6,7,8,9]) rfl λ s hE133=>qR (qr (by cases H;exact pr hE133))
end
end Go.AI
end
section
namespace Go.AI
def CRd (F:Nat->Option Obj) (l:List D) (cs:List Value):Prop:=l.length=cs.length/\∀ (i:Nat) (y:D) (v:Value),l[i]? = some y->cs[i]? = some v->Bg F y v
def EV {α:Type} (P:Program) (t:TypeId) (enc:α->List D) (ok:α->Prop):Prop:=
 ∀ (H:Type) (e:TypeId×Value->H) (w:World) (base:Nat) (spare:Nat->Bool) (held:Bool) (fuel:Nat) (cs:List Value) (x:DataW H×List MemPlace),DataW.trod e P w base spare held fuel t cs=some x->∃ a:α,ok a/\CRd (λ b=>w.heap[b]?) (enc a) cs
theorem UT {F:Nat->Option Obj} {y:D} {v:Value} (h:Bg F y v):CRd F [y] [v]:=by
 refine ⟨rfl,λ i a b ha hb=>?_⟩
 cases i with
 | zero=>simp at ha hb;subst ha;subst hb;exact h
 | succ i=>simp at ha
theorem ZT {P:Program} {t:TypeId} {k:IntKind} (ht:P.underlying t=some (.int k)):EV P t (λ n=>[.int k n]) (λ n=>(Lit.int k n).wf=true):=by
 intro H e w base spare held fuel cs x h
 obtain ⟨n,rfl,_,hw⟩:=DataW.trod_int ht h
 exact ⟨n,hw,UT (.int k n)⟩
theorem Wl {α:Type} {Q:Nat->α->Prop}:∀ n,(∀ i,i<n->∃ a,Q i a)->∃ l:List α,l.length=n/\∀ i a,l[i]? = some a->Q i a:=by
 intro n
 induction n with
 | zero=>intro _;exact ⟨[],rfl,λ i a h=>by simp at h⟩
 | succ n ih=>
  intro h
  obtain ⟨l,hl,hq⟩:=ih λ i hi=>h i (by omega)
  obtain ⟨a,ha⟩:=h n (by omega)
  refine ⟨l++[a],by simp [hl],λ i b hb=>?_⟩
  rcases JmL i l.length with hlt|hge
  ·rw [Jm1 hlt] at hb;exact hq i b hb
  ·rw [Jna hge] at hb
   have:i-l.length=0:=by have:=Ae hb;simp at this;omega
   rw [this] at hb
   simp at hb
   subst hb
   have:i=n:=by omega
   subst this
   exact ha
theorem Wm {α β:Type} {f:α->Option β}:∀ {l:List α} {r:List β},l.mapM f=some r->r.length=l.length/\∀ (i:Nat) (a:α),l[i]? = some a->r[i]? = f a:=by
 intro l
 induction l with
 | nil=>intro r h;simp at h;subst h;exact ⟨rfl,λ i a h=>by simp at h⟩
 | cons a l ih=>
  intro r h
  rw [List.mapM_cons] at h
  simp only [Option.bind_eq_bind,Option.bind_eq_some_iff,Option.pure_def,Jm4] at h
  obtain ⟨b,hb,r',hr',rfl⟩:=h
  obtain ⟨h1,h2⟩:=ih hr'
  refine ⟨by simp [h1],λ i x hx=>?_⟩
  cases i with
  | zero=>simp at hx;subst hx;simp [hb]
  | succ i=>simpa using h2 i x (by simpa using hx)
theorem EK {α:Type} {P:Program} {t e:TypeId} {enc:α->List D} {ok:α->Prop} {sz:Nat} (ht:P.underlying t=some (.slice e)) (hsz:P.cellsOf e=sz) (h1:Nat.ble 1 sz=true) (hl:∀ a,(enc a).length=sz) (he:EV P e enc ok):EV P t (eL enc) (λ l=>l.length<=9223372036854775807/\∀ a∈l,ok a):=by
 intro H en w base spare held fuel cs x h
 have h1:=Jm8 h1
 rcases DataW.trod_slice ht h with ⟨rfl,_⟩|⟨a,len,cap,elems,rest,n,_,rfl,_,_,hcap,hmx,hel,hget,_,_⟩
 ·exact ⟨[],⟨by simp,λ a h=>by simp at h⟩,UT (.sl0 _ _)⟩
 ·rw [hsz] at hget
  have hex:∀ i,i<len->∃ y:α,ok y/\∃ ci,w.cells? base (a.add (i*sz)) sz=some ci/\CRd (λ b=>w.heap[b]?) (enc y) ci:=λ i hi=>by
   have hg:=hget i hi
   rw [JmT (show i<elems.length by omega)] at hg
   simp only [Option.bind_eq_some_iff] at hg
   obtain ⟨ci,hc,htr⟩:=hg
   obtain ⟨y,hy,hcr⟩:=he H en w base spare held n ci _ htr
   exact ⟨y,hy,ci,hc,hcr⟩
  obtain ⟨l,hll,hq⟩:=Wl len hex
  refine ⟨l,⟨by unfold maxLen at hmx;omega,λ y hy=>?_⟩,UT ?_⟩
  ·obtain ⟨i,hi⟩:=List.mem_iff_getElem?.1 hy
   exact (hq i y hi).1
  ·rcases Nat.eq_zero_or_pos len with h0|hpos
   ·have:l=[]:=List.length_eq_zero_iff.1 (by omega)
    subst this;subst h0
    exact .sl0 _ _
   ·
    have hcell:∀ i y,l[i]? = some y->∀ j,j<sz->∃ v,w.cell? ((a.add (i*sz)).add j)=some v/\∀ d,(enc y)[j]? = some d->Bg (λ b=>w.heap[b]?) d v:=λ i y hy j hj=>by
     obtain ⟨_,ci,hc,hcr⟩:=hq i y hy
     unfold World.cells? at hc
     split at hc
     ·obtain ⟨g1,g2⟩:=Wm hc
      have:=g2 j j (by simp [hj])
      have hjc:j<ci.length:=by rw [g1];simpa using hj
      rw [JmT hjc] at this
      exact ⟨ci[j],this.symm,λ d hd=>hcr.2 j d _ hd (JmT hjc)⟩
     ·cases hc
    have h0:l[0]? = some l[0]:=JmT (by omega)
    obtain ⟨v0,hv0,_⟩:=hcell 0 _ h0 0 (by omega)
    have ha0:(a.add (0*sz)).add 0=a:=by simp [Addr.add]
    rw [ha0] at hv0
    obtain ⟨b,off,spot⟩:=a
    unfold World.cell? at hv0
    simp only at hv0
    split at hv0
    ·rename_i c ty fr hblk
     cases spot with
     | some s=>simp at hv0
     | none=>
      have hcell':∀ i y,l[i]? = some y->∀ j d,(enc y)[j]? = some d->∃ v,c[off+i*sz+j]? = some v/\Bg (λ b=>w.heap[b]?) d v:=λ i y hy j d hd=>by
       have hj:j<sz:=by rw [← hl y];exact Ae hd
       obtain ⟨v,hv,hr⟩:=hcell i y hy j hj
       rw [BJ,BJ,Kb hblk] at hv
       exact ⟨v,hv,hr d hd⟩
      have hlen:(l.map enc).length=len:=by simp [hll]
      have:=Bg.sl (F:=λ b=>w.heap[b]?) (l.map enc) b off cap sz c ty fr (λ i j=>(c[off+i*sz+j]?).getD undef) hblk (λ e he=>by
        simp only [JmN] at he
        obtain ⟨y,_,rfl⟩:=he
        exact hl y) (by omega) (λ i e hi j d hd=>by
        simp only [JmX,JmW] at hi
        obtain ⟨y,hy,rfl⟩:=hi
        obtain ⟨v,hv,_⟩:=hcell' i y hy j d hd
        simp only [hv,JmH]) (λ i e hi j d hd=>by
        simp only [JmX,JmW] at hi
        obtain ⟨y,hy,rfl⟩:=hi
        obtain ⟨v,hv,hr⟩:=hcell' i y hy j d hd
        simp only [hv,JmH]
        exact hr)
      rw [hlen] at this
      exact this
    ·cases hv0
theorem Bi {F:Nat->Option Obj} {l m:List D} {cs:List Value} {o n:Nat} (h:CRd F l ((cs.drop o).take n)) (hn:Nat.beq l.length n=true) (h':CRd F m (cs.drop (o+n))):CRd F (l++m) (cs.drop o):=by
 have hn:=Jm0 hn
 have e:cs.drop o=(cs.drop o).take n++cs.drop (o+n):=by rw [← List.drop_drop,List.take_append_drop]
 rw [e]
 refine ⟨by simp only [List.length_append,h.1,h'.1],λ i y v hy hv=>?_⟩
 rcases JmL i l.length with hlt|hge
 ·rw [Jm1 hlt] at hy
  rw [Jm1 (by rw [← h.1];exact hlt)] at hv
  exact h.2 i y v hy hv
 ·rw [Jna hge] at hy
  rw [Jna (by rw [← h.1];exact hge),← h.1] at hv
  exact h'.2 _ y v hy hv
theorem Lt {F:Nat->Option Obj} {cs:List Value} {o:Nat} (h:cs.length<=o):CRd F [] (cs.drop o):=by
 rw [List.drop_eq_nil_of_le h];exact ⟨rfl,λ i y v hy=>by simp at hy⟩
theorem Ss {H:Type} {enc:TypeId×Value->H} {P:Program} {w:World} {base:Nat} {spare:Nat->Bool} {held:Bool} {fuel:Nat} {t e:TypeId} {n:Nat} {cs:List Value} {x:DataW H×List MemPlace} (ht:P.underlying t=some (.array n e)) (h:DataW.trod enc P w base spare held fuel t cs=some x) :
  ∃ m,cs.length=P.cellsOf t/\∀ i,i<n->∃ y,DataW.trod enc P w base spare held m e ((cs.drop (i*P.cellsOf e)).take (P.cellsOf e))=some y:=by
 cases fuel with
 | zero=>simp [DataW.trod] at h
 | succ m=>
  unfold DataW.trod at h
  rw [ht] at h
  split at h<;>simp_all
  obtain ⟨xs,hp,_⟩:=h.2
  refine ⟨m,λ i hi=>?_⟩
  obtain ⟨g1,g2⟩:=Wm hp
  have:=g2 i i (by simp [hi])
  have hlt:i<xs.length:=by rw [g1];simpa using hi
  rw [JmT hlt] at this
  exact ⟨_,_,this.symm⟩
end Go.AI
end
section
namespace Go.AI
open Go.ChangeShapes Go.WideShapes Go.ChangeAt Go.RowKit
variable {P:Program} {H:Type} {en:TypeId×Value->H} {W W':World} {base:Nat} {spare:Nat->Bool} {held:Bool} {t e:TypeId} {v:Value} {d:DataW H} {ps:List MemPlace} {α:Type} {enc:α->List D} {ok:α->Prop}
theorem YB {y:α->D} (hc:v.cells=#[v]) (hd:DataW.Trod en P W base spare held t v d ps) (hr:EV P t enc ok) (he:∀ a,enc a=[y a]):∃ a,ok a/\Ah (λ b=>W.heap[b]?) noR (.d (y a)) v:=by
 obtain ⟨fuel,hf⟩:=hd
 obtain ⟨a,h1,h2,h3⟩:=hr H en W base spare held fuel _ _ hf
 refine ⟨a,h1,.d _ _ (h3 0 (y a) v (by rw [he];rfl) (by rw [hc];rfl))⟩
theorem JjY {F:Nat->Option Obj} {ρ:Nat->Option Loc}:CR F ρ [] []:=⟨rfl,λ i a v h=>by simp at h⟩
theorem YC {F:Nat->Option Obj} {ρ:Nat->Option Loc} {a:AV} {v:Value} {l:List AV} {vs:List Value} (h:Ah F ρ a v) (h':CR F ρ l vs):CR F ρ (a::l) (v::vs):=by
 refine ⟨by simp [h'.1],λ i x u hx hu=>?_⟩
 cases i with
 | zero=>simp at hx hu;subst hx;subst hu;exact h
 | succ i=>exact h'.2 i x u (by simpa using hx) (by simpa using hu)
theorem fld {w:World} {fuel:Nat} {cs:List Value} {fs:Array Field} {xs:List (DataW H×List MemPlace)} (hg:∀ (i:Nat) (f:Field),fs[i]? = some f->DataW.trod en P w base spare held fuel f.type ((cs.drop f.offset).take (P.cellsOf f.type))=xs[i]?) (hxl:xs.length=fs.size) (i:Nat) {f:Field} (hf:fs[i]? = some f) (u o n:Nat) (hu:f.type=u) (ho:f.offset=o) (hn:P.cellsOf u=n) (hr:EV P u enc ok) :
  ∃ a,ok a/\CRd (λ b=>w.heap[b]?) (enc a) ((cs.drop o).take n):=by
 have:=hg i f hf
 have hi:i<xs.length:=by rw [hxl];exact Ap hf
 rw [JmT hi,hu,ho,hn] at this
 exact hr H en w base spare held fuel _ _ this
theorem Wn {w:World} {fuel:Nat} {cs:List Value} {m:Nat} (hg:∀ i,i<m->∃ y,DataW.trod en P w base spare held fuel e ((cs.drop (i*P.cellsOf e)).take (P.cellsOf e))=some y) (i:Nat) (hi:Nat.ble (i+1) m=true) (o n:Nat) (hn:P.cellsOf e=n) (ho:i*n=o) (hr:EV P e enc ok) :
  ∃ a,ok a/\CRd (λ b=>w.heap[b]?) (enc a) ((cs.drop o).take n):=by
 obtain ⟨y,hy⟩:=hg i (Jm8 hi)
 rw [hn,ho] at hy
 exact hr H en w base spare held fuel _ _ hy
theorem Jcg {f:FuncId} {args:List AV} {vs:Array Value} (hc:Aq P f args (.d (.bool true))) (hcr:CR (λ b=>W.heap[b]?) noR args vs.toList):Calls P f vs W λ e W'=>e=.returned (.bool true)/\(∀ before:List MemPlace,W.keptBut W' (·∈before))/\∀ b,b<W.heap.size->W'.heap[b]? = W.heap[b]? := by
 refine (hc.2 (λ b=>W.heap[b]?) W vs hcr λ b o h=>h).mono λ e W' h=>?_
 obtain ⟨v,F',ρ,rfl,hS,hr,hmu⟩:=h
 have hv:v=.bool true:=by
  have:(BB true 0 (.d (.bool true))).1=.d (.bool true):=rfl
  rw [this] at hr
  exact hr.bool
 subst hv
 have hold:∀ b,b<W.heap.size->W'.heap[b]? = W.heap[b]? := λ b hb=>hS.old b (by omega)
 refine ⟨rfl,λ before=>World.keptBut_mono (λ p hp=>hp.elim) (?_:W.keptBut W' λ _=>False),hold⟩
 refine ⟨hmu.os,hmu.out,λ i hi=>?_⟩
 rw [hold i hi]
 cases hh:W.heap[i]? with
 | none=>rfl
 | some o=>cases o<;>first|exact ⟨rfl,rfl,rfl,λ _ _=>rfl⟩|exact .inr ⟨rfl,rfl⟩|rfl
theorem ZU {f:Func} {s:ChangeSpec} {apart fresh handsOn again:Bool} {args:Array Value} {ds gs:List (DataW H)} {before pa pv:List MemPlace}
  (hW:DataW.Whole en P f.params.toList s.vars apart W args.toList ds gs before)
  (hres:∀ (b:Nat) (sp:Nat->Bool) (hd:Bool),DataW.TrodAll en P W' b sp hd f.resultTypes.toList (v.resultList f.resultTypes.size) (s.fn H (ds++gs)).results [])
  (hargs:∀ sp:Nat->Bool,(∀ p∈before,sp p.block=true)->DataW.TrodAll en P W' 0 sp true f.params.toList args.toList (s.fn H (ds++gs)).args pa)
  (hvars:∀ sp:Nat->Bool,(∀ p∈before,sp p.block=true)->DataW.TrodVars en P W' sp s.vars (s.fn H (ds++gs)).vars pv)
  (hps:before=pa++pv) (hk:W.keptBut W' (·∈before)) (hold:∀ b,b<W.heap.size->W'.heap[b]? = W.heap[b]?)
  (hok:∀ (j:Nat) (t:TypeId) (r:Value),f.resultTypes[j]? = some t->(v.resultList f.resultTypes.size)[j]? = some r->Value.okWide P W' .any 0 t r) :
  s.post en P f apart fresh handsOn again W args v W':=by
 have hin:∀ p∈before,(λ b=>decide (b<W.heap.size)) p.block=true:=λ p hp=>by simpa using hW.lt p hp
 have hlt:=hW.lt
 refine ⟨ds,gs,before,[],pa,pv,hW,hres _ _ _,hargs _ hin,hvars _ hin,World.keptBut_mono (λ p hp=>⟨hp,?_⟩) hk,λ _=>?_⟩
 ·rw [hps,List.mem_append] at hp
  exact Or.inr hp
 ·obtain ⟨_,_,_,_,_,hz,hn⟩:=hW
  refine ⟨hok,_,_,([]++pa)++pv,⟨[]++pa,pv,trodAll_append (hargs _ (λ _ _=>rfl)) (hres _ _ _),hvars _ (λ _ _=>rfl),rfl,?_,?_⟩,?_⟩
  ·intro b off hp
   have hp:MemPlace.cell b off∈before:=by rw [hps];simpa using hp
   have:=hz b off hp
   simp only [World.frozen?,hold b (hlt _ hp)] at this ⊢
   exact this
  ·intro ha
   have:=hn ha
   rw [hps] at this
   simpa using this
  ·intro p hp _
   rw [hps]
   simpa using hp
theorem Jf8 (hl:laidOutB P=true) (hr:P.readableRec t=true) (hrow:t<P.types.size) (h:DataW.Trod en P W 0 (λ _=>true) true t v d ps) (hb:∀ p∈ps,p.block<W.heap.size) {sp:Nat->Bool} (hs:∀ p∈ps,sp p.block=true) (hold:∀ b,b<W.heap.size->W'.heap[b]? = W.heap[b]?):DataW.Trod en P W' 0 sp true t v d ps:=by
 refine WideElems.Trod_stays hl hr hrow h (λ p hp=>?_) hs
 have:=hb p hp
 cases p with
 | cell b o=>exact World.cell?_of_block (w:=W) (hold b this)
 | map b=>exact hold b this
end Go.AI
end
section
namespace Go.AI
open Go.Proofs Go.ChangeShapes Go.WideShapes Go.ChangeAt Go.RowKit
def okI (k:IntKind) (n:Int):Prop:=(Lit.int k n).wf=true
theorem rd5:EV Tryz.prog 5 eU8 (okI .u8):=ZT Tryz.underlying5
theorem Jlu:EV Tryz.prog 23 (eL eU8) (λ l=>l.length<=9223372036854775807/\∀ a∈l,okI .u8 a):=EK (sz:=1) Tryz.underlying23 (by kernel_rfl) rfl (λ _=>rfl) rd5
theorem Jlv:EV Tryz.prog 139 (AY eU8) (λ x=>okI .u8 x.a0/\okI .u8 x.a1):=by
 intro H e w base spare held fuel cs x h
 obtain ⟨m,hcl,hg⟩:=Ss Tryz.underlying139 h
 have hcl:cs.length=2:=hcl.trans (by kernel_rfl)
 obtain ⟨a0,k0,c0⟩:=Wn hg 0 rfl 0 1 (by kernel_rfl) rfl rd5
 obtain ⟨a1,k1,c1⟩:=Wn hg 1 rfl 1 1 (by kernel_rfl) rfl rd5
 refine ⟨⟨a0,a1⟩,⟨k0,k1⟩,?_⟩
 have:=Bi c0 rfl (Bi c1 rfl (Lt (Nat.le_of_eq hcl)))
 exact this
theorem Jmp:EV Tryz.prog 92 (eL (AY eU8)) (λ l=>l.length<=9223372036854775807/\∀ a∈l,(okI .u8 a.a0/\okI .u8 a.a1)):=EK (sz:=2) Tryz.underlying92 (by kernel_rfl) rfl (λ _=>rfl) Jlv
def Jch (x:RO):Prop:=okI .u8 x.Kind/\okI .u8 x.N/\(x.L.length<=9223372036854775807/\∀ a∈x.L,(okI .u8 a.a0/\okI .u8 a.a1))
theorem Jmq:EV Tryz.prog 94 Jli Jch:=by
 intro H e w base spare held fuel cs x h
 obtain ⟨xs,n,_,_,hcl,hxl,hg⟩:=DataW.trod_struct Tryz.underlying94 h
 have hcl:cs.length=3:=hcl.trans (by kernel_rfl)
 obtain ⟨a0,k0,c0⟩:=fld hg hxl 0 rfl 5 0 1 rfl rfl (by kernel_rfl) rd5
 obtain ⟨a1,k1,c1⟩:=fld hg hxl 1 rfl 5 1 1 rfl rfl (by kernel_rfl) rd5
 obtain ⟨a2,k2,c2⟩:=fld hg hxl 2 rfl 92 2 1 rfl rfl (by kernel_rfl) Jmp
 refine ⟨⟨a0,a1,a2⟩,⟨k0,k1,k2⟩,?_⟩
 have:=Bi c0 rfl (Bi c1 rfl (Bi c2 rfl (Lt (Nat.le_of_eq hcl))))
 exact this
theorem Jlw:EV Tryz.prog 141 (JC eU8) (λ x=>okI .u8 x.a0/\okI .u8 x.a1/\okI .u8 x.a2/\okI .u8 x.a3/\okI .u8 x.a4/\okI .u8 x.a5):=by
 intro H e w base spare held fuel cs x h
 obtain ⟨m,hcl,hg⟩:=Ss Tryz.underlying141 h
 have hcl:cs.length=6:=hcl.trans (by kernel_rfl)
 obtain ⟨a0,k0,c0⟩:=Wn hg 0 rfl 0 1 (by kernel_rfl) rfl rd5
 obtain ⟨a1,k1,c1⟩:=Wn hg 1 rfl 1 1 (by kernel_rfl) rfl rd5
 obtain ⟨a2,k2,c2⟩:=Wn hg 2 rfl 2 1 (by kernel_rfl) rfl rd5
 obtain ⟨a3,k3,c3⟩:=Wn hg 3 rfl 3 1 (by kernel_rfl) rfl rd5
 obtain ⟨a4,k4,c4⟩:=Wn hg 4 rfl 4 1 (by kernel_rfl) rfl rd5
 obtain ⟨a5,k5,c5⟩:=Wn hg 5 rfl 5 1 (by kernel_rfl) rfl rd5
 refine ⟨⟨a0,a1,a2,a3,a4,a5⟩,⟨k0,k1,k2,k3,k4,k5⟩,?_⟩
 have:=Bi c0 rfl (Bi c1 rfl (Bi c2 rfl (Bi c3 rfl (Bi c4 rfl (Bi c5 rfl (Lt (Nat.le_of_eq hcl)))))))
 exact this
theorem Jmr:EV Tryz.prog 95 (eL (JC eU8)) (λ l=>l.length<=9223372036854775807/\∀ a∈l,(okI .u8 a.a0/\okI .u8 a.a1/\okI .u8 a.a2/\okI .u8 a.a3/\okI .u8 a.a4/\okI .u8 a.a5)):=EK (sz:=6) Tryz.underlying95 (by kernel_rfl) rfl (λ _=>rfl) Jlw
def HR (x:Bs):Prop:=okI .u8 x.W/\okI .u8 x.H/\okI .u8 x.Gap/\(x.F.length<=9223372036854775807/\∀ a∈x.F,(okI .u8 a.a0/\okI .u8 a.a1/\okI .u8 a.a2/\okI .u8 a.a3/\okI .u8 a.a4/\okI .u8 a.a5))
theorem Jms:EV Tryz.prog 97 OO HR:=by
 intro H e w base spare held fuel cs x h
 obtain ⟨xs,n,_,_,hcl,hxl,hg⟩:=DataW.trod_struct Tryz.underlying97 h
 have hcl:cs.length=4:=hcl.trans (by kernel_rfl)
 obtain ⟨a0,k0,c0⟩:=fld hg hxl 0 rfl 5 0 1 rfl rfl (by kernel_rfl) rd5
 obtain ⟨a1,k1,c1⟩:=fld hg hxl 1 rfl 5 1 1 rfl rfl (by kernel_rfl) rd5
 obtain ⟨a2,k2,c2⟩:=fld hg hxl 2 rfl 5 2 1 rfl rfl (by kernel_rfl) rd5
 obtain ⟨a3,k3,c3⟩:=fld hg hxl 3 rfl 95 3 1 rfl rfl (by kernel_rfl) Jmr
 refine ⟨⟨a0,a1,a2,a3⟩,⟨k0,k1,k2,k3⟩,?_⟩
 have:=Bi c0 rfl (Bi c1 rfl (Bi c2 rfl (Bi c3 rfl (Lt (Nat.le_of_eq hcl)))))
 exact this
def HS (x:Be):Prop:=okI .u8 x.Kind/\okI .u8 x.N/\(x.T.length<=9223372036854775807/\∀ a∈x.T,okI .u8 a)/\Jch x.F/\HR x.P
theorem Jmt:EV Tryz.prog 99 BO HS:=by
 intro H e w base spare held fuel cs x h
 obtain ⟨xs,n,_,_,hcl,hxl,hg⟩:=DataW.trod_struct Tryz.underlying99 h
 have hcl:cs.length=10:=hcl.trans (by kernel_rfl)
 obtain ⟨a0,k0,c0⟩:=fld hg hxl 0 rfl 5 0 1 rfl rfl (by kernel_rfl) rd5
 obtain ⟨a1,k1,c1⟩:=fld hg hxl 1 rfl 5 1 1 rfl rfl (by kernel_rfl) rd5
 obtain ⟨a2,k2,c2⟩:=fld hg hxl 2 rfl 23 2 1 rfl rfl (by kernel_rfl) Jlu
 obtain ⟨a3,k3,c3⟩:=fld hg hxl 3 rfl 94 3 3 rfl rfl (by kernel_rfl) Jmq
 obtain ⟨a4,k4,c4⟩:=fld hg hxl 4 rfl 97 6 4 rfl rfl (by kernel_rfl) Jms
 refine ⟨⟨a0,a1,a2,a3,a4⟩,⟨k0,k1,k2,k3,k4⟩,?_⟩
 have:=Bi c0 rfl (Bi c1 rfl (Bi c2 rfl (Bi c3 rfl (Bi c4 rfl (Lt (Nat.le_of_eq hcl))))))
 exact this
theorem Jmu:EV Tryz.prog 22 (eL BO) (λ l=>l.length<=9223372036854775807/\∀ a∈l,HS a):=EK (sz:=10) Tryz.underlying22 (by kernel_rfl) rfl (λ _=>rfl) Jmt
def C7 (x:AS):Prop:=okI .u8 x.Block/\okI .u8 x.At/\okI .u8 x.Cut/\(x.Put.length<=9223372036854775807/\∀ a∈x.Put,okI .u8 a)
theorem Jmv:EV Tryz.prog 25 Bc C7:=by
 intro H e w base spare held fuel cs x h
 obtain ⟨xs,n,_,_,hcl,hxl,hg⟩:=DataW.trod_struct Tryz.underlying25 h
 have hcl:cs.length=4:=hcl.trans (by kernel_rfl)
 obtain ⟨a0,k0,c0⟩:=fld hg hxl 0 rfl 5 0 1 rfl rfl (by kernel_rfl) rd5
 obtain ⟨a1,k1,c1⟩:=fld hg hxl 1 rfl 5 1 1 rfl rfl (by kernel_rfl) rd5
 obtain ⟨a2,k2,c2⟩:=fld hg hxl 2 rfl 5 2 1 rfl rfl (by kernel_rfl) rd5
 obtain ⟨a3,k3,c3⟩:=fld hg hxl 3 rfl 23 3 1 rfl rfl (by kernel_rfl) Jlu
 refine ⟨⟨a0,a1,a2,a3⟩,⟨k0,k1,k2,k3⟩,?_⟩
 have:=Bi c0 rfl (Bi c1 rfl (Bi c2 rfl (Bi c3 rfl (Lt (Nat.le_of_eq hcl)))))
 exact this
theorem Jmw:EV Tryz.prog 45 (eL Bc) (λ l=>l.length<=9223372036854775807/\∀ a∈l,C7 a):=EK (sz:=4) Tryz.underlying45 (by kernel_rfl) rfl (λ _=>rfl) Jmv
end Go.AI
end
section
namespace Go.AI
def Le {α:Type} (a b:Option α):Prop:=∀ z,a=some z->b=some z
theorem Le.refl {α:Type} (a:Option α):Le a a:=λ _ h=>h
theorem Le.bind {α β:Type} {a a':Option α} {f f':α->Option β} (h:Le a a') (hf:∀ x,Le (f x) (f' x)):Le (a.bind f) (a'.bind f'):=by
 intro z hz
 obtain ⟨x,h1,h2⟩:=bind_some hz
 rw [h x h1]
 exact hf x z h2
theorem Le.ite {α:Type} {c:Prop} [Decidable c] {a a' b b':Option α} (h:Le a a') (h':Le b b'):Le (if c then a else b) (if c then a' else b'):=by
 split
 ·exact h
 ·exact h'
theorem Le.whl {σ ρ:Type} {body body':σ->Option (σ⊕ρ)} (hb:∀ x,Le (body x) (body' x)):∀ {n m:Nat},n<=m->∀ x,Le (whl body n x) (whl body' m x):=by
 intro n
 induction n with
 | zero=>intro m _ x z hz;cases hz
 | succ n ih=>
  intro m hm x z hz
  cases m with
  | zero=>omega
  | succ m=>
   simp only [Go.AI.whl] at hz ⊢
   cases hx:body x with
   | none=>rw [hx] at hz;cases hz
   | some y=>
    rw [hb x y hx]
    rw [hx] at hz
    cases y with
    | inl y=>exact ih (by omega) y z hz
    | inr r=>exact hz
def Ev {α:Type} (f:Nat->Option α) (z:α):Prop:=∃ n,∀ m,n<=m->f m=some z
theorem Ev.const {α:Type} {z:α}:Ev (λ _=>some z) z:=⟨0,λ _ _=>rfl⟩
theorem Ev.of {α:Type} {f:Nat->Option α} {z:α} (hm:∀ n m,n<=m->Le (f n) (f m)) {n:Nat} (h:f n=some z):Ev f z:=⟨n,λ m hnm=>hm n m hnm z h⟩
theorem Ev.all {α:Type} {f:Nat->Option α} {z:α} (h:∀ n,f n=some z):Ev f z:=⟨0,λ m _=>h m⟩
theorem Ev.bind {α β:Type} {f:Nat->Option α} {g:Nat->α->Option β} {x:α} {z:β} (h:Ev f x) (hg:Ev (λ n=>g n x) z):Ev (λ n=>(f n).bind (g n)) z:=by
 obtain ⟨n,hn⟩:=h
 obtain ⟨m,hm⟩:=hg
 refine ⟨max n m,λ k hk=>?_⟩
 show (f k).bind (g k)=_
 rw [hn k (by omega)]
 exact hm k (by omega)
theorem Ev.out {α:Type} {f:Nat->Option α} {z:α} (h:Ev f z):∃ n,f n=some z:=by
 obtain ⟨n,hn⟩:=h
 exact ⟨n,hn n (JmK n)⟩
theorem Ev.congr {α:Type} {f g:Nat->Option α} {z:α} (h:Ev f z) (e:∀ n,g n=f n):Ev g z:=by
 obtain ⟨n,hn⟩:=h
 exact ⟨n,λ m hm=>by rw [e m];exact hn m hm⟩
theorem Ev.whl {σ ρ:Type} {body:Nat->σ->Option (σ⊕ρ)} {r:ρ} (I:Nat->σ->Prop) (h:∀ k x,I k x->(∃ y j,j<k/\I j y/\Ev (λ n=>body n x) (.inl y))\/Ev (λ n=>body n x) (.inr r)):∀ (k:Nat) (x:σ),I k x->Ev (λ n=>Go.AI.whl (body n) n x) r:=by
 have key:∀ (k:Nat) (x:σ),I k x->∃ N c,∀ n fuel,N<=n->c<=fuel->Go.AI.whl (body n) fuel x=some r:=by
  intro k
  induction k using Nat.strongRecOn with
  | _ k ih=>
   intro x hx
   rcases h k x hx with ⟨y,j,hj,hy,N1,h1⟩|⟨N1,h1⟩
   ·obtain ⟨N2,c,h2⟩:=ih j hj y hy
    refine ⟨max N1 N2,c+1,λ n fuel hn hf=>?_⟩
    cases fuel with
    | zero=>omega
    | succ fuel=>
     have e:=h1 n (by omega)
     simp only at e
     simp only [Go.AI.whl,e]
     exact h2 n fuel (by omega) (by omega)
   ·refine ⟨N1,1,λ n fuel hn hf=>?_⟩
    cases fuel with
    | zero=>omega
    | succ fuel=>
     have e:=h1 n hn
     simp only at e
     simp only [Go.AI.whl,e]
 intro k x hx
 obtain ⟨N,c,hh⟩:=key k x hx
 exact ⟨max N c,λ m hm=>hh m m (by omega) (by omega)⟩
end Go.AI
end
section
namespace Go.AI
def Tot {α:Type} (f:Nat->Option α) (P:α->Prop):Prop:=∃ z,P z/\Ev f z
def Rd2 {σ ρ:Type} (I:σ->Prop) (P:ρ->Prop):σ⊕ρ->Prop
 | .inl y=>I y
 | .inr r=>P r
variable {α β σ ρ:Type} {P R:α->Prop}
theorem Tot.ev {f:Nat->Option α} {z:α} (h:Tot f (λ x=>x=z)):Ev f z:=by obtain ⟨_,rfl,h⟩:=h;exact h
theorem Ev.tot {f:Nat->Option α} {z:α} (h:Ev f z) (hp:P z):Tot f P:=⟨z,hp,h⟩
theorem Tot.pure {z:α} (h:P z):Tot (λ _=>some z) P:=⟨z,h,Ev.const⟩
theorem Tot.all {f:Nat->Option α} {z:α} (h:∀ n,f n=some z) (hp:P z):Tot f P:=⟨z,hp,Ev.all h⟩
theorem Tot.mono {f:Nat->Option α} (h:Tot f R) (hp:∀ x,R x->P x):Tot f P:=by obtain ⟨z,hz,h⟩:=h;exact ⟨z,hp z hz,h⟩
theorem Tot.bind {f:Nat->Option β} {g:Nat->β->Option α} {R:β->Prop} (h:Tot f R) (k:∀ x,R x->Tot (λ n=>g n x) P):Tot (λ n=>(f n).bind (g n)) P:=by
 obtain ⟨x,hx,h⟩:=h
 obtain ⟨z,hz,h'⟩:=k x hx
 exact ⟨z,hz,Ev.bind h h'⟩
theorem Tot.bindE {f:Nat->Option β} {g:Nat->β->Option α} {x:β} (h:Ev f x) (k:Tot (λ n=>g n x) P):Tot (λ n=>(f n).bind (g n)) P:=by
 obtain ⟨z,hz,h'⟩:=k
 exact ⟨z,hz,Ev.bind h h'⟩
theorem Tot.bindC {x:Option β} {y:β} {g:Nat->β->Option α} (h:x=some y) (k:Tot (λ n=>g n y) P):Tot (λ n=>x.bind (g n)) P:=by subst h;exact k
theorem Tot.bindA {f:Nat->Option β} {y:β} {g:Nat->β->Option α} (h:∀ n,f n=some y) (k:Tot (λ n=>g n y) P):Tot (λ n=>(f n).bind (g n)) P:=Tot.bindE (Ev.all h) k
theorem Tot.ite {c:Bool} {a b:Nat->Option α} (h1:c=true->Tot a P) (h2:c=false->Tot b P):Tot (λ n=>if c=true then a n else b n) P:=by
 cases c with
 | true=>exact h1 rfl
 | false=>exact h2 rfl
theorem Tot.iteT {c:Bool} {a b:Nat->Option α} (h:c=true) (k:Tot a P):Tot (λ n=>if c=true then a n else b n) P:=by subst h;exact k
theorem Tot.iteF {c:Bool} {a b:Nat->Option α} (h:c=false) (k:Tot b P):Tot (λ n=>if c=true then a n else b n) P:=by subst h;exact k
theorem Tot.guard {c:Bool} {f:Nat->Option β} {d:β} {g:Nat->β->Option α} {R:β->Prop} (h:c=true->Tot f R) (k:∀ x,(c=true->R x)->Tot (λ n=>g n x) P):Tot (λ n=>(if c=true then f n else some d).bind (g n)) P:=by
 cases c with
 | true=>exact Tot.bind (h rfl) λ x hx=>k x λ _=>hx
 | false=>exact k d λ h=>by cases h
theorem Tot.congr {f g:Nat->Option α} (h:Tot f P) (e:∀ n,g n=f n):Tot g P:=by obtain ⟨z,hz,h⟩:=h;exact ⟨z,hz,h.congr e⟩
theorem Tot.whl {body:Nat->σ->Option (σ⊕ρ)} {P:ρ->Prop} (I:Nat->σ->Prop) (h:∀ k x,I k x->Tot (λ n=>body n x) (Rd2 (λ y=>∃ j,j<k/\I j y) P)):∀ (k:Nat) (x:σ),I k x->Tot (λ n=>Go.AI.whl (body n) n x) P:=by
 have key:∀ (k:Nat) (x:σ),I k x->∃ r,P r/\∃ N c,∀ n fuel,N<=n->c<=fuel->Go.AI.whl (body n) fuel x=some r:=by
  intro k
  induction k using Nat.strongRecOn with
  | _ k ih=>
   intro x hx
   obtain ⟨z,hz,N1,h1⟩:=h k x hx
   cases z with
   | inl y=>
    obtain ⟨j,hj,hy⟩:=hz
    obtain ⟨r,hr,N2,c,h2⟩:=ih j hj y hy
    refine ⟨r,hr,max N1 N2,c+1,λ n fuel hn hf=>?_⟩
    cases fuel with
    | zero=>omega
    | succ fuel=>
     have e:=h1 n (by omega)
     simp only at e
     simp only [Go.AI.whl,e]
     exact h2 n fuel (by omega) (by omega)
   | inr r=>
    refine ⟨r,hz,N1,1,λ n fuel hn hf=>?_⟩
    cases fuel with
    | zero=>omega
    | succ fuel=>
     have e:=h1 n hn
     simp only at e
     simp only [Go.AI.whl,e]
 intro k x hx
 obtain ⟨r,hr,N,c,hh⟩:=key k x hx
 exact ⟨r,hr,max N c,λ m hm=>hh m m (by omega) (by omega)⟩
theorem Tot.upto {body:Nat->σ->Option (σ⊕ρ)} {P:ρ->Prop} (N:Nat) (I:Nat->σ->Prop)
  (step:∀ i x,i<N->I i x->Tot (λ n=>body n x) (Rd2 (I (i+1)) P))
  (last:∀ x,I N x->Tot (λ n=>body n x) (Rd2 (λ _=>False) P)) (x:σ) (h0:I 0 x):Tot (λ n=>Go.AI.whl (body n) n x) P:=by
 refine Tot.whl (body:=body) (λ k x=>∃ i,i<=N/\k=N-i/\I i x) ?_ N x ⟨0,by omega,by omega,h0⟩
 rintro k x ⟨i,hi,rfl,hx⟩
 rcases JmL i N with hlt|hge
 ·refine (step i x hlt hx).mono λ z hz=>?_
  cases z with
  | inl y=>exact ⟨N-(i+1),by omega,i+1,by omega,rfl,hz⟩
  | inr r=>exact hz
 ·have:i=N:=by omega
  subst this
  refine (last x hx).mono λ z hz=>?_
  cases z with
  | inl y=>exact hz.elim
  | inr r=>exact hz
theorem JjZ {l:List α} {i:Nat} {x:α} (h:l[i]? = some x):idx l (i:Int)=some x:=by
 unfold idx
 rw [if_pos (by omega)]
 simpa using h
theorem AA {l:List α} {i:Nat} (h:i<l.length):idx l (i:Int)=some l[i]:=JjZ (JmT h)
theorem A9 {eb:Nat} {xs ys:List α} (h:(xs.length+ys.length)*eb<=70368744177664):app eb xs ys=some (xs++ys):=by
 unfold app;rw [if_pos h]
theorem Su {l:List α} {i:Nat} {y:α} (h:i<l.length):put l (i:Int) y=some (l.set i y):=by
 unfold put;rw [if_pos (by omega),Jm3]
theorem UU {x y:List UInt8} (h:x.length+y.length<=9223372036854775807):cat x y=some (x++y):=by
 unfold cat;rw [if_pos h]
end Go.AI
end
section
namespace Go.AI
theorem Jfh (a:Int):IntKind.i64.wrap a=if decide (a % 18446744073709551616>=9223372036854775808)=true then a % 18446744073709551616-18446744073709551616 else a % 18446744073709551616:=rfl
theorem w64 {a:Int} (h:-9223372036854775808<=a) (h':a<9223372036854775808):IntKind.i64.wrap a=a:=by
 rw [Jfh]
 simp only [decide_eq_true_eq]
 split<;>omega
theorem D4 {a b:Int} (h:-9223372036854775808<=a+b) (h':a+b<9223372036854775808):Ak .i64 a b=a+b:=w64 h h'
theorem Cr {a b:Int} (h:-9223372036854775808<=a-b) (h':a-b<9223372036854775808):AW .i64 a b=a-b:=w64 h h'
theorem Gc {a b:Int} (h:-9223372036854775808<=a*b) (h':a*b<9223372036854775808):BX .i64 a b=a*b:=w64 h h'
theorem An {i:Nat} (h:i<9223372036854775807):Ak .i64 (i:Int) 1=((i+1:Nat):Int):=by rw [D4]<;>omega
theorem Jj0 (a:Int):IntKind.u8.wrap a=a % 256:=rfl
theorem w8 {a:Int} (h:0<=a) (h':a<256):IntKind.u8.wrap a=a:=by rw [Jj0];omega
theorem BP {a m:Int} (h:0<=a) (hm:0<m):Am a m=a % m/\0<=Am a m/\Am a m<m:=by
 have e:Am a m=a % m:=by unfold Am;rw [Int.tmod_eq_emod_of_nonneg h]
 rw [e];exact ⟨rfl,Int.emod_nonneg _ (by omega),Int.emod_lt_of_pos _ hm⟩
variable {α β σ ρ:Type}
theorem Jci [Inhabited α] {l:List α} {i:Int} (h:0<=i) (h':i<l.length):idx l i=some (l.getD i.toNat default):=by
 unfold idx
 rw [if_pos h,Jm2,JmT (by omega)];rfl
theorem De [Inhabited α] {l:List α} {i:Nat} (h:i<l.length):idx l (i:Int)=some (l.getD i default):=by
 rw [Jci (by omega) (by omega),Jm3]
theorem Jlx {l:List α} {i:Int} {y:α} (h:0<=i) (h':i<l.length):put l i y=some (l.set i.toNat y):=by
 unfold put;rw [if_pos ⟨h,h'⟩]
theorem IW {l:List α} {a b:Int} (h:0<=a) (h1:a<=b) (h2:b<=l.length):sub l a b=some ((l.take b.toNat).drop a.toNat):=by
 unfold sub;rw [if_pos ⟨h,h1,h2⟩]
theorem UV {l:List α} {k:Nat} (h:k<=l.length):sub l 0 (k:Int)=some (l.take k):=by
 rw [IW (by omega) (by omega) (by omega)];simp
theorem Jly {eb:Nat} {k:Int} {z:α} (h:0<=k) (h':k.toNat*eb<=70368744177664):mkl eb k z=some (List.replicate k.toNat z):=by
 unfold mkl;rw [if_pos ⟨h,h'⟩]
theorem Jcj:BM true=some ():=rfl
theorem D5 {b:Bool} (h:b=true):BM b=some ():=by subst h;rfl
theorem XQ {body:σ->Option (σ⊕ρ)} {r:ρ} (st:Nat->σ) (k:Nat) (step:∀ i,i<k->body (st i)=some (.inl (st (i+1)))) (last:body (st k)=some (.inr r)):∀ n,k<n->whl body n (st 0)=some r:=by
 have key:∀ (j n i:Nat),i+j=k->j<n->whl body n (st i)=some r:=by
  intro j
  induction j with
  | zero=>
   intro n i hi hn
   cases n with
   | zero=>omega
   | succ n=>
    have:i=k:=by omega
    subst this;simp only [whl,last]
  | succ j ih=>
   intro n i hi hn
   cases n with
   | zero=>omega
   | succ n=>simp only [whl,step i (by omega)];exact ih n (i+1) (by omega) (by omega)
 intro n hn
 exact key k n 0 (by omega) hn
theorem Ev.to {body:Nat->σ->Option (σ⊕ρ)} {r:ρ} (st:Nat->σ) (k:Nat) (h:∃ N,∀ n,N<=n->(∀ i,i<k->body n (st i)=some (.inl (st (i+1))))/\body n (st k)=some (.inr r)):Ev (λ n=>Go.AI.whl (body n) n (st 0)) r:=by
 obtain ⟨N,h⟩:=h
 exact ⟨max N (k+1),λ n hn=>XQ st k (h n (by omega)).1 (h n (by omega)).2 n (by omega)⟩
def HT (N:Nat) (stop:Nat->Option ρ) (d:ρ):ρ:=((List.range N).findSome? stop).getD d
theorem ZV {N:Nat} {stop:Nat->Option ρ} {d:ρ} (h:∀ i,i<N->stop i=none):HT N stop d=d:=by
 unfold HT
 rw [List.findSome?_eq_none_iff.2 λ i hi=>h i (List.mem_range.1 hi)];rfl
theorem ZW {N:Nat} {stop:Nat->Option ρ} {d r:ρ} (k:Nat) (hk:k<N) (hr:stop k=some r) (h:∀ i,i<k->stop i=none):HT N stop d=r:=by
 unfold HT
 have:(List.range N).findSome? stop=some r:=by
  have e:List.range N=List.range k++(List.range (N-k)).map (k+·):=by rw [← List.range_add];congr 1;omega
  rw [e,List.findSome?_append,List.findSome?_eq_none_iff.2 λ i hi=>h i (List.mem_range.1 hi)]
  have:N-k=(N-k-1)+1:=by omega
  rw [this,List.range_succ_eq_map]
  simp [hr]
 rw [this];rfl
theorem Te (N:Nat) (stop:Nat->Option ρ) (d:ρ):((∀ i,i<N->stop i=none)/\HT N stop d=d)\/∃ k r,k<N/\stop k=some r/\(∀ i,i<k->stop i=none)/\HT N stop d=r:=by
 by_cases h:∀ i,i<N->stop i=none
 ·exact .inl ⟨h,ZV h⟩
 ·right
  have hex:∃ k,k<N/\stop k≠none:=by
   apply Classical.byContradiction
   intro hh
   exact h λ i hi=>Classical.byContradiction λ hn=>hh ⟨i,hi,hn⟩
  have key:∀ m,(∃ k,k<m/\k<N/\stop k≠none)->∃ k,k<N/\stop k≠none/\∀ i,i<k->stop i=none:=by
   intro m
   induction m with
   | zero=>rintro ⟨k,hk,_⟩;omega
   | succ m ih=>
    rintro ⟨k,hk,h1,h2⟩
    by_cases hm:∃ k,k<m/\k<N/\stop k≠none
    ·exact ih hm
    ·refine ⟨k,h1,h2,λ i hi=>Classical.byContradiction λ hn=>hm ⟨i,by omega,by omega,hn⟩⟩
  obtain ⟨k0,h1,h2⟩:=hex
  obtain ⟨k,h3,h4,h5⟩:=key (k0+1) ⟨k0,by omega,h1,h2⟩
  obtain ⟨r,hr⟩:=Option.ne_none_iff_exists'.1 h4
  exact ⟨k,r,h3,hr,h5,ZW k h3 hr h5⟩
theorem ZX {body:Int->Option (Int⊕ρ)} {N:Nat} (stop:Nat->Option ρ) {d:ρ} (h1:∀ i,i<N->body (i:Int)=some (match stop i with|some r=>.inr r|none=>.inl ((i+1:Nat):Int))) (h2:body (N:Int)=some (.inr d)):∀ n,N<n->whl body n 0=some (HT N stop d):=by
 intro n hn
 rcases Te N stop d with ⟨h,e⟩|⟨k,r,hk,hr,h,e⟩
 ·rw [e]
  exact XQ (λ i=>(i:Int)) N (λ i hi=>by rw [h1 i hi,h i hi]) h2 n hn
 ·rw [e]
  exact XQ (λ i=>(i:Int)) k (λ i hi=>by rw [h1 i (by omega),h i hi]) (by rw [h1 k hk,hr]) n (by omega)
theorem Ev.first {body:Nat->Int->Option (Int⊕ρ)} {N:Nat} (stop:Nat->Option ρ) {d:ρ} (h:∃ M,∀ n,M<=n->(∀ i,i<N->body n (i:Int)=some (match stop i with|some r=>.inr r|none=>.inl ((i+1:Nat):Int)))/\body n (N:Int)=some (.inr d)):Ev (λ n=>Go.AI.whl (body n) n 0) (HT N stop d):=by
 obtain ⟨M,h⟩:=h
 exact ⟨max M (N+1),λ n hn=>ZX stop (h n (by omega)).1 (h n (by omega)).2 n (by omega)⟩
theorem Tot.gE {P:α->Prop} {c:Bool} {f:Nat->Option β} {d x:β} {g:Nat->β->Option α} (hc:c=true) (h:Ev f x) (k:Tot (λ n=>g n x) P):Tot (λ n=>(if c=true then f n else some d).bind (g n)) P:=by
 subst hc;exact Tot.bindE h k
theorem Tot.gF {P:α->Prop} {c:Bool} {f:Nat->Option β} {d:β} {g:Nat->β->Option α} (hc:c=false) (k:Tot (λ n=>g n d) P):Tot (λ n=>(if c=true then f n else some d).bind (g n)) P:=by
 subst hc;exact k
noncomputable def lim [Inhabited α] (f:Nat->Option α):α:=@dite α (∃ z,Ev f z) (Classical.propDecidable _) (λ h=>Classical.choose h) λ _=>default
theorem Ev.lim [Inhabited α] {f:Nat->Option α} {z:α} (h:Ev f z):lim f=z:=by
 have hex:∃ z,Ev f z:=⟨z,h⟩
 have e:AI.lim f=Classical.choose hex:=by unfold AI.lim;rw [dif_pos hex]
 rw [e]
 obtain ⟨n,hn⟩:=h
 obtain ⟨m,hm⟩:=Classical.choose_spec hex
 have h1:=hn (max n m) (by omega)
 have h2:=hm (max n m) (by omega)
 rw [h1] at h2;cases h2;rfl
theorem Tot.lim [Inhabited α] {f:Nat->Option α} {P:α->Prop} (h:Tot f P):P (lim f)/\Ev f (lim f):=by
 obtain ⟨z,hz,h⟩:=h
 rw [h.lim];exact ⟨hz,h⟩
theorem Ev.many {f:Nat->Nat->Option α} {z:Nat->α} (N:Nat) (h:∀ i,i<N->Ev (λ n=>f n i) (z i)):∃ M,∀ n,M<=n->∀ i,i<N->f n i=some (z i):=by
 induction N with
 | zero=>exact ⟨0,λ n _ i hi=>by omega⟩
 | succ N ih=>
  obtain ⟨M1,h1⟩:=ih λ i hi=>h i (by omega)
  obtain ⟨M2,h2⟩:=h N (by omega)
  exact ⟨max M1 M2,λ n hn i hi=>by
   by_cases e:i=N
   ·subst e;exact h2 n (by omega)
   ·exact h1 n (by omega) i (by omega)⟩
end Go.AI
end
section
namespace Go.AI
def EN (c d:Ab):Bool:=(c.Block==d.Block)&&decide (c.At+c.Cut<=d.At)
def frB (c d:Ab):Bool:=(c.Block != d.Block)||(!(EN c d==EN d c))
def noC:Ab:={ Block:=0,At:=0,Cut:=0,Put:=[] }
def shC (c d:Ab):Ab:=if EN d c=true then { Block:=c.Block,At:=c.At+((d.Put.length:Int)-d.Cut),Cut:=c.Cut,Put:=c.Put } else c
def ovS (c d:Ab):Ab×Bool:=if frB c d=true then (shC c d,true) else (noC,false)
def LU:Ab->List Ab->Nat->Ab×Int×Bool
 | c,[],i=>(c,(i:Int),true)
 | c,d::l,i=>if frB c d=true then LU (shC c d) l (i+1) else (noC,(i:Int),false)
theorem Wo {c d:Ab}:EN c d=true↔c.Block=d.Block/\c.At+c.Cut<=d.At:=by unfold EN;simp
theorem Jck {c d:Ab}:EN c d=false↔¬(c.Block=d.Block/\c.At+c.Cut<=d.At):=by rw [← Bool.not_eq_true,Wo]
theorem YD {c d:Ab}:frB c d=true↔c.Block≠d.Block\/EN c d≠EN d c:=by unfold frB;simp [Bool.beq_eq_decide_eq]
theorem Sv (c d:Ab):frB c d=frB d c:=by
 unfold frB
 rw [show (c.Block != d.Block)=(d.Block != c.Block) from bne_comm ..,show (EN c d==EN d c)=(EN d c==EN c d) from BEq.comm ..]
def CO (c d:Ab):Prop:=c.Block<d.Block\/c.Block=d.Block/\(c.At<d.At\/c.At=d.At/\c.Cut<d.Cut)
theorem Wp {c:Ab}:¬CO c c:=by unfold CO;omega
theorem YE {c d e:Ab} (h:CO c d) (h':CO d e):CO c e:=by unfold CO at *;omega
theorem ZY {c d:Ab} (h:CO c d):¬CO d c:=by unfold CO at *;omega
theorem Jfi {c d:Ab} (h:frB c d=true):CO c d\/CO d c:=by
 rw [YD] at h
 rcases h with h|h
 ·unfold CO;omega
 ·by_cases hb:c.Block=d.Block
  ·by_cases h1:c.At=d.At
   ·by_cases h2:c.Cut=d.Cut
    ·exfalso
     refine h ?_
     unfold EN
     rw [h1,h2,hb]
    ·unfold CO;omega
   ·unfold CO;omega
  ·unfold CO;omega
theorem Jcl {c d:Ab} (hc:0<=c.Cut) (hd:0<=d.Cut) (h:frB c d=true) (hl:CO c d) (hb:c.Block=d.Block):EN c d=true/\EN d c=false:=by
 rw [YD] at h
 have hne:=h.resolve_left (by simp [hb])
 rcases hcd:EN c d with _|_
 ·rw [hcd] at hne
  have hdc:EN d c=true:=by cases hx:EN d c with|true=>rfl|false=>rw [hx] at hne;exact absurd rfl hne
  rw [Jck] at hcd
  rw [Wo] at hdc
  unfold CO at hl
  omega
 ·rw [hcd] at hne
  exact ⟨rfl,by cases hx:EN d c with|false=>rfl|true=>rw [hx] at hne;exact absurd rfl hne⟩
def Frs (l:List Ab):Prop:=l.Pairwise λ c d=>frB c d=true/\CO c d
def Jmx (l:List Ab):Prop:=∀ c∈l,0<=c.Cut
def Hh (b:Int):List Ab->Int
 | []=>0
 | d::l=>(if d.Block=b then (d.Put.length:Int)-d.Cut else 0)+Hh b l
theorem Wq (b:Int) (l m:List Ab):Hh b (l++m)=Hh b l+Hh b m:=by
 induction l with
 | nil=>simp [Hh]
 | cons d l ih=>simp only [List.cons_append,Hh,ih];omega
def mvC (k:Int) (c:Ab):Ab:={ Block:=c.Block,At:=c.At+k,Cut:=c.Cut,Put:=c.Put }
theorem Jlz (c:Ab):mvC 0 c=c:=by unfold mvC;simp
def Df (pre:List Ab):List Ab->List Ab
 | []=>[]
 | d::l=>mvC (Hh d.Block pre) d::Df (pre++[d]) l
theorem GI (pre l:List Ab):(Df pre l).length=l.length:=by
 induction l generalizing pre with
 | nil=>rfl
 | cons d l ih=>simp only [Df,List.length_cons,ih]
theorem ZZ (pre l m:List Ab):Df pre (l++m)=Df pre l++Df (pre++l) m:=by
 induction l generalizing pre with
 | nil=>simp [Df]
 | cons d l ih=>simp only [List.cons_append,Df,ih,List.append_assoc,List.cons_append,List.nil_append]
theorem JlA {c d:Ab} {k j:Int} (h:c.Block=d.Block->k=j):frB (mvC k c) (mvC j d)=frB c d/\EN (mvC j d) (mvC k c)=EN d c:=by
 by_cases hb:c.Block=d.Block
 ·have:=h hb
  subst this
  unfold frB EN mvC
  simp only
  have e1:decide (d.At+k+d.Cut<=c.At+k)=decide (d.At+d.Cut<=c.At):=by rw [decide_eq_decide];omega
  have e2:decide (c.At+k+c.Cut<=d.At+k)=decide (c.At+c.Cut<=d.At):=by rw [decide_eq_decide];omega
  rw [e1,e2]
  exact ⟨rfl,rfl⟩
 ·have h1:(c.Block != d.Block)=true:=by simp [hb]
  have h2:(d.Block==c.Block)=false:=by simp;exact λ h=>hb h.symm
  unfold frB EN mvC
  simp only [h1,h2,Bool.true_or,Bool.false_and]
  exact ⟨trivial,trivial⟩
theorem XR (c:Ab) (hc:0<=c.Cut) (pre l:List Ab) (i:Nat) (hl:Jmx l) (h:∀ d∈l,frB c d=true/\CO d c) :
  LU (mvC (Hh c.Block pre) c) (Df pre l) i=(mvC (Hh c.Block (pre++l)) c,((i+l.length:Nat):Int),true):=by
 induction l generalizing pre i with
 | nil=>simp [Df,LU]
 | cons d l ih=>
  have hd:=h d (List.mem_cons_self ..)
  have hdc:=hl d (List.mem_cons_self ..)
  simp only [Df,LU]
  have e:=JlA (c:=c) (d:=d) (k:=Hh c.Block pre) (j:=Hh d.Block pre) (λ hb=>by rw [hb])
  rw [e.1,if_pos hd.1]
  have hsh:shC (mvC (Hh c.Block pre) c) (mvC (Hh d.Block pre) d)=mvC (Hh c.Block (pre++[d])) c:=by
   unfold shC
   rw [e.2]
   by_cases hb:d.Block=c.Block
   ·have:=Jcl hdc hc (by rw [Sv];exact hd.1) hd.2 hb
    rw [if_pos this.1,Wq]
    unfold mvC
    simp only [Hh,if_pos hb]
    congr 1
    omega
   ·have:EN d c=false:=by rw [Jck];exact λ hh=>hb hh.1
    rw [if_neg (by rw [this];simp),Wq]
    simp [Hh,hb]
  rw [hsh]
  have:=ih (pre++[d]) (i+1) (λ x hx=>hl x (List.mem_cons_of_mem _ hx)) (λ x hx=>h x (List.mem_cons_of_mem _ hx))
  rw [this]
  simp only [List.append_assoc,List.cons_append,List.nil_append,List.length_cons]
  congr 3
  omega
end Go.AI
end
section
namespace Go.AI
def Okc (A:Int) (c:Ab):Prop:=-A<=c.At/\c.At<=A/\-1000<=c.Cut/\c.Cut<=1000/\c.Put.length<=1000
theorem Okc.mono {A B:Int} {c:Ab} (h:Okc A c) (hB:A<=B):Okc B c:=by unfold Okc at *;omega
theorem Okc.sh {A:Int} {c d:Ab} (h:Okc A c) {B:Int} (h':Okc B d):Okc (A+2000) (shC c d):=by
 unfold shC
 split
 ·unfold Okc at *;simp only;omega
 ·unfold Okc at *;omega
variable {A:Int} {c d:Ab}
theorem Pk (n:Nat) (hA:A<=1000000000000) (h:Okc A c) (h':Okc A d):E4 n c d=some (EN c d):=by
 unfold E4 EN
 unfold Okc at h h'
 rw [Cr (by omega) (by omega)]
 congr 2
 rw [decide_eq_decide];omega
theorem MX (n:Nat) (hA:A<=1000000000000) (h:Okc A c):D2 n c d=some (EN c d):=by
 unfold D2 EN
 unfold Okc at h
 rw [D4 (by omega) (by omega)]
theorem YF (n:Nat) (hA:A<=1000000000000) (h:Okc A c) (h':Okc A d):Kk n c d=some (frB c d):=by
 unfold Kk frB
 rw [Pk n hA h h',Pk n hA h' h]
 by_cases hb:c.Block=d.Block
 ·simp [hb]
 ·simp [hb]
theorem Sw (n:Nat) (hA:A<=1000000000000) (h:Okc A c) (h':Okc A d):GH n c d=some (frB c d):=by
 unfold GH frB
 rw [MX n hA h,MX n hA h']
 by_cases hb:c.Block=d.Block
 ·simp [hb]
 ·simp [hb]
theorem YG (n:Nat) (hA:A<=1000000000000) (h:Okc A c) (h':Okc A d):Dx n c d=some (ovS c d):=by
 unfold Dx ovS
 rw [YF n hA h h',Pk n hA h' h]
 cases frB c d with
 | false=>rfl
 | true=>
  simp only [JmC,JmJ,Jm5,if_false,if_true]
  unfold shC
  have e:Ak .i64 c.At (AW .i64 ((d.Put.length:Nat):Int) d.Cut)=c.At+((d.Put.length:Int)-d.Cut):=by
   unfold Okc at h h'
   rw [Cr (by omega) (by omega),D4 (by omega) (by omega)]
  split
  ·rw [e];rfl
  ·rfl
theorem Jcm (n:Nat) (hA:A<=1000000000000) (h:Okc A c) (h':Okc A d):Ls n c d=some (ovS c d):=by
 unfold Ls ovS
 rw [Sw n hA h h',MX n hA h']
 cases frB c d with
 | false=>rfl
 | true=>
  simp only [JmC,JmJ,Jm5,if_false,if_true]
  unfold shC
  have e:Ak .i64 c.At (AW .i64 ((d.Put.length:Nat):Int) d.Cut)=c.At+((d.Put.length:Int)-d.Cut):=by
   unfold Okc at h h'
   rw [Cr (by omega) (by omega),D4 (by omega) (by omega)]
  split
  ·rw [e];rfl
  ·rfl
theorem TJ (c d:Ab) (l:List Ab) (i:Nat):LU c (d::l) i=if frB c d=true then LU (shC c d) l (i+1) else (noC,(i:Int),false):=rfl
theorem Ws {l:List Ab} {c:Ab} (hl:l.length<=1000) (hd:∀ d∈l,Okc 1000000000 d) (hc:Okc 1000000000 c):Ev (λ n=>Io n c l) (LU c l 0):=by
 refine Tot.ev ?_
 refine Tot.bind (R:=λ y=>(match y with | .inl c'=>(c',((l.length:Nat):Int),true) | .inr r=>r)=LU c l 0) ?_ λ y hy=>by
  cases y with
  | inl c'=>exact Tot.pure hy
  | inr r=>exact Tot.pure hy
 refine Tot.upto l.length (λ i (x:Ab×Int)=>x.2=(i:Int)/\LU x.1 (l.drop i) i=LU c l 0/\Okc (1000000000+2000*i) x.1) ?_ ?_ _ ⟨rfl,by simp,by simpa using hc⟩
 ·rintro i ⟨c',x⟩ hi ⟨h1,h2,h3⟩
  simp only at h1 h2 h3
  subst h1
  unfold Gh
  have hdi:=hd _ (JmI hi)
  rw [List.drop_eq_getElem_cons hi] at h2
  refine Tot.iteT (decide_eq_true (by omega)) (Tot.bindC (AA hi) (Tot.bindA (λ n=>YG n (by omega) h3 (hdi.mono (by omega))) ?_))
  rw [TJ] at h2
  unfold ovS
  by_cases hf:frB c' l[i]=true
  ·rw [if_pos hf] at h2 ⊢
   refine Tot.iteF rfl (Tot.pure ⟨An (by omega),h2,?_⟩)
   have:=h3.sh hdi
   exact this.mono (by omega)
  ·rw [if_neg hf] at h2 ⊢
   exact Tot.iteT rfl (Tot.pure h2)
 ·rintro ⟨c',x⟩ ⟨h1,h2,h3⟩
  simp only at h1 h2 h3
  subst h1
  unfold Gh
  refine Tot.iteF (decide_eq_false (by omega)) (Tot.pure ?_)
  rw [List.drop_of_length_le (by omega)] at h2
  exact h2
theorem Z0 {l:List Ab} {c:Ab} (hl:l.length<=1000) (hd:∀ d∈l,Okc 1000000000 d) (hc:Okc 1000000000 c):Ev (λ n=>MF n c l) (LU c l 0):=by
 refine Tot.ev ?_
 refine Tot.bind (R:=λ y=>(match y with | .inl c'=>(c',((l.length:Nat):Int),true) | .inr r=>r)=LU c l 0) ?_ λ y hy=>by
  cases y with
  | inl c'=>exact Tot.pure hy
  | inr r=>exact Tot.pure hy
 refine Tot.upto l.length (λ i (x:Ab×Int)=>x.2=(i:Int)/\LU x.1 (l.drop i) i=LU c l 0/\Okc (1000000000+2000*i) x.1) ?_ ?_ _ ⟨rfl,by simp,by simpa using hc⟩
 ·rintro i ⟨c',x⟩ hi ⟨h1,h2,h3⟩
  simp only at h1 h2 h3
  subst h1
  unfold Fu
  have hdi:=hd _ (JmI hi)
  rw [List.drop_eq_getElem_cons hi] at h2
  refine Tot.iteT (decide_eq_true (by omega)) (Tot.bindC (AA hi) (Tot.bindA (λ n=>Jcm n (by omega) h3 (hdi.mono (by omega))) ?_))
  rw [TJ] at h2
  unfold ovS
  by_cases hf:frB c' l[i]=true
  ·rw [if_pos hf] at h2 ⊢
   refine Tot.iteF rfl (Tot.pure ⟨An (by omega),h2,?_⟩)
   have:=h3.sh hdi
   exact this.mono (by omega)
  ·rw [if_neg hf] at h2 ⊢
   exact Tot.iteT rfl (Tot.pure h2)
 ·rintro ⟨c',x⟩ ⟨h1,h2,h3⟩
  simp only at h1 h2 h3
  subst h1
  unfold Fu
  refine Tot.iteF (decide_eq_false (by omega)) (Tot.pure ?_)
  rw [List.drop_of_length_le (by omega)] at h2
  exact h2
theorem Jfj (n:Nat) (a b:Int):B7 n a b=some (if a<b then -1 else if b<a then 1 else 0):=by
 unfold B7 Eg
 simp only [JmC,bne_self_eq_false,Jm5,if_false,decide_eq_true_eq]
 by_cases h:a<b
 ·simp [h]
 ·by_cases h':b<a
  ·simp [h,h']
  ·simp [h,h']
theorem Jfk (n:Nat) (a b:List UInt8):Cs n a b=some (if Op.bytesLess a b=true then -1 else if a=b then 0 else 1):=by
 unfold Cs C2
 simp only [JmC,BEq.rfl,JmJ,Jm5,if_false]
 by_cases h:Op.bytesLess a b=true
 ·simp [h]
 ·have h:Op.bytesLess a b=false:=by simpa using h
  by_cases h':a=b
  ·subst h'
   simp [h]
  ·simp [h,h']
def XS (c d:Ab):Int:=
 if c.Block<d.Block then -1 else if d.Block<c.Block then 1 else if c.At<d.At then -1 else if d.At<c.At then 1 else if c.Cut<d.Cut then -1 else if d.Cut<c.Cut then 1
 else if Op.bytesLess c.Put d.Put=true then -1 else if c.Put=d.Put then 0 else 1
theorem XT (a b c d:Int):∀ n,5<=n->Hu n [a,b,c,d]=some (if a≠0 then a else if b≠0 then b else if c≠0 then c else d):=by
 intro n hn
 obtain ⟨m,rfl⟩:∃ m,n=m+5:=⟨n-5,by omega⟩
 unfold Hu
 by_cases ha:a=0<;>by_cases hb:b=0<;>by_cases hc:c=0<;>by_cases hd:d=0 <;>
  simp [whl,GO,idx,ha,hb,hc,hd,show Ak .i64 0 1=1 from rfl,show Ak .i64 1 1=2 from rfl,show Ak .i64 2 1=3 from rfl,show Ak .i64 3 1=4 from rfl]
theorem Wt (c d:Ab):∀ n,5<=n->GD n c d=some (XS c d):=by
 intro n hn
 unfold GD
 simp only [Jfj,Jfk,JmC]
 rw [XT _ _ _ _ n hn]
 unfold XS
 simp only [JmC,Jm4]
 by_cases h1:c.Block<d.Block<;>by_cases h2:d.Block<c.Block<;>by_cases h3:c.At<d.At<;>by_cases h4:d.At<c.At<;>by_cases h5:c.Cut<d.Cut<;>by_cases h6:d.Cut<c.Cut<;>simp [h1,h2,h3,h4,h5,h6]
end Go.AI
end
section
namespace Go.AI
theorem D6 {ρ ζ:Type} {body:Nat->Int->Option (Int⊕(Unit⊕ρ))} {k:Nat->(Unit⊕ρ)->Option ζ} {r:ζ} (N:Nat) (h:∀ i,i<N->Ev (λ n=>body n (i:Int)) (.inl ((i+1:Nat):Int))) (hl:∀ n,body n (N:Int)=some (.inr (.inl ()))) (hk:∀ n,k n (.inl ())=some r):Ev (λ n=>(whl (body n) n 0).bind (k n)) r:=by
 refine Tot.ev (Tot.bind (R:=λ y=>y=.inl ()) ?_ λ y hy=>?_)
 ·refine Tot.upto N (λ i (x:Int)=>x=(i:Int)) (λ i x hi hx=>?_) (λ x hx=>?_) _ rfl
  ·subst hx
   exact (h i hi).tot rfl
  ·subst hx
   exact Tot.all hl rfl
 ·subst hy
  exact Tot.all hk rfl
theorem Jj1 {f:List Ao} (h:f.length<=1000000000):Ev (λ n=>OE n f f) true:=by
 refine Tot.ev (Tot.iteF (by simp) (Ev.tot (D6 f.length (λ i hi=>?_) (λ n=>?_) λ n=>rfl) rfl))
 ·unfold Gi
  exact Tot.ev (Tot.iteT (decide_eq_true (by omega)) (Tot.bindC (AA hi) (Tot.bindC (AA hi) (Tot.iteF (by simp) (Tot.pure (by rw [An (by omega)]))))))
 ·unfold Gi
  rw [if_neg (by simp)]
structure SzB (x:Ai):Prop where
 rows:x.Rows.length<=1000000000
 row:∀ r∈x.Rows,r.length<=1000000000
 f:x.F.length<=1000000000
 pf:x.Pic.F.length<=1000000000
 pp:∀ g∈x.Pic.F,g.P.length<=1000000000
theorem Jcn {l:List (List (List UInt8))} (h:l.length<=1000000000) (h':∀ r∈l,r.length<=1000000000):Ev (λ n=>H2 n l l) true:=by
 refine Tot.ev (Tot.iteF (by simp) (Ev.tot (D6 l.length (λ i hi=>?_) (λ n=>?_) λ n=>rfl) rfl))
 ·unfold Dk
  have hr:=h' _ (JmI hi)
  refine Tot.ev (Tot.iteT (decide_eq_true (by omega)) (Tot.bindC (AA hi) (Tot.bindC (AA hi) (Tot.iteF (by simp) (Ev.tot (D6 l[i].length (λ j hj=>?_) (λ n=>?_) λ n=>rfl) (by rw [An (by omega)]))))))
  ·unfold Dj
   exact Tot.ev (Tot.bindC (AA hi) (Tot.iteT (decide_eq_true (by omega)) (Tot.bindC (AA hi) (Tot.bindC (AA hj) (Tot.bindC (AA hi) (Tot.bindC (AA hj) (Tot.iteF (by simp) (Tot.pure (by rw [An (by omega)])))))))))
  ·unfold Dj
   rw [AA hi]
   simp
 ·unfold Dk
  rw [if_neg (by simp)]
theorem Wu {p:Ag} (h:p.F.length<=1000000000) (h':∀ g∈p.F,g.P.length<=1000000000):Ev (λ n=>E5 n p p) true:=by
 refine Tot.ev (Tot.iteF (by simp) (Ev.tot (D6 p.F.length (λ i hi=>?_) (λ n=>?_) λ n=>rfl) rfl))
 ·unfold Cu
  have hr:=h' _ (JmI hi)
  refine Tot.ev (Tot.iteT (decide_eq_true (by omega)) (Tot.bindC (AA hi) (Tot.bindC (AA hi) (Tot.iteF (by simp) (Ev.tot (D6 p.F[i].P.length (λ j hj=>?_) (λ n=>?_) λ n=>rfl) (by rw [An (by omega)]))))))
  ·unfold Ct
   exact Tot.ev (Tot.iteT (decide_eq_true (by omega)) (Tot.bindC (AA hj) (Tot.bindC (AA hj) (Tot.iteF (by simp) (Tot.pure (by rw [An (by omega)]))))))
  ·unfold Ct
   rw [if_neg (by simp)]
 ·unfold Cu
  rw [if_neg (by simp)]
theorem Z1 {x:Ai} (h:SzB x):Ev (λ n=>GT n x x) true:=
 Tot.ev (Tot.gE (by simp) (Jj1 h.f) (Tot.iteF (by simp) (Tot.bindE (Jcn h.rows h.row) (Tot.gE rfl (Wu h.pf h.pp) (Tot.pure rfl)))))
theorem Wv {b:List Ai} (h:b.length<=1000000000) (h':∀ x∈b,SzB x):Ev (λ n=>Ip n b b) true:=by
 refine Tot.ev (Tot.iteF (by simp) (Ev.tot (D6 b.length (λ i hi=>?_) (λ n=>?_) λ n=>rfl) rfl))
 ·unfold Gj
  exact Tot.ev (Tot.iteT (decide_eq_true (by omega)) (Tot.bindC (AA hi) (Tot.bindC (AA hi) (Tot.bindE (Z1 (h' _ (JmI hi))) (Tot.iteF rfl (Tot.pure (by rw [An (by omega)])))))))
 ·unfold Gj
  rw [if_neg (by simp)]
theorem Ww {l:List Ab} (h:l.length<=1000000000):Ev (λ n=>E6 n l l) true:=by
 refine Tot.ev (Tot.iteF (by simp) (Ev.tot (D6 l.length (λ i hi=>?_) (λ n=>?_) λ n=>rfl) rfl))
 ·unfold Cv
  exact Tot.ev (Tot.iteT (decide_eq_true (by omega)) (Tot.bindC (AA hi) (Tot.bindC (AA hi) (Tot.iteF (by simp) (Tot.pure (by rw [An (by omega)]))))))
 ·unfold Cv
  rw [if_neg (by simp)]
theorem PY {v:Af} (h:v.Agreed.length<=1000000000) (h':v.Quarrels.length<=1000000000):Ev (λ n=>Lm n v v) true:=by
 refine Tot.ev (Tot.bindE (Ww h) (Tot.iteF (by simp) (Ev.tot (D6 v.Quarrels.length (λ i hi=>?_) (λ n=>?_) λ n=>rfl) rfl)))
 ·unfold Gk
  exact Tot.ev (Tot.iteT (decide_eq_true (by omega)) (Tot.bindC (AA hi) (Tot.bindC (AA hi) (Tot.iteF (by simp) (Tot.pure (by rw [An (by omega)]))))))
 ·unfold Gk
  rw [if_neg (by simp)]
end Go.AI
end
section
namespace Go.AI
def scan {ρ:Type} (N:Nat) (stop:Nat->Option ρ):Unit⊕ρ:=match (List.range N).findSome? stop with
 | some r=>.inr r
 | none=>.inl ()
theorem YH {ρ:Type} {body:Nat->Int->Option (Int⊕(Unit⊕ρ))} (N:Nat) (stop:Nat->Option ρ)
  (h:∀ i,i<N->Ev (λ n=>body n (i:Int)) (match stop i with|some r=>.inr (.inr r)|none=>.inl ((i+1:Nat):Int)))
  (h2:Ev (λ n=>body n (N:Int)) (.inr (.inl ()))):Ev (λ n=>whl (body n) n 0) (AI.scan N stop):=by
 have key:∀ (k i:Nat),i+k=N->(List.range N).findSome? stop=((List.range k).map (i+·)).findSome? stop->∃ M c,∀ n fuel,M<=n->c<=fuel->whl (body n) fuel (i:Int)=some (AI.scan N stop):=by
  intro k
  induction k with
  | zero=>
   intro i hi hf
   have:i=N:=by omega
   subst this
   obtain ⟨M,hM⟩:=h2
   refine ⟨M,1,λ n fuel hn hfu=>?_⟩
   obtain ⟨fuel,rfl⟩:∃ f,fuel=f+1:=⟨fuel-1,by omega⟩
   have e:=hM n hn
   simp only at e
   simp only [AI.whl,e]
   unfold AI.scan
   rw [hf];rfl
  | succ k ih=>
   intro i hi hf
   obtain ⟨M,hM⟩:=h i (by omega)
   have hs:(List.range (k+1)).map (i+·)=i::(List.range k).map ((i+1)+·):=by
    rw [List.range_succ_eq_map]
    simp only [JmR,Nat.add_zero,List.map_map,List.cons.injEq,true_and]
    apply List.map_congr_left
    intro a _
    simp only [Function.comp];omega
   rw [hs,List.findSome?_cons] at hf
   cases hst:stop i with
   | some r=>
    rw [hst] at hf hM
    refine ⟨M,1,λ n fuel hn hfu=>?_⟩
    obtain ⟨fuel,rfl⟩:∃ f,fuel=f+1:=⟨fuel-1,by omega⟩
    have e:=hM n hn
    simp only at e
    simp only [AI.whl,e]
    unfold AI.scan
    rw [hf]
   | none=>
    rw [hst] at hf hM
    obtain ⟨M2,c,h3⟩:=ih (i+1) (by omega) hf
    refine ⟨max M M2,c+1,λ n fuel hn hfu=>?_⟩
    obtain ⟨fuel,rfl⟩:∃ f,fuel=f+1:=⟨fuel-1,by omega⟩
    have e:=hM n (by omega)
    simp only at e
    simp only [AI.whl,e]
    exact h3 n fuel (by omega) (by omega)
 obtain ⟨M,c,hh⟩:=key N 0 (by omega) (by simp)
 exact ⟨max M c,λ m hm=>hh m m (by omega) (by omega)⟩
theorem Z2 {ρ:Type} {N:Nat} {stop:Nat->Option ρ} (h:∀ i,i<N->stop i=none):scan N stop=.inl ():=by
 unfold scan
 rw [List.findSome?_eq_none_iff.2 λ i hi=>h i (List.mem_range.1 hi)]
theorem Z3 {ρ:Type} {N:Nat} {stop:Nat->Option ρ} {i:Nat} (hi:i<N) (h:(stop i).isSome=true):∃ k r,k<N/\stop k=some r/\scan N stop=.inr r:=by
 unfold scan
 cases hf:(List.range N).findSome? stop with
 | none=>rw [List.findSome?_eq_none_iff.1 hf i (List.mem_range.2 hi)] at h;cases h
 | some r=>
  obtain ⟨k,hk,hr⟩:=List.exists_of_findSome?_eq_some hf
  exact ⟨k,r,List.mem_range.1 hk,hr,rfl⟩
def EL (b:UInt8):Int:=(b.toNat:Int)
def Hi (b:UInt8):Bool:=decide (Ed .u8 (EL b) 127>=32)&&decide (Ed .u8 (EL b) 127<=126)
def CE (b:UInt8):Bool:=Ed .u8 (EL b) 127==32
theorem EM {s:List UInt8} {i:Nat} {b:UInt8} (h:s[i]? = some b):Je s (i:Int)=some (EL b):=by
 have hi:=(List.getElem?_eq_some_iff.1 h).1
 unfold Je EL
 rw [if_pos (by omega),Jm3,h];rfl
theorem D8 {i n:Nat} (h:i<n):decide ((i:Int)<((n:Nat):Int))=true:=by simpa using h
theorem CF (n:Nat):decide (((n:Nat):Int)<((n:Nat):Int))=false:=by simp
def PZ (s:List UInt8):Int×Int:=match scan s.length (λ i=>if Hi (s.getD i 0) then none else some ((i:Int),(60:Int))) with
 | .inl _=>(((s.length:Nat):Int),0)
 | .inr p=>p
theorem BW {α:Type} {l:List α} {i:Nat} {d:α} (h:i<l.length):l.getD i d=l[i]:=by
 rw [Jm2,JmT h];rfl
theorem Jfl {s:List UInt8} (hl:s.length<9223372036854775807):Ev (λ n=>Nz n s) (PZ s):=by
 unfold Nz PZ
 refine Ev.bind (YH s.length (λ i=>if Hi (s.getD i 0) then none else some ((i:Int),(60:Int))) (λ i hi=>Ev.all λ n=>?_) (Ev.all λ n=>?_)) ?_
 ·unfold Ht
  have hg:s[i]? = some s[i]:=JmT hi
  rw [if_pos (D8 hi),EM hg,BW hi]
  have hc:FU n (EL s[i])=some (Hi s[i]):=rfl
  simp only [JmC,hc]
  cases Hi s[i] with
  | true=>simp [An (show i<9223372036854775807 by omega)]
  | false=>simp
 ·unfold Ht
  rw [if_neg (by simp)]
 ·generalize scan s.length _=z;cases z<;>exact Ev.const
theorem Jco {s:List UInt8} (hl:s.length<9223372036854775807):Ev (λ n=>NB n s) (PZ s):=by
 unfold NB PZ
 refine Ev.bind (YH s.length (λ i=>if Hi (s.getD i 0) then none else some ((i:Int),(60:Int))) (λ i hi=>Ev.all λ n=>?_) (Ev.all λ n=>?_)) ?_
 ·unfold HD
  have hg:s[i]? = some s[i]:=JmT hi
  rw [if_pos (D8 hi),EM hg,BW hi]
  have hc:H6 n (EL s[i])=some (Hi s[i]):=rfl
  simp only [JmC,hc]
  cases Hi s[i] with
  | true=>simp [An (show i<9223372036854775807 by omega)]
  | false=>simp
 ·unfold HD
  rw [if_neg (by simp)]
 ·generalize scan s.length _=z;cases z<;>exact Ev.const
theorem Wx {s:List UInt8} (h:s.all Hi=true):PZ s=(((s.length:Nat):Int),0):=by
 unfold PZ
 rw [Z2 λ i hi=>by rw [BW hi,JmG.1 h _ (JmI hi)];rfl]
theorem TL {s:List UInt8} (h:s.all Hi=false):(PZ s).2=60:=by
 rw [List.all_eq_false] at h
 obtain ⟨b,hb,hc⟩:=h
 obtain ⟨i,hi,e⟩:=List.getElem_of_mem hb
 unfold PZ
 obtain ⟨k,r,hk,hr,hs⟩:=Z3 (stop:=λ i=>if Hi (s.getD i 0) then none else some ((i:Int),(60:Int))) hi (by
  rw [BW hi,e];simp only [Bool.not_eq_true] at hc;rw [hc];rfl)
 rw [hs]
 simp only at hr ⊢
 split at hr
 ·cases hr
 ·cases hr;rfl
theorem Z4 {s:List UInt8} (hl:s.length<9223372036854775807):Ev (λ n=>Jj n s) (s.all Hi):=by
 unfold Jj
 refine Ev.bind (Jco hl) ?_
 cases h:s.all Hi with
 | true=>rw [Wx h];exact Ev.const
 | false=>rw [TL h];exact Ev.const
def Jw (b:Int):Int:=
 if (decide (97<=Ed .u8 b 127)&&decide (Ed .u8 b 127<=122))=true then 1
 else if (decide (65<=Ed .u8 b 127)&&decide (Ed .u8 b 127<=90))=true then 2
 else if (decide (48<=Ed .u8 b 127)&&decide (Ed .u8 b 127<=57))=true then 3
 else if (Ed .u8 b 127==32)=true then 4 else 5
theorem Jcp (n:Nat) (b:Int):Ll n b=some (Jw b):=by
 unfold Ll Jw
 split
 ·rfl
 ·split
  ·rfl
  ·split
   ·rfl
   ·split<;>rfl
def Hj:Bool->List UInt8->Bool
 | p,[]=>!p
 | p,b::s=>if CE b=true then (if p=true then false else Hj true s) else Hj false s
def clS (s:List UInt8):Bool:=decide (s.length<=400)&&(s.all Hi&&Hj true s)
theorem TM (p:Bool) (b:UInt8) (s:List UInt8):Hj p (b::s)=if CE b=true then (if p=true then false else Hj true s) else Hj false s:=rfl
theorem Lu {p:Bool} {b:UInt8} {s:List UInt8} (h:(CE b&&p)=false):Hj p (b::s)=Hj (CE b) s:=by
 rw [TM]
 cases hb:CE b with
 | false=>simp
 | true=>
  rw [hb,Bool.true_and] at h
  simp [h]
theorem UW {p:Bool} {b:UInt8} {s:List UInt8} (h:(CE b&&p)=true):Hj p (b::s)=false:=by
 rw [JmU] at h
 rw [TM]
 simp [h.1,h.2]
theorem Pm:∀ (s:List UInt8) (p:Bool),s≠[]->CE (s.getD (s.length-1) 0)=true->Hj p s=false
 | [],_,h,_=>absurd rfl h
 | [b],p,_,h=>by
  have hb:CE b=true:=h
  unfold Hj
  rw [if_pos hb]
  cases p<;>rfl
 | b::c::s,p,_,h=>by
  have h':CE ((c::s).getD ((c::s).length-1) 0)=true:=h
  have e1:=Pm (c::s) true (by simp) h'
  have e2:=Pm (c::s) false (by simp) h'
  unfold Hj
  split
  ·split
   ·rfl
   ·exact e1
  ·exact e2
theorem Sx (b:UInt8):(Jw (EL b)==4)=CE b:=by
 unfold Jw CE
 generalize Ed .u8 (EL b) 127=v
 by_cases h:v=32
 ·subst h;rfl
 ·have e:(v==32)=false:=by simpa using h
  rw [e]
  split
  ·rfl
  ·split
   ·rfl
   ·split
    ·rfl
    ·rfl
theorem TN (b:UInt8):Jw (EL b)≠0:=by
 unfold Jw
 split
 ·decide
 ·split
  ·decide
  ·split
   ·decide
   ·split<;>decide
theorem Jfm {s:List UInt8} (h:clS s=true):1<=s.length/\s.length<=400:=by
 unfold clS at h
 simp only [JmU,decide_eq_true_eq] at h
 refine ⟨?_,h.1⟩
 cases s with
 | nil=>simp [Hj] at h
 | cons=>simp
theorem Jcq (s:List UInt8) (hl:s.length<9223372036854775807):Ev (λ n=>Il n s) (clS s):=by
 refine Tot.ev (Tot.ite (λ h=>Tot.pure ?_) λ h=>?_)
 ·simp only [Jnb,decide_eq_true_eq] at h
  unfold clS
  rcases h with h|h
  ·have:s=[]:=List.length_eq_zero_iff.1 (by omega)
   subst this;rfl
  ·rw [decide_eq_false (by omega)];rfl
 ·simp only [JmS,decide_eq_false_iff_not] at h
  have h4:decide (s.length<=400)=true:=decide_eq_true (by omega)
  unfold clS
  rw [h4,Bool.true_and]
  refine Tot.bindE (Jfl hl) ?_
  cases hc:s.all Hi with
  | false=>
   rw [TL hc]
   exact Tot.iteT rfl (Tot.pure rfl)
  | true=>
   rw [Wx hc]
   refine Tot.iteF rfl ?_
   rw [Bool.true_and]
   refine Tot.bind (R:=λ y=>(match y with | .inl l=>(l != 4) | .inr b=>b)=Hj true s) ?_ λ y hy=>by
    cases y with
    | inl l=>exact Tot.pure hy
    | inr b=>exact Tot.pure hy
   refine Tot.upto s.length (λ i (x:Int×Int)=>x.2=(i:Int)/\(x.1=0->i=0)/\Hj ((x.1==0)||(x.1==4)) (s.drop i)=Hj true s) ?_ ?_ _ ⟨rfl,λ _=>rfl,rfl⟩
   ·rintro i ⟨l,x⟩ hi ⟨h1,h2,h3⟩
    simp only at h1 h2 h3
    subst h1
    unfold Gg
    rw [List.drop_eq_getElem_cons hi] at h3
    refine Tot.iteT (decide_eq_true (by omega)) (Tot.bindC (EM (JmT hi)) (Tot.bindA (λ n=>Jcp n _) ?_))
    rw [Sx]
    refine Tot.ite (λ hb=>Tot.pure ?_) λ hb=>Tot.pure ⟨An (by omega),λ h0=>absurd h0 (TN _),?_⟩
    ·show false=_
     rw [← h3,UW hb]
    ·rw [Lu hb] at h3
     rw [← h3]
     show Hj ((Jw (EL s[i])==0)||(Jw (EL s[i])==4)) (s.drop (i+1))=_
     rw [Sx,show (Jw (EL s[i])==0)=false by simpa using TN _,Bool.false_or]
   ·rintro ⟨l,x⟩ ⟨h1,h2,h3⟩
    simp only at h1 h2 h3
    subst h1
    unfold Gg
    refine Tot.iteF (decide_eq_false (by omega)) (Tot.pure ?_)
    rw [List.drop_of_length_le (JmK _)] at h3
    show (l != 4)=_
    rw [← h3]
    have:(l==0)=false:=by
     rw [beq_eq_false_iff_ne]
     intro h0
     have:=h2 h0
     omega
    rw [this]
    rfl
theorem N8 (n:Nat) (b:UInt8):GE n (EL b)=some (CE b):=rfl
theorem Lv (s:List UInt8) (hl:s.length<9223372036854775807):Ev (λ n=>GG n s) (clS s):=by
 refine Tot.ev (Tot.bindE (Z4 hl) ?_)
 unfold clS
 cases hc:s.all Hi with
 | false=>
  refine Tot.gF rfl (Tot.gF rfl (Tot.gF rfl (Tot.gF rfl (Tot.iteT rfl (Tot.pure ?_)))))
  rw [Bool.false_and,Bool.and_false]
 | true=>
  rw [Bool.true_and]
  by_cases h0:s=[]
  ·subst h0
   exact Tot.gF rfl (Tot.gF rfl (Tot.gF rfl (Tot.gF rfl (Tot.iteT rfl (Tot.pure rfl)))))
  ·have hp:0<s.length:=List.length_pos_iff.2 h0
   have e0:(((s.length:Nat):Int)==0)=false:=by rw [beq_eq_false_iff_ne];omega
   rw [e0]
   by_cases h4:s.length<=400
   ·have e4:decide (((s.length:Nat):Int)>400)=false:=decide_eq_false (by omega)
    rw [e4,decide_eq_true h4,Bool.true_and]
    have ef:s.getD 0 0=s[0]:=BW hp
    have g0:Je s 0=some (EL s[0]):=EM (i:=0) (JmT hp)
    have hm:s.length-1<s.length:=by omega
    have g1:Je s (AW .i64 ((s.length:Nat):Int) 1)=some (EL s[s.length-1]):=by
     rw [Cr (by omega) (by omega),show ((s.length:Nat):Int)-1=((s.length-1:Nat):Int) by omega]
     exact EM (JmT hm)
    refine Tot.gE rfl (Ev.all λ n=>g0) (Tot.gE rfl (Ev.all λ n=>N8 n _) ?_)
    obtain ⟨b0,s',rfl⟩:∃ b s',s=b::s':=by cases s with|nil=>exact absurd rfl h0|cons b s'=>exact ⟨b,s',rfl⟩
    cases hb:CE (b0::s')[0] with
    | true=>
     refine Tot.gF rfl (Tot.gF rfl (Tot.iteT rfl (Tot.pure ?_)))
     exact (UW (by rw [Bool.and_true];exact hb)).symm
    | false=>
     refine Tot.gE rfl (Ev.all λ n=>g1) (Tot.gE rfl (Ev.all λ n=>N8 n _) ?_)
     cases hb1:CE (b0::s')[(b0::s').length-1] with
     | true=>
      refine Tot.iteT rfl (Tot.pure ?_)
      exact (Pm _ _ (by simp) (by rw [BW hm];exact hb1)).symm
     | false=>
      refine Tot.iteF rfl ?_
      have hst:Hj true (b0::s')=Hj false s':=by
       have:=Lu (p:=true) (b:=b0) (s:=s') (by rw [Bool.and_true];exact hb)
       rw [this,show CE b0=false from hb]
      generalize hS:b0::s'=S at *
      refine Tot.bind (R:=λ y=>(match y with | .inl _=>true | .inr b=>b)=Hj true S) ?_ λ y hy=>by
       cases y with
       | inl l=>exact Tot.pure hy
       | inr b=>exact Tot.pure hy
      refine Tot.whl (λ k (x:Int)=>∃ i:Nat,x=(i:Int)/\1<=i/\i+k=S.length/\Hj (CE (S.getD (i-1) 0)) (S.drop i)=Hj true S) ?_ (S.length-1) _ ⟨1,rfl,by omega,by omega,?_⟩
      ·rintro k _ ⟨i,rfl,hi1,hik,h3⟩
       unfold Jk
       rcases JmL i S.length with hi|hi
       ·rw [List.drop_eq_getElem_cons hi] at h3
        have gp:Je S (AW .i64 (i:Int) 1)=some (EL (S.getD (i-1) 0)):=by
         rw [Cr (by omega) (by omega),show (i:Int)-1=((i-1:Nat):Int) by omega,BW (by omega)]
         exact EM (JmT (by omega))
        refine Tot.iteT (decide_eq_true (by omega)) (Tot.bindC (EM (JmT hi)) (Tot.bindA (λ n=>N8 n _) ?_))
        cases hsi:CE S[i] with
        | false=>
         rw [Lu (by rw [hsi];rfl),hsi] at h3
         refine Tot.gF rfl (Tot.gF rfl (Tot.iteF rfl (Tot.pure ⟨k-1,by omega,i+1,An (by omega),by omega,by omega,?_⟩)))
         rw [show i+1-1=i by omega,BW hi,hsi];exact h3
        | true=>
         refine Tot.gE rfl (Ev.all λ n=>gp) (Tot.gE rfl (Ev.all λ n=>N8 n _) ?_)
         cases hsp:CE (S.getD (i-1) 0) with
         | true=>
          rw [UW (by rw [hsi,hsp];rfl)] at h3
          exact Tot.iteT rfl (Tot.pure h3)
         | false=>
          rw [Lu (by rw [hsi,hsp];rfl),hsi] at h3
          refine Tot.iteF rfl (Tot.pure ⟨k-1,by omega,i+1,An (by omega),by omega,by omega,?_⟩)
          rw [show i+1-1=i by omega,BW hi,hsi];exact h3
       ·refine Tot.iteF (decide_eq_false (by omega)) (Tot.pure ?_)
        show true=_
        rw [← h3,List.drop_of_length_le hi]
        have:i=S.length:=by omega
        subst this
        rw [BW hm,hb1];rfl
      ·rw [hst]
       subst hS
       show Hj (CE b0) s'=_
       rw [show CE b0=false from hb]
   ·have e4:decide (((s.length:Nat):Int)>400)=true:=decide_eq_true (by omega)
    rw [e4,decide_eq_false h4]
    exact Tot.gF rfl (Tot.gF rfl (Tot.gF rfl (Tot.gF rfl (Tot.iteT rfl (Tot.pure rfl)))))
end Go.AI
end
section
namespace Go.AI
def U8 (n:Int):Prop:=0<=n/\n<256
theorem u8w {n:Int} (h:U8 n):IntKind.i64.wrap n=n:=by unfold U8 at h;exact w64 (by omega) (by omega)
theorem IX {x:Int} (h:x≠0):BM (!(x==0))=some ():=D5 (by simpa using h)
theorem Sy {l:List Int} (hl:l.length<=9223372036854775807) (hu:∀ x∈l,U8 x) {k:Nat} (hk:1<=k) (hk2:k<=100) {a:List UInt8} (ha:1<=a.length) (ha2:a.length<=100):Tot (λ n=>Iq n l (k:Int) a) (λ z=>z.length<=k):=by
 have e1:Ak .i64 ((a.length:Nat):Int) 1=((a.length+1:Nat):Int):=An (by omega)
 have e2:AW .i64 (k:Int) 1=((k-1:Nat):Int):=(Cr (by omega) (by omega)).trans (by omega)
 refine Tot.bind (R:=λ z=>z.length<=k) ?_ λ z hz=>?_
 ·refine Tot.upto l.length (λ i (x:List UInt8×Int)=>x.2=(i:Int)/\x.1.length<=k) ?_ ?_ _ ⟨rfl,by simp⟩
  ·rintro i ⟨o,x⟩ hi ⟨h1,h2⟩
   simp only at h1 h2
   subst h1
   unfold Gm
   refine Tot.ite (λ hb=>?_) λ hb=>Tot.pure h2
   rw [JmU,decide_eq_true_eq,decide_eq_true_eq] at hb
   simp only at hb
   have hlt:i<l.length:=by omega
   have hx:=hu _ (JmI hlt)
   rw [e1]
   refine Tot.bindC (AA hlt) (Tot.bindC (IX (by omega)) ?_)
   rw [u8w hx]
   unfold U8 at hx
   obtain ⟨r1,r2,r3⟩:=BP (a:=l[i]) (m:=((a.length+1:Nat):Int)) (by omega) (by omega)
   refine Tot.ite (λ hr=>?_) λ hr=>?_
   ·rw [decide_eq_true_eq] at hr
    rw [Cr (by omega) (by omega)]
    refine Tot.bindC (IW (by omega) (by omega) (by omega)) (Tot.bindC (UU ?_) (Tot.pure ⟨An (by omega),?_⟩))
    ·simp only [List.length_drop,List.length_take];omega
    ·simp only [List.length_append,List.length_drop,List.length_take];omega
   ·rw [e2]
    by_cases h0:0<o.length
    ·have hg:Je o (AW .i64 ((o.length:Nat):Int) 1)=some (EL (o.getD (o.length-1) 0)):=by
      rw [Cr (by omega) (by omega),show ((o.length:Nat):Int)-1=((o.length-1:Nat):Int) by omega,BW (by omega)]
      exact EM (JmT (by omega))
     refine Tot.guard (R:=λ _=>True) (λ _=>Tot.all (λ n=>hg) trivial) λ b _=>Tot.ite (λ hc=>?_) λ hc=>Tot.pure ⟨An (by omega),h2⟩
     refine Tot.bindC (UU (by simp;omega)) (Tot.pure ⟨An (by omega),?_⟩)
     simp only [JmU,decide_eq_true_eq] at hc
     simp only [List.length_append,List.length_singleton];omega
    ·have hf:decide (((o.length:Nat):Int)>0)=false:=decide_eq_false (by omega)
     rw [hf]
     exact Tot.gF rfl (Tot.iteF rfl (Tot.pure ⟨An (by omega),h2⟩))
  ·rintro ⟨o,x⟩ ⟨h1,h2⟩
   simp only at h1 h2
   subst h1
   unfold Gm
   exact Tot.iteF (by rw [Bool.and_eq_false_iff,decide_eq_false_iff_not];left;omega) (Tot.pure h2)
 ·have hfin:∀ z':List UInt8,z'.length<=k->Tot (λ n=>Ei n a z') (λ z=>z.length<=k):=λ z' hz'=>by
   unfold Ei
   refine Tot.ite (λ _=>Tot.bindC (UV (k:=1) (by omega)) (Tot.pure ?_)) λ _=>Tot.pure hz'
   simp only [List.length_take];omega
  by_cases h0:0<z.length
  ·have hg:Je z (AW .i64 ((z.length:Nat):Int) 1)=some (EL (z.getD (z.length-1) 0)):=by
    rw [Cr (by omega) (by omega),show ((z.length:Nat):Int)-1=((z.length-1:Nat):Int) by omega,BW (by omega)]
    exact EM (JmT (by omega))
   refine Tot.gE (decide_eq_true (by omega)) (Ev.all λ n=>hg) (Tot.ite (λ _=>?_) λ _=>hfin z hz)
   rw [Cr (by omega) (by omega),show ((z.length:Nat):Int)-1=((z.length-1:Nat):Int) by omega]
   refine Tot.bindC (UV (by omega)) (hfin _ ?_)
   simp only [List.length_take];omega
  ·have hf:decide (((z.length:Nat):Int)>0)=false:=decide_eq_false (by omega)
   rw [hf]
   exact Tot.gF rfl (Tot.iteF rfl (hfin z hz))
def wdK (x:Ai):Bool:=((x.Kind==1)||(x.Kind==2))||(x.Kind==4)
def Du (b:List Ai) (i:Int):Ai:=b.getD i.toNat default
def wdB (b:List Ai) (i:Int):Bool:=(decide (0<=i)&&decide (i<((b.length:Nat):Int)))&&wdK (Du b i)
theorem N9 {b:List Ai} {i:Int}:wdB b i=true↔(0<=i/\i<(b.length:Int))/\wdK (Du b i)=true:=by unfold wdB;simp
theorem QK {b:List Ai} {i:Int} (h:0<=i) (h':i<(b.length:Int)):idx b i=some (Du b i):=Jci h h'
theorem Z5 (n:Nat) (b:List Ai) (i:Int):HE n b i=some (wdB b i):=by
 unfold HE wdB wdK
 by_cases h:0<=i/\i<(b.length:Int)
 ·have e1:decide (i>=0)=true:=decide_eq_true h.1
  have e2:decide (i<((b.length:Nat):Int))=true:=decide_eq_true h.2
  rw [e1,e2,QK h.1 h.2]
  generalize Du b i=x
  by_cases h1:x.Kind=1
  ·simp [h1]
  ·by_cases h2:x.Kind=2
   ·simp [h2]
   ·simp [h1,h2]
 ·have e:(decide (i>=0)&&decide (i<((b.length:Nat):Int)))=false:=by simp only [Bool.and_eq_false_iff,decide_eq_false_iff_not];omega
  rw [e]
  rfl
structure BkT (b:List Ai):Prop where
 len:b.length<=100
 txt:∀ x∈b,x.Text.length<=400
theorem BkT.blk {b:List Ai} (h:BkT b) (i:Int):(Du b i).Text.length<=400:=by
 unfold Du
 rw [Jm2]
 cases he:b[i.toNat]? with
 | none=>exact Nat.zero_le _
 | some x=>exact h.txt x (JmV he)
structure RwC (x:AS):Prop where
 b:U8 x.Block
 a:U8 x.At
 c:U8 x.Cut
 l:x.Put.length<=9223372036854775807
 p:∀ y∈x.Put,U8 y
structure MdC (b:List Ai) (c:Ab):Prop where
 bl:0<=c.Block/\c.Block<256
 at0:0<=c.At
 at1:c.At<=400
 cut0:0<=c.Cut
 cut1:c.Cut<=3
 put:c.Put.length<=4
 wd:(∃ i,wdB b i=true)->wdB b c.Block=true/\c.At+c.Cut<=((Du b c.Block).Text.length:Int)
theorem MdC.ok {b:List Ai} {c:Ab} (h:MdC b c) {A:Int} (hA:400<=A):Okc A c:=by
 have:=h.at0;have:=h.at1;have:=h.cut0;have:=h.cut1;have:=h.put
 unfold Okc;omega
theorem Jcr {b:List Ai} (hb:BkT b) {x:AS} (hx:RwC x) {a:List UInt8} (ha:1<=a.length) (ha2:a.length<=100):Tot (λ n=>OM n b x a) (MdC b):=by
 have hbl:=hb.len
 refine Tot.bind (R:=λ l=>(l.length<=100/\∀ i∈l,wdB b i=true)/\(l=[]->∀ i,wdB b i=false)) ?_ λ l hl=>?_
 ·refine Tot.upto b.length (λ i (y:List Int×Int)=>y.2=(i:Int)/\(y.1.length<=i/\∀ j∈y.1,wdB b j=true)/\(y.1=[]->∀ j:Nat,j<i->wdB b (j:Int)=false)) ?_ ?_ _ ⟨rfl,⟨by simp,by simp⟩,λ _ j hj=>by omega⟩
  ·rintro i ⟨l,y⟩ hi ⟨h1,h2,h3⟩
   simp only at h1 h2 h3
   subst h1
   unfold Gx
   refine Tot.iteT (decide_eq_true (by omega)) (Tot.bindA (λ n=>Z5 n b _) (Tot.ite (λ hw=>?_) λ hw=>Tot.pure ⟨An (by omega),⟨by have:=h2.1;show l.length<=i+1;omega,h2.2⟩,λ he j hj=>?_⟩))
   ·refine Tot.bindC (A9 (by simp;omega)) (Tot.pure ⟨An (by omega),⟨by simp;exact h2.1,λ j hj=>?_⟩,λ he=>?_⟩)
    ·rw [List.mem_append,List.mem_singleton] at hj
     rcases hj with hj|rfl
     ·exact h2.2 j hj
     ·exact hw
    ·simp at he
   ·rcases Nat.lt_succ_iff_lt_or_eq.1 hj with h|rfl
    ·exact h3 he j h
    ·exact hw
  ·rintro ⟨l,y⟩ ⟨h1,h2,h3⟩
   simp only at h1 h2 h3
   subst h1
   unfold Gx
   refine Tot.iteF (decide_eq_false (by omega)) (Tot.pure ⟨⟨by show l.length<=100;omega,h2.2⟩,λ he i=>?_⟩)
   by_cases hi:0<=i/\i<(b.length:Int)
   ·have:=h3 he i.toNat (by omega)
    rwa [show ((i.toNat:Nat):Int)=i by omega] at this
   ·rw [← Bool.not_eq_true,N9]
    exact λ h=>hi h.1
 ·have hu:=hx.b
  refine Tot.ite (λ he=>Tot.pure ?_) λ he=>?_
  ·rw [beq_iff_eq] at he
   have hn:l=[]:=List.length_eq_zero_iff.1 (by omega)
   have hw:=hl.2 hn
   refine ⟨?_,Int.le_refl 0,by show (0:Int)<=400;decide,Int.le_refl 0,by show (0:Int)<=3;decide,Nat.zero_le _,λ ⟨i,hi⟩=>?_⟩
   ·show 0<=IntKind.i64.wrap x.Block/\IntKind.i64.wrap x.Block<256
    rw [u8w hu];exact hu
   ·rw [hw i] at hi;cases hi
  ·rw [beq_eq_false_iff_ne] at he
   rw [u8w hu,u8w hx.a]
   have hlp:0<l.length:=by omega
   unfold U8 at hu
   obtain ⟨r1,r2,r3⟩:=BP (a:=x.Block) (m:=((l.length:Nat):Int)) (by omega) (by omega)
   have hmem:l.getD (Am x.Block ((l.length:Nat):Int)).toNat default∈l:=by
    rw [Jm2,JmT (by omega)]
    exact JmI _
   refine Tot.bindC (IX (by omega)) (Tot.bindC (Jci r2 (by omega)) ?_)
   generalize hj:l.getD (Am x.Block ((l.length:Nat):Int)).toNat default=j at hmem ⊢
   have hw:=hl.1.2 j hmem
   have hw':=N9.1 hw
   have ht:=hb.blk j
   refine Tot.bindC (QK hw'.1.1 hw'.1.2) ?_
   generalize hq:Du b j=q at *
   have e1:Ak .i64 ((q.Text.length:Nat):Int) 1=((q.Text.length+1:Nat):Int):=An (by omega)
   rw [e1]
   have ha':=hx.a
   unfold U8 at ha'
   obtain ⟨s1,s2,s3⟩:=BP (a:=x.At) (m:=((q.Text.length+1:Nat):Int)) (by omega) (by omega)
   generalize Am x.At ((q.Text.length+1:Nat):Int)=A at s1 s2 s3 ⊢
   have e2:Ak .i64 (AW .i64 ((q.Text.length:Nat):Int) A) 1=((q.Text.length:Int)-A+1):=by
    rw [Cr (by omega) (by omega),D4 (by omega) (by omega)]
   rw [e2]
   have hc:=hx.c
   unfold U8 at hc
   obtain ⟨t1,t2,t3⟩:=BP (a:=x.Cut) (m:=4) (by omega) (by omega)
   rw [w64 (a:=Am x.Cut 4) (by omega) (by omega)]
   obtain ⟨v1,v2,v3⟩:=BP (a:=Am x.Cut 4) (m:=((q.Text.length:Int)-A+1)) (by omega) (by omega)
   have v4:Am (Am x.Cut 4) ((q.Text.length:Int)-A+1)<=Am x.Cut 4:=by
    rcases Int.lt_or_le (Am x.Cut 4) ((q.Text.length:Int)-A+1) with h|h
    ·rw [v1,Int.emod_eq_of_lt t2 h];exact Int.le_refl _
    ·omega
   generalize Am (Am x.Cut 4) ((q.Text.length:Int)-A+1)=C at v1 v2 v3 v4 ⊢
   have hfin:∀ P:List UInt8,P.length<=4->MdC b { Block:=j,At:=A,Cut:=C,Put:=P }:=λ P hP=>by
    refine ⟨?_,s2,?_,v2,?_,hP,λ _=>⟨hw,?_⟩⟩
    ·show 0<=j/\j<256;omega
    ·show A<=400;omega
    ·show C<=3;omega
    ·show A+C<=_
     simp only [hq];omega
   refine Tot.bindC (IX (by omega)) (Tot.bindC (IX (by omega)) (Tot.ite (λ _=>?_) λ _=>Tot.pure (hfin _ (Nat.zero_le _))))
   exact Tot.bind (Sy (k:=4) hx.l hx.p (by omega) (by omega) ha ha2) λ P hP=>Tot.pure (hfin P hP)
theorem Z6 {b:List Ai} (hb:BkT b) {l:List AS} (hl:∀ x∈l,RwC x) {k:Nat} (hk:k<=100):Tot (λ n=>Kw n b l (k:Int)) (λ w=>w.length<=k/\∀ y∈w,MdC b y.C):=by
 refine Tot.bind (R:=λ w=>w.length<=k/\∀ y∈w,MdC b y.C) ?_ λ w hw=>Tot.pure hw
 refine Tot.upto (min l.length k) (λ i (y:List AH×Int)=>y.2=(i:Int)/\y.1.length=i/\∀ z∈y.1,MdC b z.C) ?_ ?_ _ ⟨rfl,rfl,by simp⟩
 ·rintro i ⟨w,y⟩ hi ⟨h1,h2,h3⟩
  simp only at h1 h2 h3
  subst h1
  unfold ED
  have hlt:i<l.length:=by omega
  refine Tot.iteT (by rw [JmU,decide_eq_true_eq,decide_eq_true_eq];omega) (Tot.bindC (AA hlt) (Tot.bindC (AA hlt) (Tot.bind (Jcr hb (hl _ (JmI hlt)) (by decide) (by decide)) λ c hc=>Tot.bindC (A9 (by simp;omega)) (Tot.pure ⟨An (by omega),by simp;exact h2,λ z hz=>?_⟩))))
  rw [List.mem_append,List.mem_singleton] at hz
  rcases hz with hz|rfl
  ·exact h3 z hz
  ·exact hc
 ·rintro ⟨w,y⟩ ⟨h1,h2,h3⟩
  simp only at h1 h2 h3
  subst h1
  unfold ED
  exact Tot.iteF (by rw [Bool.and_eq_false_iff,decide_eq_false_iff_not,decide_eq_false_iff_not];omega) (Tot.pure ⟨by show w.length<=k;omega,h3⟩)
end Go.AI
end
section
namespace Go.AI
variable {α ε σ ρ ζ β:Type}
theorem Le.dem {S:α->Prop} {k k':α->Option ζ} (h:∀ a,Le (k a) (k' a)):Le (dem S k) (dem S k'):=by
 intro z hz
 have h1:=Jby hz
 have h0:∃ a,S a:=by
  unfold Go.AI.dem at hz
  split at hz
  ·rename_i hx;exact hx.choose_spec.1
  ·cases hz
 exact Jbz h0 λ a ha=>h a _ (h1 a ha)
theorem Le.sortC {c c':β->β->Option Int} (h:∀ x y,Le (c x y) (c' x y)) {xs:List β}:Le (sortC c xs) (sortC c' xs):=by
 intro z hz
 obtain ⟨hc,hz⟩:=RM hz
 have e:c'=c:=by
  funext x y
  have:=hc.tot x y
  rw [Option.isSome_iff_exists] at this
  obtain ⟨n,hn⟩:=this
  rw [hn,h x y _ hn]
 rw [e]
 unfold Go.AI.sortC
 rw [if_pos hc];exact hz
end Go.AI
end
