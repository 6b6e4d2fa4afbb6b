/- Part 5 of 6 of the proof: lemmas about the model and the program's functions, with no condition beyond those that each states. -/
import Derived.Test.YtbegmnhifelfoaaGreatLD
import Derived.ChangeArms
import Derived.WalkKit
import Derived.ProofKit
import Derived.OpenShut
import Derived.Carry
import Derived.WideKeyArgs
import Derived.ChangeSame
import Derived.KernelRfl
section
namespace Go.AI
open Go.Proofs
set_option maxRecDepth 10000
variable {n:Nat}
section
variable (p0_:(List Al)) (p1_:Int) (i_9:Int) (open_1:Int) (i_10:Int)
def Jho:St:=⟨(0,.d (.sl (p0_.map AC)))::(1,.d (.int .i64 p1_))::[],[]⟩
def Jhp:St:=⟨(0,.d (.sl (p0_.map AC)))::(1,.d (.int .i64 i_9))::(5,.d (.int .i64 open_1))::[],[]⟩
def Jhq:St:=⟨(1,.d (.int .i64 i_10))::[],[]⟩
def TV:(Int⊕Int)->Ex->St->Prop:=xS (xX 0 0 (λ (y:Int)=>Jhq y)) (xR ty Tryz.f99 (λ (y:Int)=>.d (.int .i64 y)))
def Ni:(Int×Int)->St:=(λ (x:(Int×Int))=>Jhp p0_ x.1 x.2)
variable {p0_ p1_ i_9 open_1 i_10}
theorem LR (x:(Int×Int)) (z:((Int×Int)⊕(Int⊕Int))) (H:GK n p0_ x.1 x.2=some z):WP (cxk 35 0) (Aw Tryz.f99) [1,1,0,0,0] (Av 0 (Ni p0_) (TV) z) (Ni p0_ x):=by
 obtain ⟨i_9,open_1⟩:=x
 refine sq (sr (ck 2 (en (cn H (λ H=>?_) (λ H=>?_)))))
 ·refine sk (qz (bk 1 (sq (sr (ck 5 (sE (g:=(!(decide (i_9<0)))) (λ hg=>Ay AC p0_) (gc 1 (!(decide (i_9<0))) (pO (ck 3 (bx H λ x41 h156 H=>sE (λ hg=>Am AC (Bd h156 hg)) (gc 1 (!((decide (i_9<0))||(decide (i_9>=((p0_.length:Nat):Int))))) (bx H λ r67 h157 H=>cG false (leZ) rfl (λ hg=>Ji (Bd h157 hg)) (Or.inl rfl) (Cc (λ hh=>hh) (Dd)) rfl (gc 1 (!((decide (i_9<0))||(decide (i_9>=((p0_.length:Nat):Int))))) (pO (en (cn H (λ H=>?_) (λ H=>?_)))))))))))))))))
  ·exact sr (ck 1 (en (re (qr (qR (by cases H;exact ro rfl rd))))))
  ·exact sk (qz (sr (ck 3 (bx H λ x42 h158 H=>sp (Am AC h158) (ck 1 (bx H λ r68 h159 H=>ca false (Ji h159) (ck 3 (en (rz (ck 3 (ae (qN (by cases H;exact og (sg [0,1,5]))))))))))))))
 ·exact ex 0 (qx (by cases H;exact xo rfl (sg [1])))
theorem Rm {z} (H:K6 n p0_ p1_=some z):Ar Tryz.prog 99 [.d (.sl (p0_.map AC)),.d (.int .i64 p1_)] (.d (.int .i64 z)):=by
 refine fO 35 (Jho p0_ p1_) Tryz.func99 (sr (ck 1 (en (sr (ck 1 (en (sq (bk 0 (bx H λ y49 h160 H=>?_)))))))))
 rcases y49 with y50|y51
 ·exact lX LR h160 (sg [0,1,5]) rfl λ s hE35=>qH (qs (hE35) (sr (ck 2 (en (re (by cases H;exact pr rd))))))
 ·exact lR LR h160 (sg [0,1,5]) rfl λ s hE36=>qR (qr (by cases H;exact pr hE36))
end
section
variable (p0_:(List Al)) (p1_:Int) (out_5:(List Int)) (at_1:Int) (k_7:Int) (out_6:(List Int))
def Jdk:St:=⟨(0,.d (.sl (p0_.map AC)))::(1,.d (.int .i64 p1_))::[],[]⟩
def Jdl:St:=⟨(0,.d (.sl (p0_.map AC)))::(1,.d (.int .i64 p1_))::(5,.osl 0 1 0 (out_5.length))::(6,.d (.int .i64 at_1))::(7,.d (.int .i64 k_7))::[],[some (.arr 1 (out_5.map A9))]⟩
def Jdm:St:=⟨(5,.osl 0 1 0 (out_6.length))::[],[some (.arr 1 (out_6.map A9))]⟩
def Nj:(List Int)->Ex->St->Prop:=xX 0 0 (λ (y:(List Int))=>Jdm y)
def HC:((List Int)×Int×Int)->St:=(λ (x:((List Int)×Int×Int))=>Jdl p0_ p1_ x.1 x.2.1 x.2.2)
variable {p0_ p1_ out_5 at_1 k_7 out_6}
theorem Mr (x:((List Int)×Int×Int)) (z:(((List Int)×Int×Int)⊕(List Int))) (H:Cg n p0_ p1_ x.1 x.2.1 x.2.2=some z):WP (cxk 28 0) (Aw Tryz.f112) [1,1,0,1,0,0] (Av 0 (HC p0_ p1_) (Nj) z) (HC p0_ p1_ x):=by
 obtain ⟨out_5,at_1,k_7⟩:=x
 refine sq (sr (ck 3 (bx H λ x43 h161 H=>sp (Am AC h161) (ck 1 (bx H λ r69 h162 H=>ca false (Ji h162) (ck 1 (en (cn H (λ H=>?_) (λ H=>?_)))))))))
 ·exact sk (qz (sq (bk 1 (sr (ck 3 (bx H λ l14 h163 H=>sp (Ba A9 0 1 h163) (ck 1 (en (rz (ck 2 (bx H λ r70 h164 H=>ca false (Rm h164) (ck 1 (ae (qN (qz (rz (ck 3 (ae (by cases H;exact og (sg [0,1,5,6,7]))))))))))))))))))))
 ·exact ex 0 (qx (by cases H;exact xo rfl (sg [5])))
theorem Jy {z} (H:Dh n p0_ p1_=some z):Ar Tryz.prog 112 [.d (.sl (p0_.map AC)),.d (.int .i64 p1_)] (.own 1 (z.map A9)):=by
 exact fO 28 (Jdk p0_ p1_) Tryz.func112 (sr (ck 1 (en (sr (ck 5 (en (sq (sr (ck 1 (en (bk 0 (bx H λ y52 h165 H=>lX Mr h165 (sg [0,1,5,6,7]) rfl λ s hE37=>qH (qs (hE37) (sr (ck 2 (en (re (by cases H;exact pr (rO (v:=.osl 0 1 0 (z.length)) [0] (ao vo))))))))))))))))))))
end
section
variable (p0_:Int) (x_13:Bool)
def Jdn:St:=⟨(0,.d (.int .i64 p0_))::[],[]⟩
def Jdo:St:=⟨(3,.d (.int .i64 p0_))::(6,.d (.bool x_13))::[],[]⟩
variable {p0_ x_13}
theorem ED {z} (H:Cw n p0_=some z):Ar Tryz.prog 113 [.d (.int .i64 p0_)] (.d (.int .i64 z)):=by
 refine fO 11 (Jdn p0_) Tryz.func113 (sr (ck 1 (en (sq (sr (ck 1 (en (bk 0 (sr (ck 2 (en (cn H (λ H=>?_) (λ H=>?_)))))))))))))
 ·exact sr (ck 1 (en (re (qR (qr (by cases H;exact pr rd))))))
 ·refine sj (λ (x:Bool)=>Jdo p0_ x) (λ (x:Bool)=>CY n p0_ x) z ?_ (λ hFR9_Precedence_J1=>?_)
  ·intro x_13 H
   refine cn H (λ H=>?_) (λ H=>?_)
   ·exact sr (ck 1 (en (re (qR (qr (by cases H;exact pr rd))))))
   ·refine sr (ck 2 (en (cn H (λ H=>?_) (λ H=>?_))))
    ·exact sr (ck 1 (en (re (qR (qr (by cases H;exact pr rd))))))
    ·exact sk (qN (qz (sr (ck 1 (en (re (by cases H;exact pr rd)))))))
  refine sr (ck 2 (en (cn H (λ H=>?_) (λ H=>?_))))
  ·exact sk (qs (sg [3,6]) (hFR9_Precedence_J1 (p0_==2) H))
  ·exact rz (ck 2 (ae (qs (sg [3,6]) (hFR9_Precedence_J1 (p0_==3) H))))
end
section
variable (p0_:(List Al)) (p1_:Int) (r71:(List Int)) (x44:Al) (x_14:Bool) (k_8:Int)
def Jdp:St:=⟨(0,.d (.sl (p0_.map AC)))::(1,.d (.int .i64 p1_))::[],[]⟩
def Jdq:St:=⟨[],[]⟩
def Jdr:St:=⟨(0,.d (.sl (p0_.map AC)))::(1,.d (.int .i64 p1_))::(5,.d (.sl (r71.map A9)))::(15,.d (.int .i64 x44.Op))::(16,.d (.bool x_14))::[],[]⟩
def Jds:St:=⟨(0,.d (.sl (p0_.map AC)))::(5,.d (.sl (r71.map A9)))::(7,.d (.int .i64 k_8))::[],[]⟩
def Jdt:St:=⟨[],[]⟩
def Rn:(Unit⊕Bool)->Ex->St->Prop:=xS (xX 0 1 (λ (y:Unit)=>Jdt)) (xR ty Tryz.f100 (λ (y:Bool)=>.d (.bool y)))
def Kq:Int->St:=(λ (x:Int)=>Jds p0_ r71 x)
variable {p0_ p1_ r71 x44 x_14 k_8}
theorem Jz (x:Int) (z:(Int⊕(Unit⊕Bool))) (H:Gh n p0_ r71 x=some z):WP (cxk 66 0) (Aw Tryz.f100) [1,1,0,1,0,1,1,1,0,1,0,0] (Av 0 (Kq p0_ r71) (Rn) z) (Kq p0_ r71 x):=by
 revert H
 generalize x=k_8
 intro H
 refine sq (sr (ck 2 (sp (Ay A9 r71) (ck 1 (en (cn H (λ H=>?_) (λ H=>?_)))))))
 ·refine sk (qz (sq (bk 2 (sr (ck 3 (bx H λ x50 h176 H=>sp (Am A9 h176) (ck 1 (bx H λ x51 h177 H=>sp (Am AC h177) (ck 3 (en (cn H (λ H=>?_) (λ H=>?_))))))))))))
  ·exact sr (ck 1 (en (re (qR (qr (by cases H;exact ro rfl rd))))))
  ·exact sk (qN (qz (rz (ck 3 (ae (by cases H;exact og (sg [0,5,7])))))))
 ·exact ex 1 (qx (by cases H;exact xo rfl (sg [])))
theorem TW {z} (H:N3 n p0_ p1_=some z):Ar Tryz.prog 100 [.d (.sl (p0_.map AC)),.d (.int .i64 p1_)] (.d (.bool z)):=by
 refine fO 66 (Jdp p0_ p1_) Tryz.func100 (sr (ck 1 (en (sr (ck 2 (bx H λ r71 h166 H=>ca false (Jy h166) (ck 1 (en (sj (λ (x:Unit)=>Jdq) (λ (x:Unit)=>Gg n) z ?_ (λ hFR9_sound_J1=>?_))))))))))
 ·intro _ H
  exact sr (ck 1 (en (re (by cases H;exact pr rd))))
 refine sr (ck 2 (bx H λ x44 h167 H=>sp (Am AC h167) (ck 2 (en (bk 0 (sj (λ (x:Bool)=>Jdr p0_ p1_ r71 x44 x) (λ (x:Bool)=>CI n p0_ p1_ r71 x44 x) z ?_ (λ hFR9_sound_J2=>?_)))))))
 ·intro x_14 H
  refine cn H (λ H=>?_) (λ H=>?_)
  ·exact sr (ck 2 (bx H λ x45 h168 H=>sp (Am AC h168) (ck 2 (bx H λ r72 h169 H=>ca false (ED h169) (ck 1 (en (sr (ck 2 (bx H λ x46 h170 H=>sp (Am A9 h170) (ck 1 (bx H λ x47 h171 H=>sp (Am AC h171) (ck 2 (bx H λ r73 h172 H=>ca false (ED h172) (ck 5 (bx H λ x48 h173 H=>sE (λ hg=>Am A9 (Bd h173 hg)) (gc 1 (decide (r73>=r72)) (bx H λ x49 h174 H=>sE (λ hg=>Am AC (Bd h174 hg)) (gc 2 (decide (r73>=r72)) (bx H λ r74 h175 H=>cG false (leZ) rfl (λ hg=>ED (Bd h175 hg)) (Or.inl rfl) (Cc (λ hh=>hh) (Dd)) rfl (ck 1 (gc 1 (decide (r73>=r72)) (pA (ck 1 (en (re (qR (qr (by cases H;exact pr rd))))))))))))))))))))))))))))
  ·refine sr (ck 2 (en (cn H (λ H=>?_) (λ H=>?_))))
   ·refine sr (ck 1 (en (bk 1 (bx H λ y53 h178 H=>?_))))
    rcases y53 with y54|y55
    ·exact lX Jz h178 (sg [0,5,7]) rfl λ s hE38=>qH (qN (qs (tr (hE38) (sg [])) (hFR9_sound_J1 () H)))
    ·exact lR Jz h178 (sg [0,5,7]) rfl λ s hE39=>qR (qR (qr (by cases H;exact pr hE39)))
   ·exact sk (qN (qs (sg []) (hFR9_sound_J1 () H)))
 refine sr (ck 2 (en (cn H (λ H=>?_) (λ H=>?_))))
 ·exact sk (qs (sg [0,1,5,15,16]) (hFR9_sound_J2 (x44.Op==2) H))
 ·refine sr (ck 2 (en (cn H (λ H=>?_) (λ H=>?_))))
  ·exact sk (qs (sg [0,1,5,15,16]) (hFR9_sound_J2 (x44.Op==3) H))
  ·refine sr (ck 2 (en (cn H (λ H=>?_) (λ H=>?_))))
   ·exact sk (qs (sg [0,1,5,15,16]) (hFR9_sound_J2 (x44.Op==4) H))
   ·exact rz (ck 2 (ae (qs (sg [0,1,5,15,16]) (hFR9_sound_J2 (x44.Op==5) H))))
end
section
variable (p0_:(List Al)) (i_11:Int)
def Jhr:St:=⟨(0,.d (.sl (p0_.map AC)))::[],[]⟩
def Jhs:St:=⟨(0,.d (.sl (p0_.map AC)))::(3,.d (.int .i64 i_11))::[],[]⟩
def Jht:St:=⟨[],[]⟩
def Sh:(Unit⊕Bool)->Ex->St->Prop:=xS (xX 0 0 (λ (y:Unit)=>Jht)) (xR ty Tryz.f85 (λ (y:Bool)=>.d (.bool y)))
def LS:Int->St:=(λ (x:Int)=>Jhs p0_ x)
variable {p0_ i_11}
theorem Kr (x:Int) (z:(Int⊕(Unit⊕Bool))) (H:Hr n p0_ x=some z):WP (cxk 29 0) (Aw Tryz.f85) [1,1,0,1,0,0] (Av 0 (LS p0_) (Sh) z) (LS p0_ x):=by
 revert H
 generalize x=i_11
 intro H
 refine sq (sr (ck 2 (sp (Ay AC p0_) (ck 1 (en (cn H (λ H=>?_) (λ H=>?_)))))))
 ·refine sk (qz (sq (bk 1 (sr (ck 2 (bx H λ r76 h180 H=>ca false (TW h180) (ck 1 (en (cn H (λ H=>?_) (λ H=>?_))))))))))
  ·exact sr (ck 1 (en (re (qR (qr (by cases H;exact ro rfl rd))))))
  ·exact sk (qN (qz (rz (ck 3 (ae (by cases H;exact og (sg [0,3])))))))
 ·exact ex 0 (qx (by cases H;exact xo rfl (sg [])))
theorem VD {z} (H:Nc n p0_=some z):Ar Tryz.prog 85 [.d (.sl (p0_.map AC))] (.d (.bool z)):=by
 refine fO 29 (Jhr p0_) Tryz.func85 (sr (ck 1 (en (sq (sr (ck 1 (sp (Ay AC p0_) (ck 3 (sE (g:=(!(((p0_.length:Nat):Int)==0))) (λ hg=>Ay AC p0_) (gc 1 (!(((p0_.length:Nat):Int)==0)) (pO (ck 2 (bx H λ r75 h179 H=>cG false (leZ) rfl (λ hg=>Rm (Bd h179 hg)) (Or.inl rfl) (Cc (λ hh=>hh) (Dd)) rfl (ck 1 (sE (g:=(!((((p0_.length:Nat):Int)==0)||(decide (((p0_.length:Nat):Int)>200))))) (λ hg=>Ay AC p0_) (gc 1 (!((((p0_.length:Nat):Int)==0)||(decide (((p0_.length:Nat):Int)>200)))) (pO (en (cn H (λ H=>?_) (λ H=>?_))))))))))))))))))))
 ·exact sr (ck 1 (en (re (qr (by cases H;exact pr rd)))))
 ·refine sk (qz (sq (sr (ck 1 (en (bk 0 (bx H λ y56 h181 H=>?_)))))))
  rcases y56 with y57|y58
  ·exact lX Kr h181 (sg [0,3]) rfl λ s hE40=>qH (qs (hE40) (sr (ck 1 (en (re (by cases H;exact pr rd))))))
  ·exact lR Kr h181 (sg [0,3]) rfl λ s hE41=>qR (qr (by cases H;exact pr hE41))
end
section
variable (p0_:(List Al)) (p1_:Int) (r78:(List Int)) (out_7:Int) (k_9:Int) (out_8:Int) (rec101_:((List Al)->Int->Option Int))
def Jdu:St:=⟨(0,.d (.sl (p0_.map AC)))::(1,.d (.int .i64 p1_))::[],[]⟩
def Jdv:St:=⟨(0,.d (.sl (p0_.map AC)))::(5,.d (.int .i64 out_7))::(6,.d (.sl (r78.map A9)))::(7,.d (.int .i64 k_9))::[],[]⟩
def Jdw:St:=⟨(5,.d (.int .i64 out_8))::[],[]⟩
def Ro:Int->Ex->St->Prop:=xX 0 0 (λ (y:Int)=>Jdw y)
def Ks:(Int×Int)->St:=(λ (x:(Int×Int))=>Jdv p0_ r78 x.1 x.2)
variable {p0_ p1_ r78 out_7 k_9 out_8 rec101_}
theorem Pw (hrec101_:∀ {p0_:(List Al)} {p1_:Int} {z:Int},rec101_ p0_ p1_=some z->Ar Tryz.prog 101 [.d (.sl (p0_.map AC)),.d (.int .i64 p1_)] (.d (.int .i64 z))) (x:(Int×Int)) (z:((Int×Int)⊕Int)) (H:CJ n rec101_ p0_ r78 x.1 x.2=some z):WP (cxk 27 0) (Aw Tryz.f101) [1,1,0,1,0,0] (Av 0 (Ks p0_ r78) (Ro) z) (Ks p0_ r78 x):=by
 obtain ⟨out_7,k_9⟩:=x
 refine sq (sr (ck 2 (sp (Ay A9 r78) (ck 1 (en (cn H (λ H=>?_) (λ H=>?_)))))))
 ·exact sk (qz (sq (bk 1 (rz (ck 4 (bx H λ x52 h184 H=>sp (Am A9 h184) (ck 1 (bx H λ r79 h185 H=>ca false (hrec101_ h185) (ck 2 (ae (qN (qz (rz (ck 3 (ae (by cases H;exact og (sg [0,5,6,7])))))))))))))))))
 ·exact ex 0 (qx (by cases H;exact xo rfl (sg [5])))
theorem Rp {z} (hrec101_:∀ {p0_:(List Al)} {p1_:Int} {z:Int},rec101_ p0_ p1_=some z->Ar Tryz.prog 101 [.d (.sl (p0_.map AC)),.d (.int .i64 p1_)] (.d (.int .i64 z))) (H:BE n rec101_ p0_ p1_=some z):Ar Tryz.prog 101 [.d (.sl (p0_.map AC)),.d (.int .i64 p1_)] (.d (.int .i64 z)):=by
 exact fO 27 (Jdu p0_ p1_) Tryz.func101 (sr (ck 1 (en (sr (ck 2 (bx H λ r78 h183 H=>ca false (Jy h183) (ck 2 (en (sq (sr (ck 1 (en (bk 0 (bx H λ y59 h186 H=>lX (Pw hrec101_) h186 (sg [0,5,6,7]) rfl λ s hE42=>qH (qs (hE42) (sr (ck 3 (en (re (by cases H;exact pr rd))))))))))))))))))))
end
section
variable (p0_:(List Al)) (p1_:Int)
variable {p0_ p1_}
theorem TX {z} (H:N4 n p0_ p1_=some z):Ar Tryz.prog 101 [.d (.sl (p0_.map AC)),.d (.int .i64 p1_)] (.d (.int .i64 z)):=by
  have key:∀ (d:Nat) {p0_:(List Al)} {p1_:Int} {z:Int},JP (λ _ _=>none) (BE n) d p0_ p1_=some z->Ar Tryz.prog 101 [.d (.sl (p0_.map AC)),.d (.int .i64 p1_)] (.d (.int .i64 z)):=by
    intro d
    induction d with
    | zero=>intro _ _ _ H;cases H
    | succ d ih=>intro _ _ _ H;exact Rp (λ h=>ih h) H
  exact key n H
end
section
variable (p0_:(List Al))
def Jhu:St:=⟨(0,.d (.sl (p0_.map AC)))::[],[]⟩
variable {p0_}
theorem TY {z} (H:S0 n p0_=some z):Ar Tryz.prog 86 [.d (.sl (p0_.map AC))] (.d (.int .i64 z)):=by
 exact fO 5 (Jhu p0_) Tryz.func86 (sr (ck 1 (en (sr (ck 1 (bx H λ r80 h187 H=>ca true (TX h187) (ck 1 (en (re (by cases H;exact pr rd))))))))))
end
section
variable (p0_:(List Al))
def Jhv:St:=⟨(0,.d (.sl (p0_.map AC)))::[],[]⟩
variable {p0_}
theorem Nk {z} (H:E3 n p0_=some z):Ar Tryz.prog 66 [.d (.sl (p0_.map AC))] (.d (.bool z)):=by
 exact fO 15 (Jhv p0_) Tryz.func66 (sr (ck 1 (en (sr (ck 1 (sp (Ay AC p0_) (ck 3 (bx H λ r81 h188 H=>cG false (leZ) rfl (λ hg=>VD (Bd h188 hg)) (Or.inl rfl) (Cc (λ hh=>hh) (Dd)) rfl (pA (ck 2 (bx H λ r82 h189 H=>cG false (leZ) rfl (λ hg=>TY (Bd h189 hg)) (Or.inl rfl) (Cc (λ hh=>hh) (Dd)) rfl (gc 1 ((decide (((p0_.length:Nat):Int)<=60))&&r81) (pA (ck 1 (en (re (by cases H;exact pr rd)))))))))))))))))
end
section
variable (p0_:Q4) (out_9:(List Al)) (n_1:Int) (out_10:(List Al)) (i_12:Int) (out_11:(List Al)) (out_12:(List Al)) (k_10:(Cv Int))
def Jhw:St:=⟨(0,.agg [.d (.int .u8 p0_.Kind),.d (.int .u8 p0_.N),.d (.sl (p0_.L.map (Bh eU8)))])::[],[]⟩
def Jhx:St:=⟨(1,.ptr 0 0)::(3,.osl 1 2 0 (out_9.length))::(4,.d (.int .i64 n_1))::[],[some (.box (Zd p0_)),some (.arr 2 (out_9.map AC))]⟩
def Jhy:St:=⟨(1,.ptr 0 0)::(3,.osl 1 2 0 (out_10.length))::(4,.d (.int .i64 n_1))::(7,.d (.int .i64 i_12))::[],[some (.box (Zd p0_)),some (.arr 2 (out_10.map AC))]⟩
def Jhz:St:=⟨(1,.ptr 0 0)::(3,.osl 1 2 0 (out_11.length))::[],[some (.box (Zd p0_)),some (.arr 2 (out_11.map AC))]⟩
def JhA:St:=⟨(1,.ptr 0 0)::(3,.osl 1 2 0 (out_12.length))::(4,.d (.int .i64 n_1))::(7,.d (.int .i64 i_12))::[],[some (.box (Zd p0_)),some (.arr 2 (out_12.map AC))]⟩
def JhB:St:=⟨(1,.ptr 0 0)::(3,.osl 1 2 0 (out_10.length))::(4,.d (.int .i64 n_1))::(7,.d (.int .i64 i_12))::(8,.ptr 2 0)::[],[some (.box (Zd p0_)),some (.arr 2 (out_10.map AC)),some (.box [.d (.int .u8 k_10.a0),.d (.int .u8 k_10.a1)])]⟩
def Rq:(List Al)->Ex->St->Prop:=xX 0 1 (λ (y:(List Al))=>Jhz p0_ y)
def Kt:((List Al)×Int)->St:=(λ (x:((List Al)×Int))=>Jhy p0_ n_1 x.1 x.2)
variable {p0_ out_9 n_1 out_10 i_12 out_11 out_12 k_10}
theorem Px (x:((List Al)×Int)) (z:(((List Al)×Int)⊕(List Al))) (H:Gi n p0_ n_1 x.1 x.2=some z):WP (cxk 102 0) (Aw Tryz.f61) [1,1,1,0,1,0,0] (Av 0 (Kt p0_ n_1) (Rq p0_) z) (Kt p0_ n_1 x):=by
 obtain ⟨out_10,i_12⟩:=x
 refine sq (sr (ck 3 (en (cn H (λ H=>?_) (λ H=>?_)))))
 ·refine sk (qz (sj (λ (x:(List Al))=>JhA p0_ n_1 i_12 x) (λ (x:(List Al))=>I4 n i_12 x) z ?_ (λ hFR11_Made_J2=>?_)))
  ·intro out_12 H
   exact rz (ck 3 (ae (by cases H;exact og (sg [1,3,4,7]))))
  refine bk 2 (sr (ck 3 (en (sj (λ (x:(Cv Int))=>JhB p0_ n_1 out_10 i_12 x) (λ (x:(Cv Int))=>Ef n p0_ out_10 i_12 x) z ?_ (λ hFR11_Made_J3=>?_)))))
  ·intro k_10 H
   refine sr (ck 4 (en (cn H (λ H=>?_) (λ H=>?_))))
   ·exact rz (ck 10 (bx H λ l15 h190 H=>sp (Ba AC 1 2 h190) (ck 1 (ae (qN (qs (sg [1,3,4,7]) (hFR11_Made_J2 l15 H)))))))
   ·exact rz (ck 5 (bx H λ r83 h191 H=>ca false (HZ h191) (bx H λ l16 h192 H=>sp (TH AC 1 2 h192) (ck 1 (ae (qN (qs (sg [1,3,4,7]) (hFR11_Made_J2 l16 H))))))))
  refine sr (ck 3 (sp (Ay (Bh eU8) p0_.L) (ck 1 (en (cn H (λ H=>?_) (λ H=>?_))))))
  ·exact rz (ck 3 (bx H λ x53 h193 H=>sp (Am (Bh eU8) h193) (ck 2 (ae (qs (sg [1,3,4,7,8]) (hFR11_Made_J3 x53 H))))))
  ·exact sk (qs (sg [1,3,4,7,8]) (hFR11_Made_J3 ({ a0:=0,a1:=0 }:(Cv Int)) H))
 ·exact ex 1 (qx (by cases H;exact xo rfl (sg [1,3])))
theorem TZ {z} (H:K7 n p0_=some z):Ar Tryz.prog 61 [.agg (Zd p0_)] (.own 2 (z.map AC)):=by
 refine fO 102 (Jhw p0_) Tryz.func61 (sr (ck 2 (en (sr (ck 4 (en (sj (λ (x:((List Al)×Int))=>Jhx p0_ x.1 x.2) (λ (x:((List Al)×Int))=>Di n p0_ x.1 x.2) z ?_ (λ hFR11_Made_J1=>?_))))))))
 ·rintro ⟨out_9,n_1⟩ H
  refine sq (sr (ck 1 (en (bk 1 (bx H λ y60 h194 H=>lX Px h194 (sg [1,3,4,7]) rfl λ s hE43=>qH (qs (hE43) (sr (ck 1 (bx H λ r84 h195 H=>cb (ks:=[1]) (obl:=[(0+List.length y60,List.length (y60.map AC))]) false (leK leM (leZ)) (CO GB rfl) (Nk h195) (Or.inr trivial) rfl (ck 1 (en (sq (sr (ck 2 (en (cn H (λ H=>?_) (λ H=>?_)))))))))))))))))
  ·exact sr (ck 2 (bx H λ r85 h196 H=>cl [List.length r85] (HZ h196) (ck 1 (en (re (qr (by cases H;exact pr (rO (v:=.osl 2 2 0 (z.length)) [2] (ao vo)))))))))
  ·exact sk (qz (sr (ck 2 (en (re (by cases H;exact pr (rO (v:=.osl 1 2 0 (z.length)) [1] (ao vo))))))))
 refine sr (ck 3 (en (bk 0 (sr (ck 2 (en (cn H (λ H=>?_) (λ H=>?_))))))))
 ·exact sr (ck 6 (en (rz (ck 5 (ae (qN (qs (sg [1,3,4]) (hFR11_Made_J1 ([({ Op:=12,N:=AT .i64 (Aj .i64 3 (IntKind.i64.wrap (Ak p0_.N 4))) 1 }:Al)],(Aj .i64 3 (IntKind.i64.wrap (Ak p0_.N 4)))) H))))))))
 ·refine sr (ck 2 (en (cn H (λ H=>?_) (λ H=>?_))))
  ·exact sr (ck 13 (en (sr (ck 4 (en (rz (ck 7 (ae (qN (qs (sg [1,3,4]) (hFR11_Made_J1 ([({ Op:=13,N:=Aj .i64 (BU .i64 8 (Aj .i64 1 (IntKind.i64.wrap (Ak p0_.N 4)))) (Aj .i64 1 (IntKind.i64.wrap (Ak (Du .u8 p0_.N 4) 4))) }:Al)],(BU .i64 (Aj .i64 1 (IntKind.i64.wrap (Ak p0_.N 4))) (Aj .i64 1 (IntKind.i64.wrap (Ak (Du .u8 p0_.N 4) 4))))) H)))))))))))
  ·refine sr (ck 2 (en (cn H (λ H=>?_) (λ H=>?_))))
   ·exact sr (ck 5 (bx H λ r86 h197 H=>cl [List.length r86] (HZ h197) (ck 1 (en (re (qR (qr (by cases H;exact pr (rO (v:=.osl 2 2 0 (z.length)) [2] (ao vo))))))))))
   ·exact sk (qN (qs (sg [1,3,4]) (hFR11_Made_J1 ([({ Op:=6,N:=0 }:Al)],2) H)))
end
section
variable (p0_:(Vy Int)) (p1_:Int) (p2_:Int) (out_13:(List Aa)) (out_14:(List Aa))
def JhC:St:=⟨(0,.agg [.d (.int .u8 p0_.a0),.d (.int .u8 p0_.a1),.d (.int .u8 p0_.a2),.d (.int .u8 p0_.a3),.d (.int .u8 p0_.a4),.d (.int .u8 p0_.a5)])::(1,.d (.int .i64 p1_))::(2,.d (.int .i64 p2_))::[],[]⟩
def JhD:St:=⟨(6,.ptr 0 0)::(15,.d (.int .i64 (Aj .i64 1 (IntKind.i64.wrap (Ak p0_.a0 3)))))::(17,.osl 1 2 0 (out_13.length))::[],[some (.box [.d (.int .i64 0),.d (.int .i64 0),.osl 2 2 0 (List.length ([]:List Aa))]),some (.arr 2 (out_13.map Ac)),some (.arr 2 (List.map Ac ([]:List Aa)))]⟩
def JhE:St:=⟨(6,.ptr 0 0)::(15,.d (.int .i64 (Aj .i64 1 (IntKind.i64.wrap (Ak p0_.a0 3)))))::(16,.d (.int .i64 (IntKind.i64.wrap (Ak (Du .u8 p0_.a0 3) 4))))::(18,.osl 1 2 0 (out_14.length))::[],[some (.box [.d (.int .i64 0),.d (.int .i64 0),.osl 2 2 0 (List.length ([]:List Aa))]),some (.arr 2 (out_14.map Ac)),some (.arr 2 (List.map Ac ([]:List Aa)))]⟩
variable {p0_ p1_ p2_ out_13 out_14}
theorem Py {z} (H:Gj n p0_ p1_ p2_=some z):Ar Tryz.prog 82 [.agg [.d (.int .u8 p0_.a0),.d (.int .u8 p0_.a1),.d (.int .u8 p0_.a2),.d (.int .u8 p0_.a3),.d (.int .u8 p0_.a4),.d (.int .u8 p0_.a5)],.d (.int .i64 p1_),.d (.int .i64 p2_)] (.agg [.d (.int .i64 z.Kind),.d (.int .i64 z.Texture),.own 2 (z.P.map Ac)]):=by
 refine fO 111 (JhC p0_ p1_ p2_) Tryz.func82 (sr (ck 2 (en (sr (ck 4 (bx H λ gd2 h198 H=>so (Eb h198) (ck 4 (bx H λ gd3 h199 H=>so (Eb h199) (ck 14 (en (sr (ck 14 (en (sr (ck 10 (en (sr (ck 12 (en (sq (sr (ck 2 (en (cn H (λ H=>?_) (λ H=>?_)))))))))))))))))))))))))
 ·exact sr (ck 5 (en (re (qr (by cases H;exact pr (rO (v:=.agg [.d (.int .i64 (Aj .i64 1 (IntKind.i64.wrap (Ak p0_.a0 3)))),.d (.int .i64 0),.osl 4 2 0 (List.length [({ X:=Ak (IntKind.i64.wrap p0_.a1) p1_,Y:=Ak (IntKind.i64.wrap p0_.a2) p2_ }:Aa)])]) [4] (a1 (c1 vd (c1 vd (c1 vo (c0)))))))))))
 ·refine sk (qz (sq (sr (ck 2 (en (cn H (λ H=>?_) (λ H=>?_)))))))
  ·refine sr (ck 4 (en (sj (λ (x:(List Aa))=>JhD p0_ x) (λ (x:(List Aa))=>DB n p0_ x) z ?_ (λ hFR14_feature_J1=>?_))))
   ·intro out_13 H
    exact sr (ck 4 (en (re (qr (by cases H;exact pr (rO (v:=.agg [.d (.int .i64 (Aj .i64 1 (IntKind.i64.wrap (Ak p0_.a0 3)))),.d (.int .i64 0),.osl 1 2 0 (out_13.length)]) [1] (a1 (c1 vd (c1 vd (c1 vo (c0)))))))))))
   refine sr (ck 4 (en (cn H (λ H=>?_) (λ H=>?_))))
   ·exact rz (ck 5 (bx H λ l17 h200 H=>sp (Ba Ac 4 2 h200) (ck 1 (ae (qs (tr (By 1 2 2 (by kernel_rfl)) (sg [6,15,17])) (hFR14_feature_J1 l17 H))))))
   ·exact sk (qs (tr (By 1 2 2 (by kernel_rfl)) (sg [6,15,17])) (hFR14_feature_J1 [({ X:=Ak (IntKind.i64.wrap p0_.a1) p1_,Y:=Ak (IntKind.i64.wrap p0_.a2) p2_ }:Aa),({ X:=(if AT .i64 p1_ 1<Aj .i64 (Ak (IntKind.i64.wrap p0_.a1) p1_) (Aj .i64 1 (Ak (IntKind.i64.wrap p0_.a3) 8)) then AT .i64 p1_ 1 else Aj .i64 (Ak (IntKind.i64.wrap p0_.a1) p1_) (Aj .i64 1 (Ak (IntKind.i64.wrap p0_.a3) 8))),Y:=(if AT .i64 p2_ 1<Aj .i64 (Ak (IntKind.i64.wrap p0_.a2) p2_) (Aj .i64 1 (Ak (IntKind.i64.wrap p0_.a4) 8)) then AT .i64 p2_ 1 else Aj .i64 (Ak (IntKind.i64.wrap p0_.a2) p2_) (Aj .i64 1 (Ak (IntKind.i64.wrap p0_.a4) 8))) }:Aa)] H))
  ·refine sk (qz (sr (ck 7 (en (sj (λ (x:(List Aa))=>JhE p0_ x) (λ (x:(List Aa))=>DC n p0_ x) z ?_ (λ hFR14_feature_J2=>?_))))))
   ·intro out_14 H
    exact sr (ck 5 (en (re (by cases H;exact pr (rO (v:=.agg [.d (.int .i64 (Aj .i64 1 (IntKind.i64.wrap (Ak p0_.a0 3)))),.d (.int .i64 (IntKind.i64.wrap (Ak (Du .u8 p0_.a0 3) 4))),.osl 1 2 0 (out_14.length)]) [1] (a1 (c1 vd (c1 vd (c1 vo (c0))))))))))
   refine sr (ck 4 (en (cn H (λ H=>?_) (λ H=>?_))))
   ·exact rz (ck 5 (bx H λ l18 h201 H=>sp (Ba Ac 4 2 h201) (ck 1 (ae (qs (tr (By 1 2 2 (by kernel_rfl)) (sg [6,15,16,18])) (hFR14_feature_J2 l18 H))))))
   ·exact sk (qs (tr (By 1 2 2 (by kernel_rfl)) (sg [6,15,16,18])) (hFR14_feature_J2 [({ X:=Ak (IntKind.i64.wrap p0_.a1) p1_,Y:=Ak (IntKind.i64.wrap p0_.a2) p2_ }:Aa),({ X:=(if AT .i64 p1_ 1<Aj .i64 (Ak (IntKind.i64.wrap p0_.a1) p1_) (Aj .i64 1 (Ak (IntKind.i64.wrap p0_.a3) 8)) then AT .i64 p1_ 1 else Aj .i64 (Ak (IntKind.i64.wrap p0_.a1) p1_) (Aj .i64 1 (Ak (IntKind.i64.wrap p0_.a3) 8))),Y:=Ak (IntKind.i64.wrap p0_.a2) p2_ }:Aa),({ X:=(if AT .i64 p1_ 1<Aj .i64 (Ak (IntKind.i64.wrap p0_.a1) p1_) (Aj .i64 1 (Ak (IntKind.i64.wrap p0_.a3) 8)) then AT .i64 p1_ 1 else Aj .i64 (Ak (IntKind.i64.wrap p0_.a1) p1_) (Aj .i64 1 (Ak (IntKind.i64.wrap p0_.a3) 8))),Y:=(if AT .i64 p2_ 1<Aj .i64 (Ak (IntKind.i64.wrap p0_.a2) p2_) (Aj .i64 1 (Ak (IntKind.i64.wrap p0_.a4) 8)) then AT .i64 p2_ 1 else Aj .i64 (Ak (IntKind.i64.wrap p0_.a2) p2_) (Aj .i64 1 (Ak (IntKind.i64.wrap p0_.a4) 8))) }:Aa)] H))
end
section
variable (p0_:Bo) (p_1:Af) (i_13:Int) (p_2:Af) (p_3:Af)
def JhF:St:=⟨(0,.agg [.d (.int .u8 p0_.W),.d (.int .u8 p0_.H),.d (.int .u8 p0_.Gap),.d (.sl (p0_.F.map (Jr eU8)))])::[],[]⟩
def JhG:St:=⟨(1,.ptr 0 0)::(2,.ptr 1 0)::(3,.ptr 2 0)::(4,.d (.int .i64 i_13))::[],[some (.box (Js p0_)),some (.box [.d (.int .i64 0),.d (.int .i64 0),.d (.int .i64 0),.osl 3 3 0 (List.length ([]:List Ax))]),some (.box (Mn p_1 (.osl 4 3 0 (p_1.F.length)))),some (.arr 3 (List.map Au ([]:List Ax))),some (.arr 3 (p_1.F.map Au))]⟩
def JhH:St:=⟨(2,.ptr 0 0)::(3,.ptr 1 0)::[],[some (.box [.d (.int .i64 0),.d (.int .i64 0),.d (.int .i64 0),.osl 2 3 0 (List.length ([]:List Ax))]),some (.box (Mn p_2 (.osl 3 3 0 (p_2.F.length)))),some (.arr 3 (List.map Au ([]:List Ax))),some (.arr 3 (p_2.F.map Au))]⟩
def Rr:Af->Ex->St->Prop:=xX 0 0 (λ (y:Af)=>JhH y)
def Ku:(Af×Int)->St:=(λ (x:(Af×Int))=>JhG p0_ x.1 x.2)
def JhI:St:=⟨(2,.ptr 0 0)::(3,.ptr 1 0)::[],[some (.box [.d (.int .i64 0),.d (.int .i64 0),.d (.int .i64 0),.osl 2 3 0 (List.length ([]:List Ax))]),some (.box (Mn p_3 (.osl 3 3 0 (p_3.F.length)))),some (.arr 3 (List.map Au ([]:List Ax))),some (.arr 3 (p_3.F.map Au))]⟩
variable {p0_ p_1 i_13 p_2 p_3}
theorem Pz (x:(Af×Int)) (z:((Af×Int)⊕Af)) (H:Gk n p0_ x.1 x.2=some z):WP (cxk 59 0) (Aw Tryz.f62) [1,1,0,1,0,0] (Av 0 (Ku p0_) (Rr) z) (Ku p0_ x):=by
 obtain ⟨p_1,i_13⟩:=x
 refine sq (sr (ck 3 (sp (Ay (Jr eU8) p0_.F) (ck 3 (gc 1 (decide (i_13<((p0_.F.length:Nat):Int))) (pA (en (cn H (λ H=>?_) (λ H=>?_)))))))))
 ·exact sk (qz (sq (bk 1 (rz (ck 5 (bx H λ x54 h202 H=>sp (Am (Jr eU8) h202) (ck 5 (bx H λ r87 h203 H=>ca false (Py h203) (ck 1 (bx H λ l19 h204 H=>sp (Ba Au 4 3 h204) (ck 2 (ae (qN (qz (rz (ck 3 (ae (by cases H;exact og (sg [1,2,3,4])))))))))))))))))))
 ·exact ex 0 (qx (by cases H;exact xo rfl (sg [2,3])))
theorem T0 {z} (H:K8 n p0_=some z):Ar Tryz.prog 62 [.agg (Js p0_)] (.agg [.d (.int .i64 z.W),.d (.int .i64 z.H),.d (.int .i64 z.Gap),.own 3 (z.F.map Au)]):=by
 refine fO 59 (JhF p0_) Tryz.func62 (sr (ck 2 (en (sr (ck 20 (en (sq (sr (ck 1 (en (bk 0 (bx H λ y61 h205 H=>lX Pz h205 (tr (tr (By 1 3 3 (by kernel_rfl)) (By 2 3 3 (by kernel_rfl))) (sg [1,2,3,4])) rfl λ s hE44=>qH (qs (hE44) (sj (λ (x:Af)=>JhI x) (λ (x:Af)=>I5 n x) z ?_ (λ hFR14_Made_J1=>?_)))))))))))))))
 ·intro p_3 H
  exact sr (ck 2 (en (re (by cases H;exact pr (rO (v:=.agg [.d (.int .i64 z.W),.d (.int .i64 z.H),.d (.int .i64 z.Gap),.osl 3 3 0 (z.F.length)]) [3] (a1 (c1 vd (c1 vd (c1 vd (c1 vo (c0)))))))))))
 refine sr (ck 4 (en (cn H (λ H=>?_) (λ H=>?_))))
 ·exact rz (ck 1 (sF (ck 4 (ae (qs (sg [2,3]) (hFR14_Made_J1 ({ W:=y61.W,H:=y61.H,Gap:=y61.Gap,F:=[({ Kind:=1,Texture:=0,P:=[({ X:=1,Y:=1 }:Aa)] }:Ax)] }:Af) H))))))
 ·exact sk (qs (sg [2,3]) (hFR14_Made_J1 y61 H))
end
section
variable (p0_:Ax) (i_14:Int)
def Jdx:St:=⟨(0,.agg [.d (.int .i64 p0_.Kind),.d (.int .i64 p0_.Texture),.d (.sl (p0_.P.map Ac))])::[],[]⟩
def Jdy:St:=⟨(1,.ptr 0 0)::(3,.d (.int .i64 ((p0_.P.length:Nat):Int)))::(4,.d (.int .i64 i_14))::[],[some (.box (Dy p0_))]⟩
def Jdz:St:=⟨(1,.ptr 0 0)::(3,.d (.int .i64 ((p0_.P.length:Nat):Int)))::[],[some (.box (Dy p0_))]⟩
def PA:(Unit⊕Bool)->Ex->St->Prop:=xS (xX 0 0 (λ (y:Unit)=>Jdz p0_)) (xR ty Tryz.f103 (λ (y:Bool)=>.d (.bool y)))
def JA:Int->St:=(λ (x:Int)=>Jdy p0_ x)
variable {p0_ i_14}
theorem Io (x:Int) (z:(Int⊕(Unit⊕Bool))) (H:Fg n p0_ x=some z):WP (cxk 73 0) (Aw Tryz.f103) [1,1,0,1,0,0] (Av 0 (JA p0_) (PA p0_) z) (JA p0_ x):=by
 revert H
 generalize x=i_14
 intro H
 refine sq (sr (ck 3 (en (cn H (λ H=>?_) (λ H=>?_)))))
 ·refine sk (qz (sq (bk 1 (sr (ck 3 (bx H λ x55 h206 H=>sp (Am Ac h206) (ck 3 (en (sr (ck 5 (gc 2 (!(decide (x55.X<0))) (pO (ck 2 (gc 2 (!((decide (x55.X<0))||(decide (x55.Y<0)))) (pO (ck 2 (gc 2 (!(((decide (x55.X<0))||(decide (x55.Y<0)))||(decide (x55.X>=60)))) (pO (en (cn H (λ H=>?_) (λ H=>?_)))))))))))))))))))))
  ·exact sr (ck 1 (en (re (qR (qr (by cases H;exact ro rfl rd))))))
  ·exact sk (qN (qz (rz (ck 3 (ae (by cases H;exact og (sg [1,3,4])))))))
 ·exact ex 0 (qx (by cases H;exact xo rfl (sg [1,3])))
theorem Si {z} (H:Mi n p0_=some z):Ar Tryz.prog 103 [.agg (Dy p0_)] (.d (.bool z)):=by
 refine fO 73 (Jdx p0_) Tryz.func103 (sr (ck 2 (en (sr (ck 2 (sp (Ay Ac p0_.P) (ck 1 (en (sq (sr (ck 1 (en (bk 0 (bx H λ y62 h207 H=>?_))))))))))))))
 rcases y62 with y63|y64
 ·refine lX Io h207 (sg [1,3,4]) rfl λ s hE45=>qH (qs (hE45) (sq (sr (ck 2 (en (cn H (λ H=>?_) (λ H=>?_)))))))
  ·exact sr (ck 1 (en (re (qr (by cases H;exact pr rd)))))
  ·refine sk (qz (sq (sr (ck 2 (en (bk 2 (sr (ck 2 (en (cn H (λ H=>?_) (λ H=>?_)))))))))))
   ·exact sr (ck 4 (gc 2 (((p0_.P.length:Nat):Int)==1) (pA (ck 1 (en (re (qR (qr (by cases H;exact pr rd)))))))))
   ·refine sr (ck 2 (en (cn H (λ H=>?_) (λ H=>?_))))
    ·exact sr (ck 4 (gc 2 (decide (((p0_.P.length:Nat):Int)>=2)) (pA (ck 1 (en (re (qR (qr (by cases H;exact pr rd)))))))))
    ·refine sr (ck 2 (en (cn H (λ H=>?_) (λ H=>?_))))
     ·exact sr (ck 4 (gc 2 (decide (((p0_.P.length:Nat):Int)>=3)) (pA (ck 2 (gc 2 ((decide (((p0_.P.length:Nat):Int)>=3))&&(decide (p0_.Texture>=0))) (pA (ck 1 (en (re (qR (qr (by cases H;exact pr rd))))))))))))
     ·exact sk (qN (qz (sr (ck 1 (en (re (by cases H;exact pr rd)))))))
 ·exact lR Io h207 (sg [1,3,4]) rfl λ s hE46=>qR (qr (by cases H;exact pr hE46))
end
section
variable (p0_:(List Aa)) (p1_:Int)
def JdA:St:=⟨(0,.d (.sl (p0_.map Ac)))::(1,.d (.int .i64 p1_))::[],[]⟩
variable {p0_ p1_}
theorem Nl {z} (H:Ig n p0_ p1_=some z):Ar Tryz.prog 121 [.d (.sl (p0_.map Ac)),.d (.int .i64 p1_)] (.tup [.agg [.d (.int .i64 z.1.X),.d (.int .i64 z.1.Y)],.agg [.d (.int .i64 z.2.X),.d (.int .i64 z.2.Y)]]):=by
 exact fO 18 (JdA p0_ p1_) Tryz.func121 (sr (ck 2 (en (sr (ck 2 (bx H λ x56 h208 H=>sp (Am Ac h208) (ck 5 (sp (Ay Ac p0_) (bx H λ gd4 h209 H=>so (Eb h209) (bx H λ x57 h210 H=>sp (Am Ac h210) (ck 3 (en (re (by cases H;exact pr rdT))))))))))))))
end
section
variable (p0_:Int)
def JdB:St:=⟨(0,.d (.int .i64 p0_))::[],[]⟩
variable {p0_}
theorem Pm {z} (H:Ih n p0_=some z):Ar Tryz.prog 125 [.d (.int .i64 p0_)] (.d (.int .i64 z)):=by
 exact fO 7 (JdB p0_) Tryz.func125 (sr (ck 1 (en (sr (ck 5 (en (re (by cases H;exact pr rd))))))))
end
section
variable (p0_:Aa) (p1_:Aa)
def JdC:St:=⟨(0,.agg [.d (.int .i64 p0_.X),.d (.int .i64 p0_.Y)])::(1,.agg [.d (.int .i64 p1_.X),.d (.int .i64 p1_.Y)])::[],[]⟩
variable {p0_ p1_}
theorem Pn {z} (H:GL n p0_ p1_=some z):Ar Tryz.prog 118 [.agg [.d (.int .i64 p0_.X),.d (.int .i64 p0_.Y)],.agg [.d (.int .i64 p1_.X),.d (.int .i64 p1_.Y)]] (.d (.int .i64 z)):=by
 exact fO 18 (JdC p0_ p1_) Tryz.func118 (sr (ck 3 (en (sr (ck 5 (bx H λ r88 h211 H=>ca false (Pm h211) (ck 5 (bx H λ r89 h212 H=>ca false (Pm h212) (ck 2 (en (re (by cases H;exact pr rd))))))))))))
end
section
variable (p0_:Int) (p1_:Int) (q_1:Int)
def JdD:St:=⟨(0,.d (.int .i64 p0_))::(1,.d (.int .i64 p1_))::[],[]⟩
def JdE:St:=⟨(5,.d (.int .i64 q_1))::[],[]⟩
variable {p0_ p1_ q_1}
theorem LT {z} (H:GM n p0_ p1_=some z):Ar Tryz.prog 126 [.d (.int .i64 p0_),.d (.int .i64 p1_)] (.d (.int .i64 z)):=by
 refine fO 16 (JdD p0_ p1_) Tryz.func126 (sr (ck 1 (en (sr (ck 2 (bx H λ gd5 h213 H=>so (Eb h213) (ck 1 (en (sj (λ (x:Int)=>JdE x) (λ (x:Int)=>Fh n x) z ?_ (λ hFR12_floor_J1=>?_))))))))))
 ·intro q_1 H
  exact sr (ck 2 (en (re (by cases H;exact pr rd))))
 refine sr (ck 2 (bx H λ gd6 h214 H=>so (Eb h214) (ck 1 (en (cn H (λ H=>?_) (λ H=>?_))))))
 ·exact rz (ck 3 (ae (qs (sg [5]) (hFR12_floor_J1 (AT .i64 (Du .i64 p0_ p1_) 1) H))))
 ·exact sk (qs (sg [5]) (hFR12_floor_J1 (Du .i64 p0_ p1_) H))
end
section
variable (p0_:Aa) (p1_:Aa) (r90:Int) (out_15:(List Aa)) (k_11:Int) (out_16:(List Aa))
def JdF:St:=⟨(0,.agg [.d (.int .i64 p0_.X),.d (.int .i64 p0_.Y)])::(1,.agg [.d (.int .i64 p1_.X),.d (.int .i64 p1_.Y)])::[],[]⟩
def JdG:St:=⟨(2,.ptr 0 0)::(3,.ptr 1 0)::(5,.d (.int .i64 r90))::(6,.osl 2 2 0 (out_15.length))::(7,.d (.int .i64 k_11))::[],[some (.box [.d (.int .i64 p0_.X),.d (.int .i64 p0_.Y)]),some (.box [.d (.int .i64 p1_.X),.d (.int .i64 p1_.Y)]),some (.arr 2 (out_15.map Ac))]⟩
def JdH:St:=⟨(6,.osl 0 2 0 (out_16.length))::[],[some (.arr 2 (out_16.map Ac))]⟩
def Rs:(List Aa)->Ex->St->Prop:=xX 0 0 (λ (y:(List Aa))=>JdH y)
def Kv:((List Aa)×Int)->St:=(λ (x:((List Aa)×Int))=>JdG p0_ p1_ r90 x.1 x.2)
variable {p0_ p1_ r90 out_15 k_11 out_16}
theorem PB (x:((List Aa)×Int)) (z:(((List Aa)×Int)⊕(List Aa))) (H:Gl n p0_ p1_ r90 x.1 x.2=some z):WP (cxk 66 0) (Aw Tryz.f122) [1,1,1,0,1,0,0] (Av 0 (Kv p0_ p1_ r90) (Rs) z) (Kv p0_ p1_ r90 x):=by
 obtain ⟨out_15,k_11⟩:=x
 refine sq (sr (ck 3 (en (cn H (λ H=>?_) (λ H=>?_)))))
 ·exact sk (qz (sq (bk 1 (sr (ck 17 (bx H λ r91 h216 H=>ca false (LT h216) (ck 1 (en (sr (ck 17 (bx H λ r92 h217 H=>ca false (LT h217) (ck 1 (en (rz (ck 5 (bx H λ l20 h218 H=>sp (Ba Ac 2 2 h218) (ck 1 (ae (qN (qz (rz (ck 3 (ae (by cases H;exact og (sg [2,3,5,6,7])))))))))))))))))))))))))
 ·exact ex 0 (qx (by cases H;exact xo rfl (sg [6])))
theorem T1 {z} (H:N5 n p0_ p1_=some z):Ar Tryz.prog 122 [.agg [.d (.int .i64 p0_.X),.d (.int .i64 p0_.Y)],.agg [.d (.int .i64 p1_.X),.d (.int .i64 p1_.Y)]] (.own 2 (z.map Ac)):=by
 refine fO 66 (JdF p0_ p1_) Tryz.func122 (sr (ck 3 (en (sr (ck 2 (bx H λ r90 h215 H=>ca false (Pn h215) (ck 3 (en (sq (sr (ck 2 (en (cn H (λ H=>?_) (λ H=>?_))))))))))))))
 ·exact sr (ck 3 (en (re (qr (by cases H;exact pr (rO (v:=.osl 3 2 0 (List.length [p0_])) [3] (ao vo)))))))
 ·exact sk (qz (sq (sr (ck 1 (en (bk 0 (bx H λ y65 h219 H=>lX PB h219 (sg [2,3,5,6,7]) rfl λ s hE47=>qH (qs (hE47) (sr (ck 2 (en (re (by cases H;exact pr (rO (v:=.osl 0 2 0 (z.length)) [0] (ao vo)))))))))))))))
end
section
variable (p0_:(List Aa)) (p1_:Int) (out_17:(List Aa)) (i_15:Int) (out_18:(List Aa))
def JdI:St:=⟨(0,.d (.sl (p0_.map Ac)))::(1,.d (.int .i64 p1_))::[],[]⟩
def JdJ:St:=⟨(0,.d (.sl (p0_.map Ac)))::(1,.d (.int .i64 p1_))::(5,.osl 0 2 0 (out_17.length))::(6,.d (.int .i64 i_15))::[],[some (.arr 2 (out_17.map Ac))]⟩
def JdK:St:=⟨(5,.osl 0 2 0 (out_18.length))::[],[some (.arr 2 (out_18.map Ac))]⟩
def PC:(List Aa)->Ex->St->Prop:=xX 0 0 (λ (y:(List Aa))=>JdK y)
def JB:((List Aa)×Int)->St:=(λ (x:((List Aa)×Int))=>JdJ p0_ p1_ x.1 x.2)
variable {p0_ p1_ out_17 i_15 out_18}
theorem Oj (x:((List Aa)×Int)) (z:(((List Aa)×Int)⊕(List Aa))) (H:Fi n p0_ p1_ x.1 x.2=some z):WP (cxk 27 0) (Aw Tryz.f115) [1,1,0,1,0,0] (Av 0 (JB p0_ p1_) (PC) z) (JB p0_ p1_ x):=by
 obtain ⟨out_17,i_15⟩:=x
 refine sq (sr (ck 3 (en (cn H (λ H=>?_) (λ H=>?_)))))
 ·exact sk (qz (sq (bk 1 (sr (ck 2 (bx H λ r93 h220 H=>ca false (Nl h220) (ck 7 (en (rz (ck 3 (bx H λ r94 h221 H=>ca false (T1 h221) (bx H λ l21 h222 H=>sp (TH Ac 0 2 h222) (ck 1 (ae (qN (qz (rz (ck 3 (ae (by cases H;exact og (sg [0,1,5,6])))))))))))))))))))))
 ·exact ex 0 (qx (by cases H;exact xo rfl (sg [5])))
theorem LU {z} (H:I6 n p0_ p1_=some z):Ar Tryz.prog 115 [.d (.sl (p0_.map Ac)),.d (.int .i64 p1_)] (.own 2 (z.map Ac)):=by
 exact fO 27 (JdI p0_ p1_) Tryz.func115 (sr (ck 1 (en (sr (ck 2 (en (sq (sr (ck 1 (en (bk 0 (bx H λ y66 h223 H=>lX Oj h223 (sg [0,1,5,6]) rfl λ s hE48=>qH (qs (hE48) (sr (ck 2 (en (re (by cases H;exact pr (rO (v:=.osl 0 2 0 (z.length)) [0] (ao vo))))))))))))))))))))
end
section
variable (p0_:(List Aa)) (there_1:(List (List Bool))) (i_16:Int) (there_2:(List (List Bool))) (there_3:(List (List Bool))) (y67:(List (List Bool))) (out_19:(List Aa)) (y_1:Int) (out_20:(List Aa)) (out_21:(List Aa)) (x_15:Int) (out_22:(List Aa)) (out_23:(List Aa))
def JdL:St:=⟨(0,.d (.sl (p0_.map Ac)))::[],[]⟩
def JdM:St:=⟨(0,.d (.sl (p0_.map Ac)))::(3,.eptr 0 60 0 0)::(4,.d (.int .i64 i_16))::[],[some (.arr 60 (List.map (List.map D.bool) there_1))]⟩
def JdN:St:=⟨(3,.eptr 0 60 0 0)::[],[some (.arr 60 (List.map (List.map D.bool) there_2))]⟩
def JdO:St:=⟨(0,.d (.sl (p0_.map Ac)))::(3,.eptr 0 60 0 0)::(4,.d (.int .i64 i_16))::[],[some (.arr 60 (List.map (List.map D.bool) there_3))]⟩
def Ok:(List (List Bool))->Ex->St->Prop:=xX 0 0 (λ (y:(List (List Bool)))=>JdN y)
def Ip:((List (List Bool))×Int)->St:=(λ (x:((List (List Bool))×Int))=>JdM p0_ x.1 x.2)
def JdP:St:=⟨(3,.eptr 0 60 0 0)::(6,.osl 1 2 0 (out_19.length))::(7,.d (.int .i64 y_1))::[],[some (.arr 60 (List.map (List.map D.bool) y67)),some (.arr 2 (out_19.map Ac))]⟩
def JdQ:St:=⟨(6,.osl 0 2 0 (out_20.length))::[],[some (.arr 2 (out_20.map Ac))]⟩
def JdR:St:=⟨(3,.eptr 0 60 0 0)::(6,.osl 1 2 0 (out_21.length))::(7,.d (.int .i64 y_1))::(8,.d (.int .i64 x_15))::[],[some (.arr 60 (List.map (List.map D.bool) y67)),some (.arr 2 (out_21.map Ac))]⟩
def JdS:St:=⟨(3,.eptr 0 60 0 0)::(6,.osl 1 2 0 (out_22.length))::(7,.d (.int .i64 y_1))::[],[some (.arr 60 (List.map (List.map D.bool) y67)),some (.arr 2 (out_22.map Ac))]⟩
def JdT:St:=⟨(3,.eptr 0 60 0 0)::(6,.osl 1 2 0 (out_23.length))::(7,.d (.int .i64 y_1))::(8,.d (.int .i64 x_15))::[],[some (.arr 60 (List.map (List.map D.bool) y67)),some (.arr 2 (out_23.map Ac))]⟩
def Ol:(List Aa)->Ex->St->Prop:=xX 0 4 (λ (y:(List Aa))=>JdS y67 y_1 y)
def Iq:((List Aa)×Int)->St:=(λ (x:((List Aa)×Int))=>JdR y67 y_1 x.1 x.2)
def Om:(List Aa)->Ex->St->Prop:=xX 0 2 (λ (y:(List Aa))=>JdQ y)
def Ir:((List Aa)×Int)->St:=(λ (x:((List Aa)×Int))=>JdP y67 x.1 x.2)
variable {p0_ there_1 i_16 there_2 there_3 y67 out_19 y_1 out_20 out_21 x_15 out_22 out_23}
theorem Nm (x:((List (List Bool))×Int)) (z:(((List (List Bool))×Int)⊕(List (List Bool)))) (H:Eh n p0_ x.1 x.2=some z):WP (cxk 65 0) (Aw Tryz.f114) [1,1,0,1,0,0] (Av 0 (Ip p0_) (Ok) z) (Ip p0_ x):=by
 obtain ⟨there_1,i_16⟩:=x
 refine sq (sr (ck 2 (sp (Ay Ac p0_) (ck 1 (en (cn H (λ H=>?_) (λ H=>?_)))))))
 ·refine sk (qz (sj (λ (x:(List (List Bool)))=>JdO p0_ i_16 x) (λ (x:(List (List Bool)))=>Eg n i_16 x) z ?_ (λ hFR13_sorted_J1=>?_)))
  ·intro there_3 H
   exact rz (ck 3 (ae (by cases H;exact og (sg [0,3,4]))))
  refine bk 1 (sr (ck 2 (bx H λ x58 h224 H=>sp (Am Ac h224) (ck 3 (en (sr (ck 5 (gc 2 (decide (x58.X>=0)) (pA (ck 2 (gc 2 ((decide (x58.X>=0))&&(decide (x58.Y>=0))) (pA (ck 2 (gc 2 (((decide (x58.X>=0))&&(decide (x58.Y>=0)))&&(decide (x58.X<60))) (pA (en (cn H (λ H=>?_) (λ H=>?_))))))))))))))))))
  ·exact rz (ck 4 (bx H λ gd7 h225 H=>sp (XQ 0 60 0 60 (j:=0) h225) (bx H λ gd8 h226 H=>sp (XT 0 60 60 1 (0+Int.toNat x58.Y) 0 h226) (bx H λ l22 h227 H=>JkY D.bool 0 60 (ty 4) h227 (of_decide_eq_true (K4 h226)).2 (ae (qN (qs (sg [0,3,4]) (hFR13_sorted_J1 l22 H))))))))
  ·exact sk (qN (qs (sg [0,3,4]) (hFR13_sorted_J1 there_1 H)))
 ·exact ex 0 (qx (by cases H;exact xo rfl (sg [3])))
theorem Nn (x:((List Aa)×Int)) (z:(((List Aa)×Int)⊕(List Aa))) (H:Ej n y67 y_1 x.1 x.2=some z):WP (cxk 65 0) (Aw Tryz.f114) [1,1,1,1,0,1,0,0,1,0,0,1,0,0] (Av 0 (Iq y67 y_1) (Ol y67 y_1) z) (Iq y67 y_1 x):=by
 obtain ⟨out_21,x_15⟩:=x
 refine sq (sr (ck 2 (en (cn H (λ H=>?_) (λ H=>?_)))))
 ·refine sk (qz (sj (λ (x:(List Aa))=>JdT y67 y_1 x_15 x) (λ (x:(List Aa))=>Ei n x_15 x) z ?_ (λ hFR13_sorted_J2=>?_)))
  ·intro out_23 H
   exact rz (ck 3 (ae (by cases H;exact og (sg [3,6,7,8]))))
  refine bk 5 (sr (ck 2 (bx H λ gd9 h229 H=>sp (XQ 0 60 0 60 (j:=0) h229) (bx H λ gd10 h230 H=>sp (XT 0 60 60 1 (0+Int.toNat y_1) 0 h230) (bx H λ x59 h231 H=>sp (Jf7 D.bool 0 60 (ty 4) h231) (en (cn H (λ H=>?_) (λ H=>?_))))))))
  ·exact rz (ck 5 (bx H λ l23 h232 H=>sp (Ba Ac 1 2 h232) (ck 1 (ae (qN (qs (sg [3,6,7,8]) (hFR13_sorted_J2 l23 H)))))))
  ·exact sk (qN (qs (sg [3,6,7,8]) (hFR13_sorted_J2 out_21 H)))
 ·exact ex 4 (qx (by cases H;exact xo rfl (sg [3,6,7])))
theorem No (x:((List Aa)×Int)) (z:(((List Aa)×Int)⊕(List Aa))) (H:Ek n y67 x.1 x.2=some z):WP (cxk 65 0) (Aw Tryz.f114) [1,1,1,1,0,1,0,0] (Av 0 (Ir y67) (Om) z) (Ir y67 x):=by
 obtain ⟨out_19,y_1⟩:=x
 refine sq (sr (ck 2 (en (cn H (λ H=>?_) (λ H=>?_)))))
 ·exact sk (qz (sq (bk 3 (sr (ck 1 (en (bk 4 (bx H λ y68 h233 H=>lX Nn h233 (sg [3,6,7,8]) rfl λ s hE50=>qH (qN (qs (hE50) (rz (ck 3 (ae (by cases H;exact og (sg [3,6,7])))))))))))))))
 ·exact ex 2 (qx (by cases H;exact xo rfl (sg [6])))
theorem Kw {z} (H:Hs n p0_=some z):Ar Tryz.prog 114 [.d (.sl (p0_.map Ac))] (.own 2 (z.map Ac)):=by
 exact fO 65 (JdL p0_) Tryz.func114 (sr (ck 1 (en (sr (ck 2 (sp (JaX (D.bool false) 3600 0 (ty 186)) (en (sq (sq (rg (tr (Jc9 D.bool false 3600 60 60 0 (by kernel_rfl) (by kernel_rfl)) (JjK 3 0 60 (by kernel_rfl))) (ck 1 (en (bk 0 (bx H λ y67 h228 H=>lX Nm h228 (sg [0,3,4]) rfl λ s hE49=>qH (qs (hE49) (sr (ck 2 (en (sq (sr (ck 1 (en (bk 2 (bx H λ y69 h234 H=>lX No h234 (sg [3,6,7]) rfl λ s hE51=>qH (qs (hE51) (sr (ck 2 (en (re (by cases H;exact pr (rO (v:=.osl 0 2 0 (z.length)) [0] (ao vo))))))))))))))))))))))))))))))))
end
section
variable (p0_:Int) (p1_:Aa)
def JdU:St:=⟨(0,.d (.int .i64 p0_))::(1,.agg [.d (.int .i64 p1_.X),.d (.int .i64 p1_.Y)])::[],[]⟩
variable {p0_ p1_}
theorem PD {z} (H:Gm n p0_ p1_=some z):Ar Tryz.prog 116 [.d (.int .i64 p0_),.agg [.d (.int .i64 p1_.X),.d (.int .i64 p1_.Y)]] (.d (.bool z)):=by
 exact fO 30 (JdU p0_ p1_) Tryz.func116 (sr (ck 2 (en (sr (ck 4 (gc 2 (!(p0_==3)) (ck 1 (gc 3 ((!(p0_==3))&&(p0_==2)) (pG (g:=(!(p0_==3))) (v:=.d (.bool ((p0_==2)&&((Ak p1_.Y 2)==0)))) (λ hg=>DW (c:=.gv (!(p0_==3)) (.d (.bool (p0_==2)))) (a:=.gv ((!(p0_==3))&&(p0_==2)) (.d (.bool ((Ak p1_.Y 2)==0)))) (b:=.d (.bool false)) rfl rfl rfl ((λ hh=>hh) hg) (λ ht=>by rw [(λ hh=>hh) hg,ht];rfl) trivial) (pO (ck 2 (gc 2 (!((p0_==3)||((p0_==2)&&((Ak p1_.Y 2)==0)))) (ck 1 (gc 1 ((!((p0_==3)||((p0_==2)&&((Ak p1_.Y 2)==0))))&&(p0_==1)) (ck 1 (gc 4 ((!((p0_==3)||((p0_==2)&&((Ak p1_.Y 2)==0))))&&(p0_==1)) (pG (g:=(!((p0_==3)||((p0_==2)&&((Ak p1_.Y 2)==0))))) (v:=.d (.bool ((p0_==1)&&((Ak (Aj .i64 p1_.X p1_.Y) 2)==0)))) (λ hg=>DW (c:=.gv (!((p0_==3)||((p0_==2)&&((Ak p1_.Y 2)==0)))) (.d (.bool (p0_==1)))) (a:=.gv ((!((p0_==3)||((p0_==2)&&((Ak p1_.Y 2)==0))))&&(p0_==1)) (.d (.bool ((Ak (Aj .i64 p1_.X p1_.Y) 2)==0)))) (b:=.d (.bool false)) rfl rfl rfl ((λ hh=>hh) hg) (λ ht=>by rw [(λ hh=>hh) hg,ht];rfl) trivial) (pO (ck 1 (en (re (by cases H;exact pr rd))))))))))))))))))))))
end
section
variable (p0_:Aa) (p1_:Aa) (p2_:Aa)
def JdV:St:=⟨(0,.agg [.d (.int .i64 p0_.X),.d (.int .i64 p0_.Y)])::(1,.agg [.d (.int .i64 p1_.X),.d (.int .i64 p1_.Y)])::(2,.agg [.d (.int .i64 p2_.X),.d (.int .i64 p2_.Y)])::[],[]⟩
variable {p0_ p1_ p2_}
theorem T3 {z} (H:N6 n p0_ p1_ p2_=some z):Ar Tryz.prog 127 [.agg [.d (.int .i64 p0_.X),.d (.int .i64 p0_.Y)],.agg [.d (.int .i64 p1_.X),.d (.int .i64 p1_.Y)],.agg [.d (.int .i64 p2_.X),.d (.int .i64 p2_.Y)]] (.d (.int .i64 z)):=by
 exact fO 30 (JdV p0_ p1_ p2_) Tryz.func127 (sr (ck 4 (en (sr (ck 24 (en (re (by cases H;exact pr rd))))))))
end
section
variable (p0_:Aa) (p1_:Aa) (p2_:Aa)
def JdW:St:=⟨(0,.agg [.d (.int .i64 p0_.X),.d (.int .i64 p0_.Y)])::(1,.agg [.d (.int .i64 p1_.X),.d (.int .i64 p1_.Y)])::(2,.agg [.d (.int .i64 p2_.X),.d (.int .i64 p2_.Y)])::[],[]⟩
variable {p0_ p1_ p2_}
theorem W9 {z} (H:P2 n p0_ p1_ p2_=some z):Ar Tryz.prog 123 [.agg [.d (.int .i64 p0_.X),.d (.int .i64 p0_.Y)],.agg [.d (.int .i64 p1_.X),.d (.int .i64 p1_.Y)],.agg [.d (.int .i64 p2_.X),.d (.int .i64 p2_.Y)]] (.d (.bool z)):=by
 exact fO 52 (JdW p0_ p1_ p2_) Tryz.func123 (sr (ck 4 (en (sr (ck 3 (bx H λ r95 h235 H=>ca false (T3 h235) (ck 3 (gc 1 (r95==0) (ck 1 (gc 1 (r95==0) (ck 1 (gc 3 (r95==0) (pA (ck 2 (gc 1 ((r95==0)&&(decide (p2_.X>=(if p1_.X<p0_.X then p1_.X else p0_.X)))) (ck 1 (gc 1 ((r95==0)&&(decide (p2_.X>=(if p1_.X<p0_.X then p1_.X else p0_.X)))) (ck 1 (gc 3 ((r95==0)&&(decide (p2_.X>=(if p1_.X<p0_.X then p1_.X else p0_.X)))) (pA (ck 2 (gc 1 (((r95==0)&&(decide (p2_.X>=(if p1_.X<p0_.X then p1_.X else p0_.X))))&&(decide (p2_.X<=(if p1_.X>p0_.X then p1_.X else p0_.X)))) (ck 1 (gc 1 (((r95==0)&&(decide (p2_.X>=(if p1_.X<p0_.X then p1_.X else p0_.X))))&&(decide (p2_.X<=(if p1_.X>p0_.X then p1_.X else p0_.X)))) (ck 1 (gc 3 (((r95==0)&&(decide (p2_.X>=(if p1_.X<p0_.X then p1_.X else p0_.X))))&&(decide (p2_.X<=(if p1_.X>p0_.X then p1_.X else p0_.X)))) (pA (ck 2 (gc 1 ((((r95==0)&&(decide (p2_.X>=(if p1_.X<p0_.X then p1_.X else p0_.X))))&&(decide (p2_.X<=(if p1_.X>p0_.X then p1_.X else p0_.X))))&&(decide (p2_.Y>=(if p1_.Y<p0_.Y then p1_.Y else p0_.Y)))) (ck 1 (gc 1 ((((r95==0)&&(decide (p2_.X>=(if p1_.X<p0_.X then p1_.X else p0_.X))))&&(decide (p2_.X<=(if p1_.X>p0_.X then p1_.X else p0_.X))))&&(decide (p2_.Y>=(if p1_.Y<p0_.Y then p1_.Y else p0_.Y)))) (ck 1 (gc 3 ((((r95==0)&&(decide (p2_.X>=(if p1_.X<p0_.X then p1_.X else p0_.X))))&&(decide (p2_.X<=(if p1_.X>p0_.X then p1_.X else p0_.X))))&&(decide (p2_.Y>=(if p1_.Y<p0_.Y then p1_.Y else p0_.Y)))) (pA (ck 1 (en (re (by cases H;exact pr rd))))))))))))))))))))))))))))))))))))))
end
section
variable (p0_:Aa) (p1_:Aa) (p2_:Aa)
def JdX:St:=⟨(0,.agg [.d (.int .i64 p0_.X),.d (.int .i64 p0_.Y)])::(1,.agg [.d (.int .i64 p1_.X),.d (.int .i64 p1_.Y)])::(2,.agg [.d (.int .i64 p2_.X),.d (.int .i64 p2_.Y)])::[],[]⟩
variable {p0_ p1_ p2_}
theorem Rt {z} (H:Ht n p0_ p1_ p2_=some z):Ar Tryz.prog 124 [.agg [.d (.int .i64 p0_.X),.d (.int .i64 p0_.Y)],.agg [.d (.int .i64 p1_.X),.d (.int .i64 p1_.Y)],.agg [.d (.int .i64 p2_.X),.d (.int .i64 p2_.Y)]] (.d (.bool z)):=by
 refine fO 53 (JdX p0_ p1_ p2_) Tryz.func124 (sr (ck 4 (en (sq (sr (ck 11 (en (cn H (λ H=>?_) (λ H=>?_)))))))))
 ·exact sr (ck 1 (en (re (qr (by cases H;exact pr rd)))))
 ·refine sk (qz (sr (ck 12 (en (sr (ck 12 (en (sq (sr (ck 5 (en (cn H (λ H=>?_) (λ H=>?_)))))))))))))
  ·exact sr (ck 4 (en (re (qr (by cases H;exact pr rd)))))
  ·exact sk (qz (sr (ck 4 (en (re (by cases H;exact pr rd))))))
end
section
variable (p0_:(List Aa)) (p1_:Aa) (odd_1:Bool) (i_17:Int) (odd_2:Bool) (odd_3:Bool)
def JdY:St:=⟨(0,.d (.sl (p0_.map Ac)))::(1,.agg [.d (.int .i64 p1_.X),.d (.int .i64 p1_.Y)])::[],[]⟩
def JdZ:St:=⟨(0,.d (.sl (p0_.map Ac)))::(3,.ptr 0 0)::(5,.d (.bool odd_1))::(6,.d (.int .i64 i_17))::[],[some (.box [.d (.int .i64 p1_.X),.d (.int .i64 p1_.Y)])]⟩
def Jd0:St:=⟨(5,.d (.bool odd_2))::[],[]⟩
def Jd1:St:=⟨(0,.d (.sl (p0_.map Ac)))::(3,.ptr 0 0)::(5,.d (.bool odd_3))::(6,.d (.int .i64 i_17))::[],[some (.box [.d (.int .i64 p1_.X),.d (.int .i64 p1_.Y)])]⟩
def On:(Bool⊕Bool)->Ex->St->Prop:=xS (xX 0 0 (λ (y:Bool)=>Jd0 y)) (xR ty Tryz.f117 (λ (y:Bool)=>.d (.bool y)))
def Is:(Bool×Int)->St:=(λ (x:(Bool×Int))=>JdZ p0_ p1_ x.1 x.2)
variable {p0_ p1_ odd_1 i_17 odd_2 odd_3}
theorem HD (x:(Bool×Int)) (z:((Bool×Int)⊕(Bool⊕Bool))) (H:Em n p0_ p1_ x.1 x.2=some z):WP (cxk 32 0) (Aw Tryz.f117) [1,1,0,1,0,0] (Av 0 (Is p0_ p1_) (On) z) (Is p0_ p1_ x):=by
 obtain ⟨odd_1,i_17⟩:=x
 refine sq (sr (ck 2 (sp (Ay Ac p0_) (ck 1 (en (cn H (λ H=>?_) (λ H=>?_)))))))
 ·refine sk (qz (sj (λ (x:Bool)=>Jd1 p0_ p1_ i_17 x) (λ (x:Bool)=>El n i_17 x) z ?_ (λ hFR13_Inside_J1=>?_)))
  ·intro odd_3 H
   exact rz (ck 3 (ae (by cases H;exact og (sg [0,3,5,6]))))
  refine bk 1 (sr (ck 2 (bx H λ r96 h236 H=>ca false (Nl h236) (ck 7 (en (sq (sr (ck 3 (bx H λ r97 h237 H=>ca false (W9 h237) (en (cn H (λ H=>?_) (λ H=>?_))))))))))))
  ·exact sr (ck 1 (en (re (qr (qR (qr (by cases H;exact ro rfl rd)))))))
  ·refine sk (qz (sr (ck 3 (bx H λ r98 h238 H=>ca false (Rt h238) (en (cn H (λ H=>?_) (λ H=>?_)))))))
   ·exact rz (ck 3 (ae (qN (qs (sg [0,3,5,6]) (hFR13_Inside_J1 (!odd_1) H)))))
   ·exact sk (qN (qs (sg [0,3,5,6]) (hFR13_Inside_J1 odd_1 H)))
 ·exact ex 0 (qx (by cases H;exact xo rfl (sg [5])))
theorem Ru {z} (H:Kf n p0_ p1_=some z):Ar Tryz.prog 117 [.d (.sl (p0_.map Ac)),.agg [.d (.int .i64 p1_.X),.d (.int .i64 p1_.Y)]] (.d (.bool z)):=by
 refine fO 32 (JdY p0_ p1_) Tryz.func117 (sr (ck 2 (en (sr (ck 1 (en (sq (sr (ck 1 (en (bk 0 (bx H λ y70 h239 H=>?_))))))))))))
 rcases y70 with y71|y72
 ·exact lX HD h239 (sg [0,3,5,6]) rfl λ s hE52=>qH (qs (hE52) (sr (ck 2 (en (re (by cases H;exact pr rd))))))
 ·exact lR HD h239 (sg [0,3,5,6]) rfl λ s hE53=>qR (qr (by cases H;exact pr hE53))
end
section
variable (p0_:Ax) (out_24:(List Aa)) (y_2:Int) (out_25:(List Aa)) (out_26:(List Aa)) (x_16:Int) (out_27:(List Aa)) (out_28:(List Aa))
def Jd2:St:=⟨(0,.agg [.d (.int .i64 p0_.Kind),.d (.int .i64 p0_.Texture),.d (.sl (p0_.P.map Ac))])::[],[]⟩
def Jd3:St:=⟨(1,.ptr 0 0)::(3,.osl 1 2 0 (out_24.length))::(4,.d (.int .i64 y_2))::[],[some (.box (Dy p0_)),some (.arr 2 (out_24.map Ac))]⟩
def Jd4:St:=⟨(3,.osl 0 2 0 (out_25.length))::[],[some (.arr 2 (out_25.map Ac))]⟩
def Jd5:St:=⟨(1,.ptr 0 0)::(3,.osl 1 2 0 (out_26.length))::(4,.d (.int .i64 y_2))::(5,.d (.int .i64 x_16))::[],[some (.box (Dy p0_)),some (.arr 2 (out_26.map Ac))]⟩
def Jd6:St:=⟨(1,.ptr 0 0)::(3,.osl 1 2 0 (out_27.length))::(4,.d (.int .i64 y_2))::[],[some (.box (Dy p0_)),some (.arr 2 (out_27.map Ac))]⟩
def Jd7:St:=⟨(1,.ptr 0 0)::(3,.osl 1 2 0 (out_28.length))::(4,.d (.int .i64 y_2))::(5,.d (.int .i64 x_16))::[],[some (.box (Dy p0_)),some (.arr 2 (out_28.map Ac))]⟩
def Oo:(List Aa)->Ex->St->Prop:=xX 0 3 (λ (y:(List Aa))=>Jd6 p0_ y_2 y)
def Iu:((List Aa)×Int)->St:=(λ (x:((List Aa)×Int))=>Jd5 p0_ y_2 x.1 x.2)
def Oq:(List Aa)->Ex->St->Prop:=xX 0 1 (λ (y:(List Aa))=>Jd4 y)
def Iv:((List Aa)×Int)->St:=(λ (x:((List Aa)×Int))=>Jd3 p0_ x.1 x.2)
variable {p0_ out_24 y_2 out_25 out_26 x_16 out_27 out_28}
theorem Np (x:((List Aa)×Int)) (z:(((List Aa)×Int)⊕(List Aa))) (H:Eo n p0_ y_2 x.1 x.2=some z):WP (cxk 56 0) (Aw Tryz.f105) [1,1,1,0,1,0,0,1,0,0,1,0,0] (Av 0 (Iu p0_ y_2) (Oo p0_ y_2) z) (Iu p0_ y_2 x):=by
 obtain ⟨out_26,x_16⟩:=x
 refine sq (sr (ck 2 (en (cn H (λ H=>?_) (λ H=>?_)))))
 ·refine sk (qz (sj (λ (x:(List Aa))=>Jd7 p0_ y_2 x_16 x) (λ (x:(List Aa))=>En n x_16 x) z ?_ (λ hFR13_Points_J1=>?_)))
  ·intro out_28 H
   exact rz (ck 3 (ae (by cases H;exact og (sg [1,3,4,5]))))
  refine bk 4 (sr (ck 5 (en (sr (ck 3 (bx H λ r102 h243 H=>ca false (PD h243) (ck 2 (gc 1 r102 (ck 1 (bx H λ r103 h244 H=>cG false (leZ) rfl (λ hg=>Ru (Bd h244 hg)) (Or.inl rfl) (Cc (λ hh=>hh) (Cc (λ hh=>hh) (Dd))) rfl (pA (en (cn H (λ H=>?_) (λ H=>?_))))))))))))))
  ·exact rz (ck 3 (bx H λ l24 h245 H=>sp (Ba Ac 1 2 h245) (ck 1 (ae (qN (qs (sg [1,3,4,5]) (hFR13_Points_J1 l24 H)))))))
  ·exact sk (qN (qs (sg [1,3,4,5]) (hFR13_Points_J1 out_26 H)))
 ·exact ex 3 (qx (by cases H;exact xo rfl (sg [1,3,4])))
theorem Nq (x:((List Aa)×Int)) (z:(((List Aa)×Int)⊕(List Aa))) (H:Ep n p0_ x.1 x.2=some z):WP (cxk 56 0) (Aw Tryz.f105) [1,1,1,0,1,0,0] (Av 0 (Iv p0_) (Oq) z) (Iv p0_ x):=by
 obtain ⟨out_24,y_2⟩:=x
 refine sq (sr (ck 2 (en (cn H (λ H=>?_) (λ H=>?_)))))
 ·exact sk (qz (sq (bk 2 (sr (ck 1 (en (bk 3 (bx H λ y73 h246 H=>lX Np h246 (sg [1,3,4,5]) rfl λ s hE54=>qH (qN (qs (hE54) (rz (ck 3 (ae (by cases H;exact og (sg [1,3,4])))))))))))))))
 ·exact ex 1 (qx (by cases H;exact xo rfl (sg [3])))
theorem Kx {z} (H:C7 n p0_=some z):Ar Tryz.prog 105 [.agg (Dy p0_)] (.d (.sl (z.map Ac))):=by
 refine fO 56 (Jd2 p0_) Tryz.func105 (sr (ck 2 (en (sq (sr (ck 2 (en (bk 0 (sr (ck 2 (en (cn H (λ H=>?_) (λ H=>?_)))))))))))))
 ·exact sr (ck 3 (en (re (qR (qr (by cases H;exact pr rd))))))
 ·refine sr (ck 2 (en (cn H (λ H=>?_) (λ H=>?_))))
  ·exact sr (ck 4 (sp (Ay Ac p0_.P) (ck 1 (bx H λ r99 h240 H=>ca false (LU h240) (bx H λ r100 h241 H=>cl [List.length r100] (Kw h241) (ck 1 (ae (qs (fz (enc:=Ac) (xs:=r100) 2 1 2) (re (qR (qr (by cases H;exact pr rd))))))))))))
  ·exact sk (qN (qz (sr (ck 4 (sp (Ay Ac p0_.P) (bx H λ r101 h242 H=>cl [List.length r101] (LU h242) (ck 1 (en (sq (sr (ck 1 (en (bk 1 (bx H λ y74 h247 H=>lX Nq h247 (sg [1,3,4]) rfl λ s hE55=>qH (qs (hE55) (sr (ck 1 (bx H λ r104 h248 H=>cb (ks:=[0]) (obl:=[(0+List.length y74,List.length (y74.map Ac))]) (ls:=[List.length r104]) true (leK leM (leZ)) (CO GB rfl) (Kw h248) (Or.inr (Jc1 λ _=>rfl)) (JkT rfl) (ck 1 (ae (qs (fz (enc:=Ac) (xs:=r104) 2 1 2) (re (by cases H;exact pr rd)))))))))))))))))))))))
end
section
variable (p0_:(List Aa)) (p1_:Int) (p2_:Int) (i_18:Int)
def Jd8:St:=⟨(0,.d (.sl (p0_.map Ac)))::(1,.d (.int .i64 p1_))::(2,.d (.int .i64 p2_))::[],[]⟩
def Jd9:St:=⟨(0,.d (.sl (p0_.map Ac)))::(1,.d (.int .i64 p1_))::(2,.d (.int .i64 p2_))::(7,.d (.int .i64 i_18))::[],[]⟩
def Jea:St:=⟨[],[]⟩
def Ot:(Unit⊕Bool)->Ex->St->Prop:=xS (xX 0 0 (λ (y:Unit)=>Jea)) (xR ty Tryz.f104 (λ (y:Bool)=>.d (.bool y)))
def Iw:Int->St:=(λ (x:Int)=>Jd9 p0_ p1_ p2_ x)
variable {p0_ p1_ p2_ i_18}
theorem HE (x:Int) (z:(Int⊕(Unit⊕Bool))) (H:Er n p0_ p1_ p2_ x=some z):WP (cxk 46 0) (Aw Tryz.f104) [1,0,1,0,0] (Av 0 (Iw p0_ p1_ p2_) (Ot) z) (Iw p0_ p1_ p2_ x):=by
 revert H
 generalize x=i_18
 intro H
 refine sq (sr (ck 2 (sp (Ay Ac p0_) (ck 1 (en (cn H (λ H=>?_) (λ H=>?_)))))))
 ·refine sk (qz (sq (bk 1 (sr (ck 2 (bx H λ x60 h249 H=>sp (Am Ac h249) (ck 6 (bx H λ x61 h250 H=>sE (λ hg=>Am Ac (Bd h250 hg)) (gc 2 (!(decide (x60.X<0))) (ck 1 (gc 1 (!(decide (x60.X<0))) (pO (ck 3 (bx H λ x62 h251 H=>sE (λ hg=>Am Ac (Bd h251 hg)) (gc 3 (!((decide (x60.X<0))||(decide (x61.X>=p1_)))) (pO (ck 3 (bx H λ x63 h252 H=>sE (λ hg=>Am Ac (Bd h252 hg)) (gc 2 (!(((decide (x60.X<0))||(decide (x61.X>=p1_)))||(decide (x62.Y<0)))) (ck 1 (gc 1 (!(((decide (x60.X<0))||(decide (x61.X>=p1_)))||(decide (x62.Y<0)))) (pO (en (cn H (λ H=>?_) (λ H=>?_)))))))))))))))))))))))))
  ·exact sr (ck 1 (en (re (qR (qr (by cases H;exact ro rfl rd))))))
  ·exact sk (qN (qz (rz (ck 3 (ae (by cases H;exact og (sg [0,1,2,7])))))))
 ·exact ex 0 (qx (by cases H;exact xo rfl (sg [])))
theorem Rv {z} (H:Kg n p0_ p1_ p2_=some z):Ar Tryz.prog 104 [.d (.sl (p0_.map Ac)),.d (.int .i64 p1_),.d (.int .i64 p2_)] (.d (.bool z)):=by
 refine fO 46 (Jd8 p0_ p1_ p2_) Tryz.func104 (sr (ck 1 (en (sq (sr (ck 1 (en (bk 0 (bx H λ y75 h253 H=>?_)))))))))
 rcases y75 with y76|y77
 ·exact lX HE h253 (sg [0,1,2,7]) rfl λ s hE56=>qH (qs (hE56) (sr (ck 1 (en (re (by cases H;exact pr rd))))))
 ·exact lR HE h253 (sg [0,1,2,7]) rfl λ s hE57=>qR (qr (by cases H;exact pr hE57))
end
section
variable (p0_:Af) (i_19:Int)
def JhJ:St:=⟨(0,.agg [.d (.int .i64 p0_.W),.d (.int .i64 p0_.H),.d (.int .i64 p0_.Gap),.d (.sl (p0_.F.map Au))])::[],[]⟩
def JhK:St:=⟨(1,.ptr 0 0)::(3,.d (.int .i64 i_19))::[],[some (.box (AG p0_))]⟩
def JhL:St:=⟨[],[]⟩
def PE:(Unit⊕Bool)->Ex->St->Prop:=xS (xX 0 0 (λ (y:Unit)=>JhL)) (xR ty Tryz.f93 (λ (y:Bool)=>.d (.bool y)))
def JC:Int->St:=(λ (x:Int)=>JhK p0_ x)
variable {p0_ i_19}
theorem Ix (x:Int) (z:(Int⊕(Unit⊕Bool))) (H:Fj n p0_ x=some z):WP (cxk 86 0) (Aw Tryz.f93) [1,1,0,1,0,0] (Av 0 (JC p0_) (PE) z) (JC p0_ x):=by
 revert H
 generalize x=i_19
 intro H
 refine sq (sr (ck 3 (sp (Ay Au p0_.F) (ck 1 (en (cn H (λ H=>?_) (λ H=>?_)))))))
 ·refine sk (qz (sq (bk 1 (sr (ck 3 (bx H λ x64 h254 H=>sp (Am Au h254) (ck 1 (bx H λ r105 h255 H=>ca false (Si h255) (ck 1 (en (sr (ck 4 (gc 1 (!(!r105)) (ck 1 (bx H λ x65 h256 H=>sE (λ hg=>Am Au (Bd h256 hg)) (gc 1 (!(!r105)) (bx H λ r106 h257 H=>cG false (leZ) rfl (λ hg=>Kx (Bd h257 hg)) (Or.inl rfl) (Cc (λ hh=>hh) (Dd)) rfl (ck 1 (gc 1 (!(!r105)) (ck 1 (gc 1 (!(!r105)) (bx H λ r107 h258 H=>cG false (leZ) rfl (λ hg=>Rv (Bd h258 hg)) (Or.inl rfl) (Cc (λ hh=>hh) (Cc (λ hh=>hh) (Cc (λ hh=>hh) (Dd)))) rfl (gc 1 (!(!r105)) (pO (en (cn H (λ H=>?_) (λ H=>?_)))))))))))))))))))))))))))
  ·exact sr (ck 1 (en (re (qR (qr (by cases H;exact ro rfl rd))))))
  ·exact sk (qN (qz (rz (ck 3 (ae (by cases H;exact og (sg [1,3])))))))
 ·exact ex 0 (qx (by cases H;exact xo rfl (sg [])))
theorem LV {z} (H:E4 n p0_=some z):Ar Tryz.prog 93 [.agg (AG p0_)] (.d (.bool z)):=by
 refine fO 86 (JhJ p0_) Tryz.func93 (sr (ck 2 (en (sq (sr (ck 5 (gc 2 (!(decide (p0_.W<4))) (pO (ck 2 (gc 3 (!((decide (p0_.W<4))||(decide (p0_.W>60)))) (pO (ck 2 (gc 2 (!(((decide (p0_.W<4))||(decide (p0_.W>60)))||((Ak p0_.W 2) != 0))) (pO (ck 2 (gc 2 (!((((decide (p0_.W<4))||(decide (p0_.W>60)))||((Ak p0_.W 2) != 0))||(decide (p0_.H<3)))) (pO (ck 2 (gc 3 (!(((((decide (p0_.W<4))||(decide (p0_.W>60)))||((Ak p0_.W 2) != 0))||(decide (p0_.H<3)))||(decide (p0_.H>60)))) (pO (ck 2 (gc 2 (!((((((decide (p0_.W<4))||(decide (p0_.W>60)))||((Ak p0_.W 2) != 0))||(decide (p0_.H<3)))||(decide (p0_.H>60)))||((Ak p0_.H 3) != 0))) (pO (ck 2 (gc 2 (!(((((((decide (p0_.W<4))||(decide (p0_.W>60)))||((Ak p0_.W 2) != 0))||(decide (p0_.H<3)))||(decide (p0_.H>60)))||((Ak p0_.H 3) != 0))||(decide (p0_.Gap<2)))) (pO (ck 2 (gc 1 (!((((((((decide (p0_.W<4))||(decide (p0_.W>60)))||((Ak p0_.W 2) != 0))||(decide (p0_.H<3)))||(decide (p0_.H>60)))||((Ak p0_.H 3) != 0))||(decide (p0_.Gap<2)))||(decide (p0_.Gap>6)))) (sE (g:=(!((((((((decide (p0_.W<4))||(decide (p0_.W>60)))||((Ak p0_.W 2) != 0))||(decide (p0_.H<3)))||(decide (p0_.H>60)))||((Ak p0_.H 3) != 0))||(decide (p0_.Gap<2)))||(decide (p0_.Gap>6))))) (λ hg=>Ay Au p0_.F) (gc 1 (!((((((((decide (p0_.W<4))||(decide (p0_.W>60)))||((Ak p0_.W 2) != 0))||(decide (p0_.H<3)))||(decide (p0_.H>60)))||((Ak p0_.H 3) != 0))||(decide (p0_.Gap<2)))||(decide (p0_.Gap>6)))) (pO (ck 2 (gc 1 (!(((((((((decide (p0_.W<4))||(decide (p0_.W>60)))||((Ak p0_.W 2) != 0))||(decide (p0_.H<3)))||(decide (p0_.H>60)))||((Ak p0_.H 3) != 0))||(decide (p0_.Gap<2)))||(decide (p0_.Gap>6)))||(decide (((p0_.F.length:Nat):Int)<1)))) (sE (g:=(!(((((((((decide (p0_.W<4))||(decide (p0_.W>60)))||((Ak p0_.W 2) != 0))||(decide (p0_.H<3)))||(decide (p0_.H>60)))||((Ak p0_.H 3) != 0))||(decide (p0_.Gap<2)))||(decide (p0_.Gap>6)))||(decide (((p0_.F.length:Nat):Int)<1))))) (λ hg=>Ay Au p0_.F) (gc 1 (!(((((((((decide (p0_.W<4))||(decide (p0_.W>60)))||((Ak p0_.W 2) != 0))||(decide (p0_.H<3)))||(decide (p0_.H>60)))||((Ak p0_.H 3) != 0))||(decide (p0_.Gap<2)))||(decide (p0_.Gap>6)))||(decide (((p0_.F.length:Nat):Int)<1)))) (pO (en (cn H (λ H=>?_) (λ H=>?_)))))))))))))))))))))))))))))))))))))))
 ·exact sr (ck 1 (en (re (qr (by cases H;exact pr rd)))))
 ·refine sk (qz (sq (sr (ck 1 (en (bk 0 (bx H λ y78 h259 H=>?_)))))))
  rcases y78 with y79|y80
  ·exact lX Ix h259 (sg [1,3]) rfl λ s hE58=>qH (qs (hE58) (sr (ck 1 (en (re (by cases H;exact pr rd))))))
  ·exact lR Ix h259 (sg [1,3]) rfl λ s hE59=>qR (qr (by cases H;exact pr hE59))
end
section
variable (p0_:Af) (out_29:(List (List Aa))) (i_20:Int) (out_30:(List (List Aa)))
def JhM:St:=⟨(0,.agg [.d (.int .i64 p0_.W),.d (.int .i64 p0_.H),.d (.int .i64 p0_.Gap),.d (.sl (p0_.F.map Au))])::[],[]⟩
def JhN:St:=⟨(1,.ptr 0 0)::(3,.osl 1 1 0 (out_29.length))::(4,.d (.int .i64 i_20))::[],[some (.box (AG p0_)),some (.arr 1 (out_29.map (eL Ac)))]⟩
def JhO:St:=⟨(3,.osl 0 1 0 (out_30.length))::[],[some (.arr 1 (out_30.map (eL Ac)))]⟩
def Ou:(List (List Aa))->Ex->St->Prop:=xX 0 0 (λ (y:(List (List Aa)))=>JhO y)
def Iy:((List (List Aa))×Int)->St:=(λ (x:((List (List Aa))×Int))=>JhN p0_ x.1 x.2)
variable {p0_ out_29 i_20 out_30}
theorem Ns (x:((List (List Aa))×Int)) (z:(((List (List Aa))×Int)⊕(List (List Aa)))) (H:Es n p0_ x.1 x.2=some z):WP (cxk 23 0) (Aw Tryz.f94) [1,1,0,1,0,0] (Av 0 (Iy p0_) (Ou) z) (Iy p0_ x):=by
 obtain ⟨out_29,i_20⟩:=x
 refine sq (sr (ck 3 (sp (Ay Au p0_.F) (ck 1 (en (cn H (λ H=>?_) (λ H=>?_)))))))
 ·exact sk (qz (sq (bk 1 (rz (ck 4 (bx H λ x66 h260 H=>sp (Am Au h260) (ck 1 (bx H λ r108 h261 H=>ca false (Kx h261) (ck 1 (bx H λ l25 h262 H=>sp (Ba (eL Ac) 1 1 h262) (ck 1 (ae (qN (qz (rz (ck 3 (ae (by cases H;exact og (sg [1,3,4])))))))))))))))))))
 ·exact ex 0 (qx (by cases H;exact xo rfl (sg [3])))
theorem GU {z} (H:FC n p0_=some z):Ar Tryz.prog 94 [.agg (AG p0_)] (.own 1 (z.map (eL Ac))):=by
 exact fO 23 (JhM p0_) Tryz.func94 (sr (ck 2 (en (sr (ck 2 (en (sq (sr (ck 1 (en (bk 0 (bx H λ y81 h263 H=>lX Ns h263 (sg [1,3,4]) rfl λ s hE60=>qH (qs (hE60) (sr (ck 2 (en (re (by cases H;exact pr (rO (v:=.osl 0 1 0 (z.length)) [0] (ao vo))))))))))))))))))))
end
section
variable (p0_:(List Aa)) (p1_:(List Aa)) (out_31:Int) (i_21:Int) (out_32:Int) (out_33:Int) (k_12:Int) (out_34:Int) (out_35:Int)
def Jeb:St:=⟨(0,.d (.sl (p0_.map Ac)))::(1,.d (.sl (p1_.map Ac)))::[],[]⟩
def Jec:St:=⟨(0,.d (.sl (p0_.map Ac)))::(1,.d (.sl (p1_.map Ac)))::(5,.d (.int .i64 out_31))::(6,.d (.int .i64 i_21))::[],[]⟩
def Jed:St:=⟨(5,.d (.int .i64 out_32))::[],[]⟩
def Jee:St:=⟨(0,.d (.sl (p0_.map Ac)))::(1,.d (.sl (p1_.map Ac)))::(5,.d (.int .i64 out_33))::(6,.d (.int .i64 i_21))::(7,.d (.int .i64 k_12))::[],[]⟩
def Jef:St:=⟨(0,.d (.sl (p0_.map Ac)))::(1,.d (.sl (p1_.map Ac)))::(5,.d (.int .i64 out_34))::(6,.d (.int .i64 i_21))::[],[]⟩
def Jeg:St:=⟨(0,.d (.sl (p0_.map Ac)))::(1,.d (.sl (p1_.map Ac)))::(5,.d (.int .i64 out_35))::(6,.d (.int .i64 i_21))::(7,.d (.int .i64 k_12))::[],[]⟩
def Ms:Int->Ex->St->Prop:=xX 0 2 (λ (y:Int)=>Jef p0_ p1_ i_21 y)
def GV:(Int×Int)->St:=(λ (x:(Int×Int))=>Jee p0_ p1_ i_21 x.1 x.2)
def Mt:Int->Ex->St->Prop:=xX 0 0 (λ (y:Int)=>Jed y)
def GW:(Int×Int)->St:=(λ (x:(Int×Int))=>Jec p0_ p1_ x.1 x.2)
variable {p0_ p1_ out_31 i_21 out_32 out_33 k_12 out_34 out_35}
theorem Ln (x:(Int×Int)) (z:((Int×Int)⊕Int)) (H:B5 n p0_ p1_ i_21 x.1 x.2=some z):WP (cxk 39 0) (Aw Tryz.f106) [1,1,0,1,0,0,1,0,0,1,0,0] (Av 0 (GV p0_ p1_ i_21) (Ms p0_ p1_ i_21) z) (GV p0_ p1_ i_21 x):=by
 obtain ⟨out_33,k_12⟩:=x
 refine sq (sr (ck 2 (sp (Ay Ac p1_) (ck 1 (en (cn H (λ H=>?_) (λ H=>?_)))))))
 ·refine sk (qz (sj (λ (x:Int)=>Jeg p0_ p1_ i_21 k_12 x) (λ (x:Int)=>Cy n k_12 x) z ?_ (λ hFR12_Distance_J1=>?_)))
  ·intro out_35 H
   exact rz (ck 3 (ae (by cases H;exact og (sg [0,1,5,6,7]))))
  refine bk 3 (sr (ck 2 (bx H λ x67 h264 H=>sp (Am Ac h264) (ck 3 (bx H λ x68 h265 H=>sp (Am Ac h265) (ck 1 (bx H λ r109 h266 H=>ca true (Pn h266) (ck 1 (en (sr (ck 5 (gc 1 (!(decide (out_33<0))) (pO (en (cn H (λ H=>?_) (λ H=>?_))))))))))))))))
  ·exact rz (ck 2 (ae (qN (qs (sg [0,1,5,6,7]) (hFR12_Distance_J1 r109 H)))))
  ·exact sk (qN (qs (sg [0,1,5,6,7]) (hFR12_Distance_J1 out_33 H)))
 ·exact ex 2 (qx (by cases H;exact xo rfl (sg [0,1,5,6])))
theorem Lp (x:(Int×Int)) (z:((Int×Int)⊕Int)) (H:B6 n p0_ p1_ x.1 x.2=some z):WP (cxk 39 0) (Aw Tryz.f106) [1,1,0,1,0,0] (Av 0 (GW p0_ p1_) (Mt) z) (GW p0_ p1_ x):=by
 obtain ⟨out_31,i_21⟩:=x
 refine sq (sr (ck 2 (sp (Ay Ac p0_) (ck 1 (en (cn H (λ H=>?_) (λ H=>?_)))))))
 ·exact sk (qz (sq (bk 1 (sr (ck 1 (en (bk 2 (bx H λ y82 h267 H=>lX Ln h267 (sg [0,1,5,6,7]) rfl λ s hE61=>qH (qN (qs (hE61) (rz (ck 3 (ae (by cases H;exact og (sg [0,1,5,6])))))))))))))))
 ·exact ex 0 (qx (by cases H;exact xo rfl (sg [5])))
theorem B9 {z} (H:BB n p0_ p1_=some z):Ar Tryz.prog 106 [.d (.sl (p0_.map Ac)),.d (.sl (p1_.map Ac))] (.d (.int .i64 z)):=by
 exact fO 39 (Jeb p0_ p1_) Tryz.func106 (sr (ck 1 (en (sr (ck 1 (en (sq (sr (ck 1 (en (bk 0 (bx H λ y83 h268 H=>lX Lp h268 (sg [0,1,5,6]) rfl λ s hE62=>qH (qs (hE62) (sr (ck 2 (en (re (by cases H;exact pr rd))))))))))))))))))
end
section
variable (p0_:Af) (r111:(List (List Aa))) (out_36:(List (List Int))) (i_22:Int) (out_37:(List (List Int))) (row_1:(List Int)) (k_13:Int) (row_2:(List Int))
def JhP:St:=⟨(0,.agg [.d (.int .i64 p0_.W),.d (.int .i64 p0_.H),.d (.int .i64 p0_.Gap),.d (.sl (p0_.F.map Au))])::[],[]⟩
def JhQ:St:=⟨(3,.osl 0 1 0 (out_36.length))::(4,.d (.sl (r111.map (eL Ac))))::(5,.d (.int .i64 i_22))::[],[some (.arr 1 (out_36.map (eL A9)))]⟩
def JhR:St:=⟨(3,.osl 0 1 0 (out_37.length))::[],[some (.arr 1 (out_37.map (eL A9)))]⟩
def JhS:St:=⟨(3,.osl 0 1 0 (out_36.length))::(4,.d (.sl (r111.map (eL Ac))))::(5,.d (.int .i64 i_22))::(6,.osl 1 1 0 (row_1.length))::(7,.d (.int .i64 k_13))::[],[some (.arr 1 (out_36.map (eL A9))),some (.arr 1 (row_1.map A9))]⟩
def JhT:St:=⟨(3,.osl 0 1 0 (out_36.length))::(4,.d (.sl (r111.map (eL Ac))))::(5,.d (.int .i64 i_22))::(6,.osl 1 1 0 (row_2.length))::[],[some (.arr 1 (out_36.map (eL A9))),some (.arr 1 (row_2.map A9))]⟩
def Lq:(List Int)->Ex->St->Prop:=xX 0 2 (λ (y:(List Int))=>JhT r111 out_36 i_22 y)
def FW:((List Int)×Int)->St:=(λ (x:((List Int)×Int))=>JhS r111 out_36 i_22 x.1 x.2)
def Lr:(List (List Int))->Ex->St->Prop:=xX 0 0 (λ (y:(List (List Int)))=>JhR y)
def FX:((List (List Int))×Int)->St:=(λ (x:((List (List Int))×Int))=>JhQ r111 x.1 x.2)
variable {p0_ r111 out_36 i_22 out_37 row_1 k_13 row_2}
theorem Ky (x:((List Int)×Int)) (z:(((List Int)×Int)⊕(List Int))) (H:CZ n r111 out_36 i_22 x.1 x.2=some z):WP (cxk 44 0) (Aw Tryz.f95) [1,1,1,0,1,0,0,1,0,0,1,0,1,0,0] (Av 0 (FW r111 out_36 i_22) (Lq r111 out_36 i_22) z) (FW r111 out_36 i_22 x):=by
 obtain ⟨row_1,k_13⟩:=x
 refine sq (sr (ck 2 (sp (Ay (eL Ac) r111) (ck 1 (en (cn H (λ H=>?_) (λ H=>?_)))))))
 ·exact sk (qz (sq (bk 3 (rz (ck 3 (bx H λ x69 h271 H=>sp (Am (eL Ac) h271) (ck 3 (bx H λ x70 h272 H=>sp (Am (eL Ac) h272) (ck 1 (bx H λ r112 h273 H=>ca false (B9 h273) (ck 1 (bx H λ l26 h274 H=>sp (Ba A9 1 1 h274) (ck 1 (ae (qN (qz (rz (ck 3 (ae (by cases H;exact og (sg [3,4,5,6,7])))))))))))))))))))))
 ·exact ex 2 (qx (by cases H;exact xo rfl (sg [3,4,5,6])))
theorem Kz (x:((List (List Int))×Int)) (z:(((List (List Int))×Int)⊕(List (List Int)))) (H:C0 n r111 x.1 x.2=some z):WP (cxk 44 0) (Aw Tryz.f95) [1,1,1,0,1,0,0] (Av 0 (FX r111) (Lr) z) (FX r111 x):=by
 obtain ⟨out_36,i_22⟩:=x
 refine sq (sr (ck 2 (sp (Ay (eL Ac) r111) (ck 1 (en (cn H (λ H=>?_) (λ H=>?_)))))))
 ·exact sk (qz (sq (bk 1 (sr (ck 2 (en (sq (sr (ck 1 (en (bk 2 (bx H λ y84 h275 H=>lX Ky h275 (sg [3,4,5,6,7]) rfl λ s hE63=>qH (qs (hE63) (rg (fz (enc:=A9) (xs:=y84) 6 1 1) (ck 3 (bx H λ l27 h276 H=>sp (Ba (eL A9) 0 1 h276) (ck 1 (ae (qN (qz (rz (ck 3 (ae (by cases H;exact og (sg [3,4,5])))))))))))))))))))))))))
 ·exact ex 0 (qx (by cases H;exact xo rfl (sg [3])))
theorem Nt {z} (H:GN n p0_=some z):Ar Tryz.prog 95 [.agg (AG p0_)] (.own 1 (z.map (eL A9))):=by
 refine fO 44 (JhP p0_) Tryz.func95 (sr (ck 2 (en (sq (sr (ck 1 (bx H λ r110 h269 H=>ca false (LV h269) (ck 1 (en (cn H (λ H=>?_) (λ H=>?_)))))))))))
 ·exact sr (ck 1 (en (re (qr (by cases H;exact pr (rO (v:=.d (.nil)) [] (ad vz)))))))
 ·exact sk (qz (sr (ck 2 (bx H λ r111 h270 H=>ca false (GU h270) (ck 2 (en (sq (sr (ck 1 (en (bk 0 (bx H λ y85 h277 H=>lX Kz h277 (sg [3,4,5]) rfl λ s hE64=>qH (qs (hE64) (sr (ck 2 (en (re (by cases H;exact pr (rO (v:=.osl 0 1 0 (z.length)) [0] (ao vo))))))))))))))))))))
end
section
variable (p0_:(List Aa)) (p1_:Aa) (i_23:Int)
def Jeh:St:=⟨(0,.d (.sl (p0_.map Ac)))::(1,.agg [.d (.int .i64 p1_.X),.d (.int .i64 p1_.Y)])::[],[]⟩
def Jei:St:=⟨(0,.d (.sl (p0_.map Ac)))::(3,.ptr 0 0)::(5,.d (.int .i64 i_23))::[],[some (.box [.d (.int .i64 p1_.X),.d (.int .i64 p1_.Y)])]⟩
def Jej:St:=⟨[],[]⟩
def Sj:(Unit⊕Bool)->Ex->St->Prop:=xS (xX 0 0 (λ (y:Unit)=>Jej)) (xR ty Tryz.f108 (λ (y:Bool)=>.d (.bool y)))
def LW:Int->St:=(λ (x:Int)=>Jei p0_ p1_ x)
variable {p0_ p1_ i_23}
theorem KA (x:Int) (z:(Int⊕(Unit⊕Bool))) (H:Hu n p0_ p1_ x=some z):WP (cxk 18 0) (Aw Tryz.f108) [1,0,1,0,0] (Av 0 (LW p0_ p1_) (Sj) z) (LW p0_ p1_ x):=by
 revert H
 generalize x=i_23
 intro H
 refine sq (sr (ck 2 (sp (Ay Ac p0_) (ck 1 (en (cn H (λ H=>?_) (λ H=>?_)))))))
 ·refine sk (qz (sq (bk 1 (sr (ck 2 (bx H λ x71 h278 H=>sp (Am Ac h278) (ck 3 (en (cn H (λ H=>?_) (λ H=>?_))))))))))
  ·exact sr (ck 1 (en (re (qR (qr (by cases H;exact ro rfl rd))))))
  ·exact sk (qN (qz (rz (ck 3 (ae (by cases H;exact og (sg [0,3,5])))))))
 ·exact ex 0 (qx (by cases H;exact xo rfl (sg [])))
theorem KB {z} (H:Kh n p0_ p1_=some z):Ar Tryz.prog 108 [.d (.sl (p0_.map Ac)),.agg [.d (.int .i64 p1_.X),.d (.int .i64 p1_.Y)]] (.d (.bool z)):=by
 refine fO 18 (Jeh p0_ p1_) Tryz.func108 (sr (ck 2 (en (sq (sr (ck 1 (en (bk 0 (bx H λ y86 h279 H=>?_)))))))))
 rcases y86 with y87|y88
 ·exact lX KA h279 (sg [0,3,5]) rfl λ s hE65=>qH (qs (hE65) (sr (ck 1 (en (re (by cases H;exact pr rd))))))
 ·exact lR KA h279 (sg [0,3,5]) rfl λ s hE66=>qR (qr (by cases H;exact pr hE66))
end
section
variable (p0_:Aa) (p1_:Aa)
def Jek:St:=⟨(0,.agg [.d (.int .i64 p0_.X),.d (.int .i64 p0_.Y)])::(1,.agg [.d (.int .i64 p1_.X),.d (.int .i64 p1_.Y)])::[],[]⟩
variable {p0_ p1_}
theorem Rw {z} (H:Pj n p0_ p1_=some z):Ar Tryz.prog 119 [.agg [.d (.int .i64 p0_.X),.d (.int .i64 p0_.Y)],.agg [.d (.int .i64 p1_.X),.d (.int .i64 p1_.Y)]] (.d (.bool z)):=by
 exact fO 24 (Jek p0_ p1_) Tryz.func119 (sr (ck 3 (en (sr (ck 7 (gc 1 (!(decide (p0_.Y<p1_.Y))) (ck 1 (gc 3 (!(decide (p0_.Y<p1_.Y))) (ck 1 (gc 1 ((!(decide (p0_.Y<p1_.Y)))&&(p0_.Y==p1_.Y)) (ck 1 (gc 2 ((!(decide (p0_.Y<p1_.Y)))&&(p0_.Y==p1_.Y)) (pG (g:=(!(decide (p0_.Y<p1_.Y)))) (v:=.d (.bool ((p0_.Y==p1_.Y)&&(decide (p0_.X<p1_.X))))) (λ hg=>DW (c:=.gv (!(decide (p0_.Y<p1_.Y))) (.d (.bool (p0_.Y==p1_.Y)))) (a:=.gv ((!(decide (p0_.Y<p1_.Y)))&&(p0_.Y==p1_.Y)) (.d (.bool (decide (p0_.X<p1_.X))))) (b:=.d (.bool false)) rfl rfl rfl ((λ hh=>hh) hg) (λ ht=>by rw [(λ hh=>hh) hg,ht];rfl) trivial) (pO (ck 1 (en (re (by cases H;exact pr rd))))))))))))))))))
end
section
variable (p0_:(List Aa)) (out_38:(List Aa)) (i_24:Int) (out_39:(List Aa)) (out_40:(List Aa)) (at_2:Int) (at_3:Int)
def Jel:St:=⟨(0,.d (.sl (p0_.map Ac)))::[],[]⟩
def Jem:St:=⟨(0,.d (.sl (p0_.map Ac)))::(3,.osl 0 2 0 (out_38.length))::(4,.d (.int .i64 i_24))::[],[some (.arr 2 (out_38.map Ac))]⟩
def Jen:St:=⟨(3,.osl 0 2 0 (out_39.length))::[],[some (.arr 2 (out_39.map Ac))]⟩
def Jeo:St:=⟨(0,.d (.sl (p0_.map Ac)))::(3,.osl 0 2 0 (out_40.length))::(4,.d (.int .i64 i_24))::[],[some (.arr 2 (out_40.map Ac))]⟩
def Jep:St:=⟨(0,.d (.sl (p0_.map Ac)))::(3,.osl 0 2 0 (out_38.length))::(4,.d (.int .i64 i_24))::(5,.d (.int .i64 at_2))::[],[some (.arr 2 (out_38.map Ac))]⟩
def Jeq:St:=⟨(0,.d (.sl (p0_.map Ac)))::(3,.osl 0 2 0 (out_38.length))::(4,.d (.int .i64 i_24))::(5,.d (.int .i64 at_3))::[],[some (.arr 2 (out_38.map Ac))]⟩
def Ov:Int->Ex->St->Prop:=xX 0 2 (λ (y:Int)=>Jeq p0_ out_38 i_24 y)
def Iz:Int->St:=(λ (x:Int)=>Jep p0_ out_38 i_24 x)
def Ow:(List Aa)->Ex->St->Prop:=xX 0 0 (λ (y:(List Aa))=>Jen y)
def IA:((List Aa)×Int)->St:=(λ (x:((List Aa)×Int))=>Jem p0_ x.1 x.2)
variable {p0_ out_38 i_24 out_39 out_40 at_2 at_3}
theorem Nu (x:Int) (z:(Int⊕Int)) (H:GP n p0_ out_38 i_24 x=some z):WP (cxk 56 0) (Aw Tryz.f107) [1,1,0,1,0,0,1,0,0,1,1,0,0,0] (Av 0 (Iz p0_ out_38 i_24) (Ov p0_ out_38 i_24) z) (Iz p0_ out_38 i_24 x):=by
 revert H
 generalize x=at_2
 intro H
 refine sq (sr (ck 5 (bx H λ x73 h282 H=>sE (λ hg=>Am Ac (Bd h282 hg)) (gc 1 (decide (at_2>0)) (ck 2 (gc 1 (decide (at_2>0)) (bx H λ x74 h283 H=>sE (λ hg=>A2 0 2 (Bd h283 hg)) (sE (g:=decide (at_2>0)) (λ hg=>Bs Ac 0 0 (ty 124) (Bd h283 hg)) (bx H λ r114 h284 H=>cG false (leZ) rfl (λ hg=>Rw (Bd h284 hg)) (Or.inl rfl) (Cc (λ hh=>hh) (Cc (λ hh=>hh) (Dd))) rfl (pA (en (cn H (λ H=>?_) (λ H=>?_)))))))))))))
 ·exact sk (qz (bk 3 (rz (ck 3 (ae (qN (by cases H;exact og (sg [0,3,4,5]))))))))
 ·exact ex 2 (qx (by cases H;exact xo rfl (sg [0,3,4,5])))
theorem Nv (x:((List Aa)×Int)) (z:(((List Aa)×Int)⊕(List Aa))) (H:Et n p0_ x.1 x.2=some z):WP (cxk 56 0) (Aw Tryz.f107) [1,1,0,1,0,0] (Av 0 (IA p0_) (Ow) z) (IA p0_ x):=by
 obtain ⟨out_38,i_24⟩:=x
 refine sq (sr (ck 2 (sp (Ay Ac p0_) (ck 1 (en (cn H (λ H=>?_) (λ H=>?_)))))))
 ·refine sk (qz (sj (λ (x:(List Aa))=>Jeo p0_ i_24 x) (λ (x:(List Aa))=>GO n i_24 x) z ?_ (λ hFR12_Sorted_J1=>?_)))
  ·intro out_40 H
   exact rz (ck 3 (ae (by cases H;exact og (sg [0,3,4]))))
  refine bk 1 (sq (sr (ck 3 (bx H λ x72 h280 H=>sp (Am Ac h280) (ck 1 (bx H λ r113 h281 H=>cb (ks:=[0]) (obl:=[(0+List.length out_38,List.length (out_38.map Ac))]) false (leK leM (leZ)) (CO GB (CO rfl rfl)) (KB h281) (Or.inr trivial) rfl (en (cn H (λ H=>?_) (λ H=>?_)))))))))
  ·exact ex 1 (qx (qH (qs (sg [0,3,4]) (hFR12_Sorted_J1 out_38 H))))
  ·exact sk (qz (sr (ck 3 (en (sq (bk 2 (bx H λ y89 h285 H=>lX Nu h285 (sg [0,3,4,5]) rfl λ s hE67=>qH (qs (hE67) (sr (ck 3 (bx H λ l28 h286 H=>sp (Mf 0 2 h286) (bx H λ l29 h287 H=>sp (Jc5 Ac 1 2 (PZ h286) (TG (enc:=Ac) h286) h287) (ck 1 (en (sr (ck 2 (bx H λ l30 h288 H=>sp (Mf 0 2 h288) (ck 2 (bx H λ x75 h289 H=>sp (Am Ac h289) (ck 2 (bx H λ l31 h290 H=>sp (Jc6 Ac 0 2 (PZ h288) (TG (enc:=Ac) h288) (XM h288) GA (leM (enc:=Ac) (xs:=[x75])) h290) (ck 1 (en (rz (ck 2 (bx H λ l32 h291 H=>sp (Ba Ac 4 2 h291) (ck 1 (ae (qN (qs (sg [0,3,4]) (hFR12_Sorted_J1 l32 H)))))))))))))))))))))))))))))))
 ·exact ex 0 (qx (by cases H;exact xo rfl (sg [3])))
theorem KC {z} (H:Hv n p0_=some z):Ar Tryz.prog 107 [.d (.sl (p0_.map Ac))] (.own 2 (z.map Ac)):=by
 exact fO 56 (Jel p0_) Tryz.func107 (sr (ck 1 (en (sr (ck 2 (en (sq (sr (ck 1 (en (bk 0 (bx H λ y90 h292 H=>lX Nv h292 (sg [0,3,4]) rfl λ s hE68=>qH (qs (hE68) (sr (ck 2 (en (re (by cases H;exact pr (rO (v:=.osl 0 2 0 (z.length)) [0] (ao vo))))))))))))))))))))
end
end Go.AI
end
section
namespace Go.AI
open Go.Proofs
set_option maxRecDepth 10000
variable {n:Nat}
section
variable (p0_:(List Aa)) (p1_:Int) (rest_1:(List Aa)) (out_41:(List (List Aa))) (out_42:(List (List Aa))) (one_1:(List Aa)) (grown_1:Bool) (one_2:(List Aa)) (one_3:(List Aa)) (grown_2:Bool) (i_25:Int) (one_4:(List Aa)) (grown_3:Bool) (one_5:(List Aa)) (grown_4:Bool) (y92:(List Aa)) (left_1:(List Aa)) (i_26:Int) (left_2:(List Aa)) (left_3:(List Aa))
def JhU:St:=⟨(0,.d (.sl (p0_.map Ac)))::(1,.d (.int .i64 p1_))::[],[]⟩
def JhV:St:=⟨(1,.d (.int .i64 p1_))::(5,.osl 0 2 0 (rest_1.length))::(6,.osl 1 1 0 (out_41.length))::[],[some (.arr 2 (rest_1.map Ac)),some (.arr 1 (out_41.map (eL Ac)))]⟩
def JhW:St:=⟨(6,.osl 0 1 0 (out_42.length))::[],[some (.arr 1 (out_42.map (eL Ac)))]⟩
def JhX:St:=⟨(1,.d (.int .i64 p1_))::(5,.osl 0 2 0 (rest_1.length))::(6,.osl 1 1 0 (out_41.length))::(7,.osl 2 2 0 (one_1.length))::(8,.d (.bool grown_1))::[],[some (.arr 2 (rest_1.map Ac)),some (.arr 1 (out_41.map (eL Ac))),some (.arr 2 (one_1.map Ac))]⟩
def JhY:St:=⟨(1,.d (.int .i64 p1_))::(5,.osl 0 2 0 (rest_1.length))::(6,.osl 1 1 0 (out_41.length))::(7,.osl 2 2 0 (one_2.length))::[],[some (.arr 2 (rest_1.map Ac)),some (.arr 1 (out_41.map (eL Ac))),some (.arr 2 (one_2.map Ac))]⟩
def JhZ:St:=⟨(1,.d (.int .i64 p1_))::(5,.osl 0 2 0 (rest_1.length))::(6,.osl 1 1 0 (out_41.length))::(7,.osl 2 2 0 (one_3.length))::(8,.d (.bool grown_2))::(9,.d (.int .i64 i_25))::[],[some (.arr 2 (rest_1.map Ac)),some (.arr 1 (out_41.map (eL Ac))),some (.arr 2 (one_3.map Ac))]⟩
def Jh0:St:=⟨(1,.d (.int .i64 p1_))::(5,.osl 0 2 0 (rest_1.length))::(6,.osl 1 1 0 (out_41.length))::(7,.osl 2 2 0 (one_4.length))::(8,.d (.bool grown_3))::[],[some (.arr 2 (rest_1.map Ac)),some (.arr 1 (out_41.map (eL Ac))),some (.arr 2 (one_4.map Ac))]⟩
def Jh1:St:=⟨(1,.d (.int .i64 p1_))::(5,.osl 0 2 0 (rest_1.length))::(6,.osl 1 1 0 (out_41.length))::(7,.osl 2 2 0 (one_5.length))::(8,.d (.bool grown_4))::(9,.d (.int .i64 i_25))::[],[some (.arr 2 (rest_1.map Ac)),some (.arr 1 (out_41.map (eL Ac))),some (.arr 2 (one_5.map Ac))]⟩
def Mv:((List Aa)×Bool)->Ex->St->Prop:=xX 0 4 (λ (y:((List Aa)×Bool))=>Jh0 p1_ rest_1 out_41 y.1 y.2)
def GX:((List Aa)×Bool×Int)->St:=(λ (x:((List Aa)×Bool×Int))=>JhZ p1_ rest_1 out_41 x.1 x.2.1 x.2.2)
def Mw:(List Aa)->Ex->St->Prop:=xX 0 2 (λ (y:(List Aa))=>JhY p1_ rest_1 out_41 y)
def GY:((List Aa)×Bool)->St:=(λ (x:((List Aa)×Bool))=>JhX p1_ rest_1 out_41 x.1 x.2)
def Jh2:St:=⟨(1,.d (.int .i64 p1_))::(5,.osl 0 2 0 (rest_1.length))::(6,.osl 1 1 0 (out_41.length))::(7,.osl 2 2 0 (y92.length))::(10,.osl 3 2 0 (left_1.length))::(11,.d (.int .i64 i_26))::[],[some (.arr 2 (rest_1.map Ac)),some (.arr 1 (out_41.map (eL Ac))),some (.arr 2 (y92.map Ac)),some (.arr 2 (left_1.map Ac))]⟩
def Jer:St:=⟨(1,.d (.int .i64 p1_))::(6,.osl 0 1 0 (out_41.length))::(7,.osl 1 2 0 (y92.length))::(10,.osl 2 2 0 (left_2.length))::[],[some (.arr 1 (out_41.map (eL Ac))),some (.arr 2 (y92.map Ac)),some (.arr 2 (left_2.map Ac))]⟩
def Jes:St:=⟨(1,.d (.int .i64 p1_))::(5,.osl 0 2 0 (rest_1.length))::(6,.osl 1 1 0 (out_41.length))::(7,.osl 2 2 0 (y92.length))::(10,.osl 3 2 0 (left_3.length))::(11,.d (.int .i64 i_26))::[],[some (.arr 2 (rest_1.map Ac)),some (.arr 1 (out_41.map (eL Ac))),some (.arr 2 (y92.map Ac)),some (.arr 2 (left_3.map Ac))]⟩
def Mx:(List Aa)->Ex->St->Prop:=xX 0 6 (λ (y:(List Aa))=>Jer p1_ out_41 y92 y)
def GZ:((List Aa)×Int)->St:=(λ (x:((List Aa)×Int))=>Jh2 p1_ rest_1 out_41 y92 x.1 x.2)
def My:(List (List Aa))->Ex->St->Prop:=xX 0 0 (λ (y:(List (List Aa)))=>JhW y)
def G0:((List Aa)×(List (List Aa)))->St:=(λ (x:((List Aa)×(List (List Aa))))=>JhV p1_ x.1 x.2)
variable {p0_ p1_ rest_1 out_41 out_42 one_1 grown_1 one_2 one_3 grown_2 i_25 one_4 grown_3 one_5 grown_4 y92 left_1 i_26 left_2 left_3}
theorem Ls (x:((List Aa)×Bool×Int)) (z:(((List Aa)×Bool×Int)⊕((List Aa)×Bool))) (H:Dj n p1_ rest_1 out_41 x.1 x.2.1 x.2.2=some z):WP (cxk 82 0) (Aw Tryz.f96) [1,1,0,0,0,1,0,1,0,1,0,0,1,0,1,1,0,0] (Av 0 (GX p1_ rest_1 out_41) (Mv p1_ rest_1 out_41) z) (GX p1_ rest_1 out_41 x):=by
 obtain ⟨one_3,grown_2,i_25⟩:=x
 refine sq (sr (ck 4 (en (cn H (λ H=>?_) (λ H=>?_)))))
 ·refine sk (qz (sj (λ (x:((List Aa)×Bool))=>Jh1 p1_ rest_1 out_41 i_25 x.1 x.2) (λ (x:((List Aa)×Bool))=>E5 n i_25 x.1 x.2) z ?_ (λ hFR12_Clusters_J1=>?_)))
  ·rintro ⟨one_5,grown_4⟩ H
   exact rz (ck 3 (ae (by cases H;exact og (sg [1,5,6,7,8,9]))))
  refine bk 5 (sr (ck 3 (bx H λ x77 h295 H=>sp (A2 0 2 h295) (sp (Bs Ac 0 0 (ty 124) h295) (bx H λ r116 h296 H=>cb (ks:=[2]) (obl:=[(0+List.length one_3,List.length (one_3.map Ac))]) false (leK leM (leZ)) (CO GB (CO rfl rfl)) (KB h296) (Or.inr trivial) rfl (ck 6 (gc 1 (!r116) (bx H λ l33 h297 H=>sE (λ hg=>Mf 0 2 (Bd h297 hg)) (bx H λ r117 h298 H=>cGg (ks:=[2,0]) (obl:=[(0+List.length one_3,List.length (one_3.map Ac)),((0+Int.toNat i_25)+(Int.toNat (Aj .i64 i_25 1)-Int.toNat i_25),List.length (rest_1.map Ac))]) false (λ hg=>leK leM (leK (TG (enc:=Ac) (Bd h297 hg)) (leZ))) (λ hg=>(CO GB (CO (JjO (PZ (Bd h297 hg))) rfl))) (λ hg=>B9 (Bd h298 hg)) (Or.inr trivial) (Cc (λ hh=>hh) (Cc (λ hh=>hh) (Dd))) rfl (ck 1 (gc 1 (!r116) (pA (en (cn H (λ H=>?_) (λ H=>?_)))))))))))))))
  ·exact sr (ck 3 (bx H λ x78 h299 H=>sp (A2 0 2 h299) (sp (Bs Ac 0 0 (ty 124) h299) (ck 1 (bx H λ l34 h300 H=>sp (Ba Ac 2 2 h300) (ck 1 (en (rz (ck 1 (ae (qN (qs (sg [1,5,6,7,8,9]) (hFR12_Clusters_J1 (l34,true) H)))))))))))))
  ·exact sk (qN (qs (sg [1,5,6,7,8,9]) (hFR12_Clusters_J1 (one_3,grown_2) H)))
 ·exact ex 4 (qx (by cases H;exact xo rfl (sg [1,5,6,7,8])))
theorem Lt (x:((List Aa)×Bool)) (z:(((List Aa)×Bool)⊕(List Aa))) (H:E6 n p1_ rest_1 out_41 x.1 x.2=some z):WP (cxk 82 0) (Aw Tryz.f96) [1,1,0,0,0,1,0,1,0,1,0,0] (Av 0 (GY p1_ rest_1 out_41) (Mw p1_ rest_1 out_41) z) (GY p1_ rest_1 out_41 x):=by
 obtain ⟨one_1,grown_1⟩:=x
 refine sq (sr (ck 1 (en (cn H (λ H=>?_) (λ H=>?_)))))
 ·exact sk (qz (bk 3 (sr (ck 1 (en (sr (ck 1 (en (bk 4 (bx H λ y91 h301 H=>lX Ls h301 (sg [1,5,6,7,8,9]) rfl λ s hE69=>qH (qN (by cases H;exact og (tr (hE69) (sg [1,5,6,7,8]))))))))))))))
 ·exact ex 2 (qx (by cases H;exact xo rfl (sg [1,5,6,7])))
theorem Lu (x:((List Aa)×Int)) (z:(((List Aa)×Int)⊕(List Aa))) (H:Dk n p1_ rest_1 out_41 y92 x.1 x.2=some z):WP (cxk 82 0) (Aw Tryz.f96) [1,1,0,0,0,1,0,1,1,1,0,1,0,0] (Av 0 (GZ p1_ rest_1 out_41 y92) (Mx p1_ out_41 y92) z) (GZ p1_ rest_1 out_41 y92 x):=by
 obtain ⟨left_1,i_26⟩:=x
 refine sq (sr (ck 4 (en (cn H (λ H=>?_) (λ H=>?_)))))
 ·refine sk (qz (sj (λ (x:(List Aa))=>Jes p1_ rest_1 out_41 y92 i_26 x) (λ (x:(List Aa))=>E7 n i_26 x) z ?_ (λ hFR12_Clusters_J2=>?_)))
  ·intro left_3 H
   exact rz (ck 3 (ae (by cases H;exact og (sg [1,5,6,7,10,11]))))
  refine bk 7 (sr (ck 3 (bx H λ x79 h303 H=>sp (A2 0 2 h303) (sp (Bs Ac 0 0 (ty 124) h303) (bx H λ r118 h304 H=>cb (ks:=[2]) (obl:=[(0+List.length y92,List.length (y92.map Ac))]) false (leK leM (leZ)) (CO GB (CO rfl rfl)) (KB h304) (Or.inr trivial) rfl (ck 1 (en (cn H (λ H=>?_) (λ H=>?_)))))))))
  ·exact rz (ck 3 (bx H λ x80 h305 H=>sp (A2 0 2 h305) (sp (Bs Ac 0 0 (ty 124) h305) (ck 1 (bx H λ l35 h306 H=>sp (Ba Ac 3 2 h306) (ck 1 (ae (qN (qs (sg [1,5,6,7,10,11]) (hFR12_Clusters_J2 l35 H))))))))))
  ·exact sk (qN (qs (sg [1,5,6,7,10,11]) (hFR12_Clusters_J2 left_1 H)))
 ·exact ex 6 (qx (by cases H;exact xo rfl (sg [1,6,7,10])))
theorem Lv (x:((List Aa)×(List (List Aa)))) (z:(((List Aa)×(List (List Aa)))⊕(List (List Aa)))) (H:E8 n p1_ x.1 x.2=some z):WP (cxk 82 0) (Aw Tryz.f96) [1,1,0,0,0] (Av 0 (G0 p1_) (My) z) (G0 p1_ x):=by
 obtain ⟨rest_1,out_41⟩:=x
 refine sq (sr (ck 3 (en (cn H (λ H=>?_) (λ H=>?_)))))
 ·exact sk (qz (bk 1 (sr (ck 1 (bx H λ x76 h294 H=>sp (A2 0 2 h294) (sp (Bs Ac 0 0 (ty 124) h294) (ck 2 (en (sq (sr (ck 1 (en (bk 2 (bx H λ y92 h302 H=>lX Lt h302 (sg [1,5,6,7,8]) rfl λ s hE70=>qH (qs (hE70) (sr (ck 2 (en (sq (sr (ck 1 (en (bk 6 (bx H λ y93 h307 H=>lX Lu h307 (sg [1,5,6,7,10,11]) rfl λ s hE71=>qH (qs (hE71) (rz (ck 3 (bx H λ r119 h308 H=>cb (ks:=[1]) (obl:=[(0+List.length y92,List.length (y92.map Ac))]) false (leK leM (leZ)) (CO GB rfl) (KC h308) (Or.inr (Jc1 λ _=>rfl)) rfl (ck 1 (bx H λ l36 h309 H=>sp (Ba (eL Ac) 0 1 h309) (ck 2 (ae (qN (by cases H;exact og (sg [1,5,6])))))))))))))))))))))))))))))))))))
 ·exact ex 0 (qx (by cases H;exact xo rfl (sg [6])))
theorem Ox {z} (H:HT n p0_ p1_=some z):Ar Tryz.prog 96 [.d (.sl (p0_.map Ac)),.d (.int .i64 p1_)] (.own 1 (z.map (eL Ac))):=by
 exact fO 82 (JhU p0_ p1_) Tryz.func96 (sr (ck 1 (en (sr (ck 1 (bx H λ r115 h293 H=>cl [List.length r115] (KC h293) (ck 3 (en (sq (bk 0 (bx H λ y94 h310 H=>lX Lv h310 (sg [1,5,6]) rfl λ s hE72=>qH (qs (hE72) (sr (ck 2 (en (re (by cases H;exact pr (rO (v:=.osl 0 1 0 (z.length)) [0] (ao vo)))))))))))))))))))
end
section
variable (p0_:Af) (r121:(List (List Aa))) (r122:(List (List Int))) (i_27:Int) (i_28:Int) (k_14:Int)
def Jh3:St:=⟨(0,.agg [.d (.int .i64 p0_.W),.d (.int .i64 p0_.H),.d (.int .i64 p0_.Gap),.d (.sl (p0_.F.map Au))])::[],[]⟩
def Jh4:St:=⟨(1,.ptr 0 0)::(2,.ptr 1 0)::(3,.d (.sl (r121.map (eL Ac))))::(4,.d (.sl (r122.map (eL A9))))::(5,.d (.int .i64 i_27))::[],[some (.box (AG p0_)),some (.box [.d (.int .i64 0),.d (.int .i64 0),.d (.int .i64 0)])]⟩
def Jh5:St:=⟨(1,.ptr 0 0)::(2,.ptr 1 0)::(3,.d (.sl (r121.map (eL Ac))))::(4,.d (.sl (r122.map (eL A9))))::[],[some (.box (AG p0_)),some (.box [.d (.int .i64 0),.d (.int .i64 0),.d (.int .i64 0)])]⟩
def PF:(Unit⊕Cl)->Ex->St->Prop:=xS (xX 0 0 (λ (y:Unit)=>Jh5 p0_ r121 r122)) (xR ty Tryz.f83 (λ (y:Cl)=>.agg [.d (.int .i64 y.I),.d (.int .i64 y.J),.d (.int .i64 y.E)]))
def JD:Int->St:=(λ (x:Int)=>Jh4 p0_ r121 r122 x)
def Jh6:St:=⟨(1,.ptr 0 0)::(2,.ptr 1 0)::(3,.d (.sl (r121.map (eL Ac))))::(4,.d (.sl (r122.map (eL A9))))::(6,.d (.int .i64 i_28))::[],[some (.box (AG p0_)),some (.box [.d (.int .i64 0),.d (.int .i64 0),.d (.int .i64 0)])]⟩
def Jh7:St:=⟨(2,.ptr 0 0)::[],[some (.box [.d (.int .i64 0),.d (.int .i64 0),.d (.int .i64 0)])]⟩
def Jh8:St:=⟨(1,.ptr 0 0)::(2,.ptr 1 0)::(3,.d (.sl (r121.map (eL Ac))))::(4,.d (.sl (r122.map (eL A9))))::(6,.d (.int .i64 i_28))::(7,.d (.int .i64 k_14))::[],[some (.box (AG p0_)),some (.box [.d (.int .i64 0),.d (.int .i64 0),.d (.int .i64 0)])]⟩
def Jh9:St:=⟨(1,.ptr 0 0)::(2,.ptr 1 0)::(3,.d (.sl (r121.map (eL Ac))))::(4,.d (.sl (r122.map (eL A9))))::(6,.d (.int .i64 i_28))::[],[some (.box (AG p0_)),some (.box [.d (.int .i64 0),.d (.int .i64 0),.d (.int .i64 0)])]⟩
def PG:(Unit⊕Cl)->Ex->St->Prop:=xS (xX 0 4 (λ (y:Unit)=>Jh9 p0_ r121 r122 i_28)) (xR ty Tryz.f83 (λ (y:Cl)=>.agg [.d (.int .i64 y.I),.d (.int .i64 y.J),.d (.int .i64 y.E)]))
def JE:Int->St:=(λ (x:Int)=>Jh8 p0_ r121 r122 i_28 x)
def PH:(Unit⊕Cl)->Ex->St->Prop:=xS (xX 0 2 (λ (y:Unit)=>Jh7)) (xR ty Tryz.f83 (λ (y:Cl)=>.agg [.d (.int .i64 y.I),.d (.int .i64 y.J),.d (.int .i64 y.E)]))
def JF:Int->St:=(λ (x:Int)=>Jh6 p0_ r121 r122 x)
variable {p0_ r121 r122 i_27 i_28 k_14}
theorem IB (x:Int) (z:(Int⊕(Unit⊕Cl))) (H:Fk n p0_ r121 r122 x=some z):WP (cxk 62 0) (Aw Tryz.f83) [1,1,1,0,1,0,0] (Av 0 (JD p0_ r121 r122) (PF p0_ r121 r122) z) (JD p0_ r121 r122 x):=by
 revert H
 generalize x=i_27
 intro H
 refine sq (sr (ck 2 (sp (Ay (eL Ac) r121) (ck 1 (en (cn H (λ H=>?_) (λ H=>?_)))))))
 ·refine sk (qz (sq (bk 1 (sr (ck 2 (bx H λ x81 h314 H=>sp (Am (eL Ac) h314) (ck 3 (bx H λ r123 h315 H=>ca false (Ox h315) (sp (Ay (eL Ac) r123) (ck 1 (en (cn H (λ H=>?_) (λ H=>?_)))))))))))))
  ·exact sr (ck 4 (en (re (qR (qr (by cases H;exact ro rfl rd))))))
  ·exact sk (qN (qz (rz (ck 3 (ae (by cases H;exact og (sg [1,2,3,4,5])))))))
 ·exact ex 0 (qx (by cases H;exact xo rfl (sg [1,2,3,4])))
theorem IC (x:Int) (z:(Int⊕(Unit⊕Cl))) (H:HU n p0_ r121 r122 i_28 x=some z):WP (cxk 62 0) (Aw Tryz.f83) [1,1,1,1,0,1,0,0,1,0,0,1,0,0] (Av 0 (JE p0_ r121 r122 i_28) (PG p0_ r121 r122 i_28) z) (JE p0_ r121 r122 i_28 x):=by
 revert H
 generalize x=k_14
 intro H
 refine sq (sr (ck 2 (sp (Ay (eL Ac) r121) (ck 1 (en (cn H (λ H=>?_) (λ H=>?_)))))))
 ·refine sk (qz (sq (bk 5 (sr (ck 2 (bx H λ x82 h317 H=>sp (Am (eL A9) h317) (ck 2 (bx H λ x83 h318 H=>sp (Am A9 h318) (ck 4 (en (cn H (λ H=>?_) (λ H=>?_))))))))))))
  ·exact sr (ck 4 (en (re (qR (qr (by cases H;exact ro rfl rd))))))
  ·exact sk (qN (qz (rz (ck 3 (ae (by cases H;exact og (sg [1,2,3,4,6,7])))))))
 ·exact ex 4 (qx (by cases H;exact xo rfl (sg [1,2,3,4,6])))
theorem ID (x:Int) (z:(Int⊕(Unit⊕Cl))) (H:Dw n p0_ r121 r122 x=some z):WP (cxk 62 0) (Aw Tryz.f83) [1,1,1,1,0,1,0,0] (Av 0 (JF p0_ r121 r122) (PH) z) (JF p0_ r121 r122 x):=by
 revert H
 generalize x=i_28
 intro H
 refine sq (sr (ck 2 (sp (Ay (eL Ac) r121) (ck 1 (en (cn H (λ H=>?_) (λ H=>?_)))))))
 ·refine sk (qz (sq (bk 3 (sr (ck 3 (en (bk 4 (bx H λ y98 h319 H=>?_))))))))
  rcases y98 with y99|y100
  ·exact lX IC h319 (sg [1,2,3,4,6,7]) rfl λ s hE74=>qH (qN (qs (hE74) (rz (ck 3 (ae (by cases H;exact og (sg [1,2,3,4,6])))))))
  ·exact lR IC h319 (sg [1,2,3,4,6,7]) rfl λ s hE75=>qR (qR (qr (by cases H;exact ro rfl hE75)))
 ·exact ex 2 (qx (by cases H;exact xo rfl (sg [2])))
theorem Sk {z} (H:Mj n p0_=some z):Ar Tryz.prog 83 [.agg (AG p0_)] (.agg [.d (.int .i64 z.I),.d (.int .i64 z.J),.d (.int .i64 z.E)]):=by
 refine fO 62 (Jh3 p0_) Tryz.func83 (sr (ck 2 (en (sq (sr (ck 1 (bx H λ r120 h311 H=>ca false (LV h311) (ck 1 (en (cn H (λ H=>?_) (λ H=>?_)))))))))))
 ·exact sr (ck 2 (en (re (qr (by cases H;exact pr rd)))))
 ·refine sk (qz (sr (ck 1 (bx H λ r121 h312 H=>ca false (GU h312) (ck 1 (bx H λ r122 h313 H=>ca false (Nt h313) (ck 2 (en (sq (sr (ck 1 (en (bk 0 (bx H λ y95 h316 H=>?_))))))))))))))
  rcases y95 with y96|y97
  ·refine lX IB h316 (sg [1,2,3,4,5]) rfl λ s hE73=>qH (qs (hE73) (sq (sr (ck 1 (en (bk 2 (bx H λ y101 h320 H=>?_)))))))
   rcases y101 with y102|y103
   ·exact lX ID h320 (sg [1,2,3,4,6]) rfl λ s hE76=>qH (qs (hE76) (sr (ck 2 (en (re (by cases H;exact pr rd))))))
   ·exact lR ID h320 (sg [1,2,3,4,6]) rfl λ s hE77=>qR (qr (by cases H;exact pr hE77))
  ·exact lR IB h316 (sg [1,2,3,4,5]) rfl λ s hE78=>qR (qr (by cases H;exact pr hE78))
end
section
variable (p0_:Int)
def Jet:St:=⟨(0,.d (.int .i64 p0_))::[],[]⟩
variable {p0_}
theorem Sl {z} (H:E9 n p0_=some z):Ar Tryz.prog 120 [.d (.int .i64 p0_)] (.own 1 (z.map eU8)):=by
 exact fO 8 (Jet p0_) Tryz.func120 (sr (ck 1 (en (sr (ck 2 (bx H λ x84 h321 H=>sp (A2 0 1 h321) (sp (Bs eU8 0 0 (ty 184) h321) (ck 2 (en (re (by cases H;exact pr (rO (v:=.osl 1 1 0 (List.length [60,x84])) [1] (ao vo)))))))))))))
end
section
variable (p0_:Int) (p1_:Aa) (r124:(List Int)) (out_43:(List Aa)) (r_1:Int) (out_44:(List Aa)) (out_45:(List Aa)) (k_15:Int) (out_46:(List Aa)) (out_47:(List Aa))
def Jeu:St:=⟨(0,.d (.int .i64 p0_))::(1,.agg [.d (.int .i64 p1_.X),.d (.int .i64 p1_.Y)])::[],[]⟩
def Jev:St:=⟨(3,.ptr 0 0)::(5,.osl 1 2 0 (out_43.length))::(6,.d (.sl (r124.map eU8)))::(7,.d (.int .i64 r_1))::[],[some (.box [.d (.int .i64 p1_.X),.d (.int .i64 p1_.Y)]),some (.arr 2 (out_43.map Ac))]⟩
def Jew:St:=⟨(5,.osl 0 2 0 (out_44.length))::[],[some (.arr 2 (out_44.map Ac))]⟩
def Jex:St:=⟨(3,.ptr 0 0)::(5,.osl 1 2 0 (out_45.length))::(6,.d (.sl (r124.map eU8)))::(7,.d (.int .i64 r_1))::(8,.d (.int .i64 k_15))::[],[some (.box [.d (.int .i64 p1_.X),.d (.int .i64 p1_.Y)]),some (.arr 2 (out_45.map Ac))]⟩
def Jey:St:=⟨(3,.ptr 0 0)::(5,.osl 1 2 0 (out_46.length))::(6,.d (.sl (r124.map eU8)))::(7,.d (.int .i64 r_1))::[],[some (.box [.d (.int .i64 p1_.X),.d (.int .i64 p1_.Y)]),some (.arr 2 (out_46.map Ac))]⟩
def Jez:St:=⟨(3,.ptr 0 0)::(5,.osl 1 2 0 (out_47.length))::(6,.d (.sl (r124.map eU8)))::(7,.d (.int .i64 r_1))::(8,.d (.int .i64 k_15))::[],[some (.box [.d (.int .i64 p1_.X),.d (.int .i64 p1_.Y)]),some (.arr 2 (out_47.map Ac))]⟩
def Oy:(List Aa)->Ex->St->Prop:=xX 0 2 (λ (y:(List Aa))=>Jey p1_ r124 r_1 y)
def IE:((List Aa)×Int)->St:=(λ (x:((List Aa)×Int))=>Jex p1_ r124 r_1 x.1 x.2)
def Oz:(List Aa)->Ex->St->Prop:=xX 0 0 (λ (y:(List Aa))=>Jew y)
def IF:((List Aa)×Int)->St:=(λ (x:((List Aa)×Int))=>Jev p1_ r124 x.1 x.2)
variable {p0_ p1_ r124 out_43 r_1 out_44 out_45 k_15 out_46 out_47}
theorem Nw (x:((List Aa)×Int)) (z:(((List Aa)×Int)⊕(List Aa))) (H:Cz n p1_ r124 r_1 x.1 x.2=some z):WP (cxk 48 0) (Aw Tryz.f110) [1,1,0,1,0,0,1,0,0,1,0,0] (Av 0 (IE p1_ r124 r_1) (Oy p1_ r124 r_1) z) (IE p1_ r124 r_1 x):=by
 obtain ⟨out_45,k_15⟩:=x
 refine sq (sr (ck 2 (en (cn H (λ H=>?_) (λ H=>?_)))))
 ·refine sk (qz (sj (λ (x:(List Aa))=>Jez p1_ r124 r_1 k_15 x) (λ (x:(List Aa))=>C8 n k_15 x) z ?_ (λ hFR15_Points_J1=>?_)))
  ·intro out_47 H
   exact rz (ck 3 (ae (by cases H;exact og (sg [3,5,6,7,8]))))
  refine bk 3 (sr (ck 3 (bx H λ x85 h323 H=>sp (Am eU8 h323) (ck 6 (bx H λ gd11 h324 H=>so (JaF h324) (ck 2 (en (cn H (λ H=>?_) (λ H=>?_)))))))))
  ·exact rz (ck 13 (bx H λ l37 h325 H=>sp (Ba Ac 1 2 h325) (ck 1 (ae (qN (qs (sg [3,5,6,7,8]) (hFR15_Points_J1 l37 H)))))))
  ·exact sk (qN (qs (sg [3,5,6,7,8]) (hFR15_Points_J1 out_45 H)))
 ·exact ex 2 (qx (by cases H;exact xo rfl (sg [3,5,6,7])))
theorem Nx (x:((List Aa)×Int)) (z:(((List Aa)×Int)⊕(List Aa))) (H:CA n p1_ r124 x.1 x.2=some z):WP (cxk 48 0) (Aw Tryz.f110) [1,1,0,1,0,0] (Av 0 (IF p1_ r124) (Oz) z) (IF p1_ r124 x):=by
 obtain ⟨out_43,r_1⟩:=x
 refine sq (sr (ck 2 (en (cn H (λ H=>?_) (λ H=>?_)))))
 ·exact sk (qz (sq (bk 1 (sr (ck 1 (en (bk 2 (bx H λ y104 h326 H=>lX Nw h326 (sg [3,5,6,7,8]) rfl λ s hE79=>qH (qN (qs (hE79) (rz (ck 3 (ae (by cases H;exact og (sg [3,5,6,7])))))))))))))))
 ·exact ex 0 (qx (by cases H;exact xo rfl (sg [5])))
theorem C9 {z} (H:Cn n p0_ p1_=some z):Ar Tryz.prog 110 [.d (.int .i64 p0_),.agg [.d (.int .i64 p1_.X),.d (.int .i64 p1_.Y)]] (.own 2 (z.map Ac)):=by
 exact fO 48 (Jeu p0_ p1_) Tryz.func110 (sr (ck 2 (en (sr (ck 2 (bx H λ r124 h322 H=>ca false (Sl h322) (ck 2 (en (sq (sr (ck 1 (en (bk 0 (bx H λ y105 h327 H=>lX Nx h327 (sg [3,5,6,7]) rfl λ s hE80=>qH (qs (hE80) (sr (ck 2 (en (re (by cases H;exact pr (rO (v:=.osl 0 2 0 (z.length)) [0] (ao vo))))))))))))))))))))))
end
section
variable (p0_:Af) (p1_:Int) (p2_:Aa) (r125:(List (List Aa))) (r126:(List Aa)) (k_16:Int)
def JeA:St:=⟨(0,.agg [.d (.int .i64 p0_.W),.d (.int .i64 p0_.H),.d (.int .i64 p0_.Gap),.d (.sl (p0_.F.map Au))])::(1,.d (.int .i64 p1_))::(2,.agg [.d (.int .i64 p2_.X),.d (.int .i64 p2_.Y)])::[],[]⟩
def JeB:St:=⟨(1,.d (.int .i64 p1_))::(3,.ptr 0 0)::(7,.d (.sl (r125.map (eL Ac))))::(8,.d (.sl (r126.map Ac)))::(9,.d (.int .i64 k_16))::[],[some (.box (AG p0_))]⟩
def JeC:St:=⟨(1,.d (.int .i64 p1_))::(3,.ptr 0 0)::(7,.d (.sl (r125.map (eL Ac))))::(8,.d (.sl (r126.map Ac)))::[],[some (.box (AG p0_))]⟩
def Rx:(Unit⊕Bool)->Ex->St->Prop:=xS (xX 0 0 (λ (y:Unit)=>JeC p0_ p1_ r125 r126)) (xR ty Tryz.f109 (λ (y:Bool)=>.d (.bool y)))
def KD:Int->St:=(λ (x:Int)=>JeB p0_ p1_ r125 r126 x)
variable {p0_ p1_ p2_ r125 r126 k_16}
theorem JG (x:Int) (z:(Int⊕(Unit⊕Bool))) (H:Gn n p0_ p1_ r125 r126 x=some z):WP (cxk 76 0) (Aw Tryz.f109) [1,1,1,0,1,0,0] (Av 0 (KD p0_ p1_ r125 r126) (Rx p0_ p1_ r125 r126) z) (KD p0_ p1_ r125 r126 x):=by
 revert H
 generalize x=k_16
 intro H
 refine sq (sr (ck 2 (sp (Ay (eL Ac) r125) (ck 1 (en (cn H (λ H=>?_) (λ H=>?_)))))))
 ·refine sk (qz (sq (bk 1 (sr (ck 3 (bx H λ x86 h330 H=>sp (Am (eL Ac) h330) (ck 1 (bx H λ r127 h331 H=>ca false (B9 h331) (ck 3 (en (cn H (λ H=>?_) (λ H=>?_))))))))))))
  ·exact sr (ck 1 (en (re (qR (qr (by cases H;exact ro rfl rd))))))
  ·exact sk (qN (qz (rz (ck 3 (ae (by cases H;exact og (sg [1,3,7,8,9])))))))
 ·exact ex 0 (qx (by cases H;exact xo rfl (sg [1,3,7,8])))
theorem T4 {z} (H:N7 n p0_ p1_ p2_=some z):Ar Tryz.prog 109 [.agg (AG p0_),.d (.int .i64 p1_),.agg [.d (.int .i64 p2_.X),.d (.int .i64 p2_.Y)]] (.d (.bool z)):=by
 refine fO 76 (JeA p0_ p1_ p2_) Tryz.func109 (sr (ck 3 (en (sq (sr (ck 5 (gc 2 (!(decide (p2_.X<0))) (pO (ck 2 (gc 2 (!((decide (p2_.X<0))||(decide (p2_.Y<0)))) (pO (ck 2 (gc 2 (!(((decide (p2_.X<0))||(decide (p2_.Y<0)))||(decide (p2_.X>60)))) (pO (ck 2 (gc 3 (!((((decide (p2_.X<0))||(decide (p2_.Y<0)))||(decide (p2_.X>60)))||(decide (p2_.Y>60)))) (ck 1 (gc 2 (!((((decide (p2_.X<0))||(decide (p2_.Y<0)))||(decide (p2_.X>60)))||(decide (p2_.Y>60)))) (pO (ck 2 (gc 3 (!(((((decide (p2_.X<0))||(decide (p2_.Y<0)))||(decide (p2_.X>60)))||(decide (p2_.Y>60)))||(decide (BU .i64 2 (Aj .i64 p2_.X 2)>p0_.W)))) (ck 1 (gc 2 (!(((((decide (p2_.X<0))||(decide (p2_.Y<0)))||(decide (p2_.X>60)))||(decide (p2_.Y>60)))||(decide (BU .i64 2 (Aj .i64 p2_.X 2)>p0_.W)))) (pO (en (cn H (λ H=>?_) (λ H=>?_)))))))))))))))))))))))))))
 ·exact sr (ck 1 (en (re (qr (by cases H;exact pr rd)))))
 ·refine sk (qz (sr (ck 1 (bx H λ r125 h328 H=>ca false (GU h328) (ck 2 (bx H λ r126 h329 H=>ca false (C9 h329) (ck 2 (en (sq (sr (ck 1 (en (bk 0 (bx H λ y106 h332 H=>?_))))))))))))))
  rcases y106 with y107|y108
  ·exact lX JG h332 (sg [1,3,7,8,9]) rfl λ s hE81=>qH (qs (hE81) (sr (ck 3 (bx H λ x87 h333 H=>sp (Am (eL Ac) h333) (ck 1 (bx H λ r128 h334 H=>ca false (B9 h334) (ck 5 (en (re (by cases H;exact pr rd))))))))))
  ·exact lR JG h332 (sg [1,3,7,8,9]) rfl λ s hE82=>qR (qr (by cases H;exact pr hE82))
end
section
variable (p0_:Af) (p1_:Int) (out_48:(List Aa)) (y_3:Int) (out_49:(List Aa)) (out_50:(List Aa)) (x_17:Int) (out_51:(List Aa)) (out_52:(List Aa))
def Jia:St:=⟨(0,.agg [.d (.int .i64 p0_.W),.d (.int .i64 p0_.H),.d (.int .i64 p0_.Gap),.d (.sl (p0_.F.map Au))])::(1,.d (.int .i64 p1_))::[],[]⟩
def Jib:St:=⟨(1,.d (.int .i64 p1_))::(2,.ptr 0 0)::(5,.osl 1 2 0 (out_48.length))::(6,.d (.int .i64 y_3))::[],[some (.box (AG p0_)),some (.arr 2 (out_48.map Ac))]⟩
def Jic:St:=⟨(5,.osl 0 2 0 (out_49.length))::[],[some (.arr 2 (out_49.map Ac))]⟩
def Jid:St:=⟨(1,.d (.int .i64 p1_))::(2,.ptr 0 0)::(5,.osl 1 2 0 (out_50.length))::(6,.d (.int .i64 y_3))::(7,.d (.int .i64 x_17))::[],[some (.box (AG p0_)),some (.arr 2 (out_50.map Ac))]⟩
def Jie:St:=⟨(1,.d (.int .i64 p1_))::(2,.ptr 0 0)::(5,.osl 1 2 0 (out_51.length))::(6,.d (.int .i64 y_3))::[],[some (.box (AG p0_)),some (.arr 2 (out_51.map Ac))]⟩
def Jif:St:=⟨(1,.d (.int .i64 p1_))::(2,.ptr 0 0)::(5,.osl 1 2 0 (out_52.length))::(6,.d (.int .i64 y_3))::(7,.d (.int .i64 x_17))::[],[some (.box (AG p0_)),some (.arr 2 (out_52.map Ac))]⟩
def KE:(List Aa)->Ex->St->Prop:=xX 0 2 (λ (y:(List Aa))=>Jie p0_ p1_ y_3 y)
def FF:((List Aa)×Int)->St:=(λ (x:((List Aa)×Int))=>Jid p0_ p1_ y_3 x.1 x.2)
def KF:(List Aa)->Ex->St->Prop:=xX 0 0 (λ (y:(List Aa))=>Jic y)
def FG:((List Aa)×Int)->St:=(λ (x:((List Aa)×Int))=>Jib p0_ p1_ x.1 x.2)
variable {p0_ p1_ out_48 y_3 out_49 out_50 x_17 out_51 out_52}
theorem JT (x:((List Aa)×Int)) (z:(((List Aa)×Int)⊕(List Aa))) (H:DQ n p0_ p1_ y_3 x.1 x.2=some z):WP (cxk 38 0) (Aw Tryz.f97) [1,1,0,1,0,0,1,0,0,1,0,0] (Av 0 (FF p0_ p1_ y_3) (KE p0_ p1_ y_3) z) (FF p0_ p1_ y_3 x):=by
 obtain ⟨out_50,x_17⟩:=x
 refine sq (sr (ck 6 (en (cn H (λ H=>?_) (λ H=>?_)))))
 ·refine sk (qz (sj (λ (x:(List Aa))=>Jif p0_ p1_ y_3 x_17 x) (λ (x:(List Aa))=>DP n x_17 x) z ?_ (λ hFR15_Candidates_J1=>?_)))
  ·intro out_52 H
   exact rz (ck 3 (ae (by cases H;exact og (sg [1,2,5,6,7]))))
  refine bk 3 (sr (ck 5 (en (sr (ck 3 (bx H λ r129 h335 H=>ca false (T4 h335) (en (cn H (λ H=>?_) (λ H=>?_)))))))))
  ·exact rz (ck 3 (bx H λ l38 h336 H=>sp (Ba Ac 1 2 h336) (ck 1 (ae (qN (qs (sg [1,2,5,6,7]) (hFR15_Candidates_J1 l38 H)))))))
  ·exact sk (qN (qs (sg [1,2,5,6,7]) (hFR15_Candidates_J1 out_50 H)))
 ·exact ex 2 (qx (by cases H;exact xo rfl (sg [1,2,5,6])))
theorem JU (x:((List Aa)×Int)) (z:(((List Aa)×Int)⊕(List Aa))) (H:DR n p0_ p1_ x.1 x.2=some z):WP (cxk 38 0) (Aw Tryz.f97) [1,1,0,1,0,0] (Av 0 (FG p0_ p1_) (KF) z) (FG p0_ p1_ x):=by
 obtain ⟨out_48,y_3⟩:=x
 refine sq (sr (ck 6 (en (cn H (λ H=>?_) (λ H=>?_)))))
 ·exact sk (qz (sq (bk 1 (sr (ck 1 (en (bk 2 (bx H λ y109 h337 H=>lX JT h337 (sg [1,2,5,6,7]) rfl λ s hE83=>qH (qN (qs (hE83) (rz (ck 3 (ae (by cases H;exact og (sg [1,2,5,6])))))))))))))))
 ·exact ex 0 (qx (by cases H;exact xo rfl (sg [5])))
theorem Mz {z} (H:FR n p0_ p1_=some z):Ar Tryz.prog 97 [.agg (AG p0_),.d (.int .i64 p1_)] (.own 2 (z.map Ac)):=by
 exact fO 38 (Jia p0_ p1_) Tryz.func97 (sr (ck 2 (en (sr (ck 2 (en (sq (sr (ck 1 (en (bk 0 (bx H λ y110 h338 H=>lX JU h338 (sg [1,2,5,6]) rfl λ s hE84=>qH (qs (hE84) (sr (ck 2 (en (re (by cases H;exact pr (rO (v:=.osl 0 2 0 (z.length)) [0] (ao vo))))))))))))))))))))
end
section
variable (p0_:Af) (o0_:(List Aa)) (o1_:(List (List Aa))) (x_23:(List Aa)) (n_4:Int) (free_5:Bool) (k_19:Int) (free_6:Bool) (rec98k1_:(Af->(List Aa)->(List (List Aa))->Option (List Aa)))
def Jbj:St:=⟨(0,.agg [.d (.int .i64 p0_.W),.d (.int .i64 p0_.H),.d (.int .i64 p0_.Gap),.d (.sl (p0_.F.map Au))])::(1,.osl 0 2 0 (o0_.length))::(2,.osl 1 1 0 (o1_.length))::[],[some (.arr 2 (o0_.map Ac)),some (.arr 1 (o1_.map (eL Ac)))]⟩
def Ry:St:=⟨(6,.osl 2 2 0 (x_23.length))::[],[none,some (.arr 1 (o1_.map (eL Ac))),some (.arr 2 (x_23.map Ac))]⟩
def Jbk:St:=⟨(1,.osl 0 2 0 (o0_.length))::(2,.osl 1 1 0 (o1_.length))::(3,.ptr 2 0)::(7,.d (.int .i64 ((o0_.length:Nat):Int)))::(8,.d (.int .i64 n_4))::[],[some (.arr 2 (o0_.map Ac)),some (.arr 1 (o1_.map (eL Ac))),some (.box (AG p0_))]⟩
def Jbl:St:=⟨[],[some (.arr 2 (o0_.map Ac)),some (.arr 1 (o1_.map (eL Ac)))]⟩
def Jbm:St:=⟨(1,.osl 0 2 0 (o0_.length))::(2,.osl 1 1 0 (o1_.length))::(3,.ptr 2 0)::(7,.d (.int .i64 ((o0_.length:Nat):Int)))::(8,.d (.int .i64 n_4))::[],[some (.arr 2 (o0_.map Ac)),some (.arr 1 (o1_.map (eL Ac))),some (.box (AG p0_))]⟩
def Jbn:St:=⟨(1,.osl 0 2 0 (o0_.length))::(2,.osl 1 1 0 (o1_.length))::(3,.ptr 2 0)::(7,.d (.int .i64 ((o0_.length:Nat):Int)))::(8,.d (.int .i64 n_4))::(9,.d (.bool free_5))::(10,.d (.int .i64 k_19))::[],[some (.arr 2 (o0_.map Ac)),some (.arr 1 (o1_.map (eL Ac))),some (.box (AG p0_))]⟩
def Jbo:St:=⟨(1,.osl 0 2 0 (o0_.length))::(2,.osl 1 1 0 (o1_.length))::(3,.ptr 2 0)::(7,.d (.int .i64 ((o0_.length:Nat):Int)))::(8,.d (.int .i64 n_4))::(9,.d (.bool free_6))::[],[some (.arr 2 (o0_.map Ac)),some (.arr 1 (o1_.map (eL Ac))),some (.box (AG p0_))]⟩
def MA:Bool->Ex->St->Prop:=xX 2 2 (λ (y:Bool)=>Jbo p0_ o0_ o1_ n_4 y)
def G1:(Bool×Int)->St:=(λ (x:(Bool×Int))=>Jbn p0_ o0_ o1_ n_4 x.1 x.2)
def MB:(Unit⊕(List Aa))->Ex->St->Prop:=xS (xX 2 0 (λ (y:Unit)=>Jbl o0_ o1_)) (xL 2 ty Tryz.f98 (λ (y:(List Aa))=>.osl 2 2 0 (y.length)) (λ (y:(List Aa))=>[none,some (.arr 1 (o1_.map (eL Ac))),some (.arr 2 (y.map Ac))]))
def G2:Int->St:=(λ (x:Int)=>Jbk p0_ o0_ o1_ x)
variable {p0_ o0_ o1_ x_23 n_4 free_5 k_19 free_6 rec98k1_}
theorem Lw (x:(Bool×Int)) (z:((Bool×Int)⊕Bool)) (H:B7 n p0_ o0_ o1_ n_4 x.1 x.2=some z):WP (cxk 80 2) (Aw Tryz.f98) [1,1,1,0,1,0,0,1,0,0,1,0,1,0,0] (Av 2 (G1 p0_ o0_ o1_ n_4) (MA p0_ o0_ o1_ n_4) z) (G1 p0_ o0_ o1_ n_4 x):=by
 obtain ⟨free_5,k_19⟩:=x
 refine sq (sr (ck 3 (en (cn H (λ H=>?_) (λ H=>?_)))))
 ·exact sk (qz (sq (bk 3 (rz (ck 5 (bx H λ x101 h368 H=>sE (λ hg=>A2 1 1 (Bd h368 hg)) (sE (g:=free_5) (λ hg=>Bs (eL Ac) 1 0 (ty 120) (Bd h368 hg)) (ck 1 (bx H λ x102 h369 H=>sE (λ hg=>Am Ac (Bd h369 hg)) (gc 1 free_5 (bx H λ r138 h370 H=>cG false (leZ) rfl (λ hg=>C9 (Bd h370 hg)) (Or.inl rfl) (Cc (λ hh=>hh) (Cc (λ hh=>hh) (Dd))) rfl (ck 3 (bx H λ x103 h371 H=>sE (λ hg=>A2 0 2 (Bd h371 hg)) (sE (g:=free_5) (λ hg=>Bs Ac 0 0 (ty 124) (Bd h371 hg)) (bx H λ r139 h372 H=>cG false (leZ) rfl (λ hg=>C9 (Bd h372 hg)) (Or.inl rfl) (Cc (λ hh=>hh) (Cc (λ hh=>hh) (Dd))) rfl (bx H λ r140 h373 H=>cG false (leZ) rfl (λ hg=>B9 (Bd h373 hg)) (Or.inl rfl) (Cc (λ hh=>hh) (Cc (λ hh=>hh) (Dd))) rfl (ck 1 (gc 2 free_5 (pA (ck 1 (ae (qN (qz (rz (ck 3 (ae (by cases H;exact og (sg [1,2,3,7,8,9,10]))))))))))))))))))))))))))))
 ·exact ex 2 (qx (by cases H;exact xo rfl (sg [1,2,3,7,8,9])))
theorem FY (hrec98k1_:∀ {p0_:Af} {o0_:(List Aa)} {o1_:(List (List Aa))} {z:(List Aa)},rec98k1_ p0_ o0_ o1_=some z->BH Tryz.prog 98 [.agg (AG p0_),.osl 0 2 0 (o0_.length),.osl 1 1 0 (o1_.length)] [some (.arr 2 (o0_.map Ac)),some (.arr 1 (o1_.map (eL Ac)))] 2 (.osl 2 2 0 (z.length)) [none,some (.arr 1 (o1_.map (eL Ac))),some (.arr 2 (z.map Ac))]) (x:Int) (z:(Int⊕(Unit⊕(List Aa)))) (H:BL n rec98k1_ p0_ o0_ o1_ x=some z):WP (cxk 80 2) (Aw Tryz.f98) [1,1,1,0,1,0,0] (Av 2 (G2 p0_ o0_ o1_) (MB o0_ o1_) z) (G2 p0_ o0_ o1_ x):=by
 revert H
 generalize x=n_4
 intro H
 refine sq (sr (ck 3 (bx H λ x100 h367 H=>sp (A2 1 1 h367) (sp (Bs (eL Ac) 1 0 (ty 120) h367) (sp (Ay Ac x100) (ck 1 (en (cn H (λ H=>?_) (λ H=>?_)))))))))
 ·refine sk (qz (sj (λ (x:Unit)=>Jbm p0_ o0_ o1_ n_4) (λ (x:Unit)=>CB n n_4) z ?_ (λ hFR15_searchxx_J1=>?_)))
  ·intro _ H
   exact rz (ck 3 (ae (by cases H;exact og (sg [1,2,3,7,8]))))
  refine bk 1 (sr (ck 1 (en (sq (sr (ck 1 (en (bk 2 (bx H λ y119 h374 H=>lX Lw h374 (sg [1,2,3,7,8,9,10]) rfl λ s hE91=>qH (qs (hE91) (sq (sr (ck 2 (en (cn H (λ H=>?_) (λ H=>?_))))))))))))))))
  ·exact ex 1 (qx (qH (qs (sg [1,2,3,7,8]) (hFR15_searchxx_J1 () H))))
  ·refine sk (qz (sr (ck 2 (bx H λ l43 h375 H=>sp (Ba Ac 3 2 h375) (ck 1 (en (sq (ry 12 (.refl _) (ck 4 (bx H λ x104 h376 H=>sp (A2 1 1 h376) (sp (Bs (eL Ac) 1 0 (ty 120) h376) (ck 1 (bx H λ x105 h377 H=>sp (Am Ac h377) (ck 2 (bx H λ l44 h378 H=>sp (Ba Ac 4 2 h378) (ck 1 (my (bx H λ r141 h379 H=>lt [6,1] (hrec98k1_ h379) (nx 14 13 (mx (ck 1 (nz (qz (sr (ck 5 (en (cn H (λ H=>?_) (λ H=>?_))))))))))))))))))))))))))))
   ·exact sr (ck 2 (en (re (qR (qr (by cases H;exact lo rfl (rl (s':=Ry o1_ r141) (tr (XN 0 rfl) (sg [6])))))))))
   ·exact sk (qN (qs (sg [1,2,3,7,8]) (hFR15_searchxx_J1 () H)))
 ·exact ex 0 (qx (by cases H;exact xo rfl (sg [])))
theorem MC {z} (hrec98k1_:∀ {p0_:Af} {o0_:(List Aa)} {o1_:(List (List Aa))} {z:(List Aa)},rec98k1_ p0_ o0_ o1_=some z->BH Tryz.prog 98 [.agg (AG p0_),.osl 0 2 0 (o0_.length),.osl 1 1 0 (o1_.length)] [some (.arr 2 (o0_.map Ac)),some (.arr 1 (o1_.map (eL Ac)))] 2 (.osl 2 2 0 (z.length)) [none,some (.arr 1 (o1_.map (eL Ac))),some (.arr 2 (z.map Ac))]) (H:A5 n rec98k1_ p0_ o0_ o1_=some z):BH Tryz.prog 98 [.agg (AG p0_),.osl 0 2 0 (o0_.length),.osl 1 1 0 (o1_.length)] [some (.arr 2 (o0_.map Ac)),some (.arr 1 (o1_.map (eL Ac)))] 2 (.osl 2 2 0 (z.length)) [none,some (.arr 1 (o1_.map (eL Ac))),some (.arr 2 (z.map Ac))]:=by
 refine fL 80 2 (Jbj p0_ o0_ o1_) Tryz.func98 (sr (ck 2 (en (sr (ck 3 (en (sq (sr (ck 4 (en (cn H (λ H=>?_) (λ H=>?_))))))))))))
 ·exact sr (ck 2 (en (re (qr (by cases H;exact pL (rl (s':=Ry o1_ o0_) (tr (JaC (k:=0) (sz:=2) 6 (o0_.map Ac) (o0_.length) (by kernel_rfl) GA leM rfl) (sg [6]))))))))
 ·refine sk (qz (sq (sr (ck 1 (en (bk 0 (bx H λ y120 h380 H=>?_)))))))
  rcases y120 with y121|y122
  ·exact lX (FY hrec98k1_) h380 (sg [1,2,3,7,8]) rfl λ s hE92=>qH (qs (hE92) (sr (ck 1 (en (re (by cases H;exact pL (rl (s':=Ry o1_ ([]:List Aa)) (tr (tr (AQ.nilo 6 2 (by kernel_rfl)) (XN 0 rfl)) (sg [6])))))))))
  ·exact lL (FY hrec98k1_) h380 (sg [1,2,3,7,8]) rfl λ s hE93=>qR (qr (by cases H;exact pL hE93))
end
section
variable (p0_:Af) (o0_:(List Aa)) (o1_:(List (List Aa)))
variable {p0_ o0_ o1_}
theorem OB {z} (H:HV n p0_ o0_ o1_=some z):BH Tryz.prog 98 [.agg (AG p0_),.osl 0 2 0 (o0_.length),.osl 1 1 0 (o1_.length)] [some (.arr 2 (o0_.map Ac)),some (.arr 1 (o1_.map (eL Ac)))] 2 (.osl 2 2 0 (z.length)) [none,some (.arr 1 (o1_.map (eL Ac))),some (.arr 2 (z.map Ac))]:=by
  have key:∀ (d:Nat) {p0_:Af} {o0_:(List Aa)} {o1_:(List (List Aa))} {z:(List Aa)},JP (λ _ _ _=>none) (A5 n) d p0_ o0_ o1_=some z->BH Tryz.prog 98 [.agg (AG p0_),.osl 0 2 0 (o0_.length),.osl 1 1 0 (o1_.length)] [some (.arr 2 (o0_.map Ac)),some (.arr 1 (o1_.map (eL Ac)))] 2 (.osl 2 2 0 (z.length)) [none,some (.arr 1 (o1_.map (eL Ac))),some (.arr 2 (z.map Ac))]:=by
    intro d
    induction d with
    | zero=>intro _ _ _ _ H;cases H
    | succ d ih=>intro _ _ _ _ H;exact MC (λ h=>ih h) H
  exact key n H
end
section
variable (p0_:Af) (o0_:(List (List Aa))) (x_26:(List Aa)) (n_5:Int) (free_7:Bool) (k_20:Int) (free_8:Bool) (rec98k2_:(Af->(List (List Aa))->Option (List Aa)))
def Jbp:St:=⟨(0,.agg [.d (.int .i64 p0_.W),.d (.int .i64 p0_.H),.d (.int .i64 p0_.Gap),.d (.sl (p0_.F.map Au))])::(1,.d (.nil))::(2,.osl 0 1 0 (o0_.length))::[],[some (.arr 1 (o0_.map (eL Ac)))]⟩
def Rz:St:=⟨(6,.osl 1 2 0 (x_26.length))::[],[some (.arr 1 (o0_.map (eL Ac))),some (.arr 2 (x_26.map Ac))]⟩
def Jbq:St:=⟨(1,.osl 1 2 0 (List.length ([]:List Aa)))::(2,.osl 0 1 0 (o0_.length))::(3,.ptr 2 0)::(7,.d (.int .i64 0))::(8,.d (.int .i64 n_5))::[],[some (.arr 1 (o0_.map (eL Ac))),some (.arr 2 (List.map Ac ([]:List Aa))),some (.box (AG p0_))]⟩
def Jbr:St:=⟨[],[some (.arr 1 (o0_.map (eL Ac)))]⟩
def Jbs:St:=⟨(1,.osl 1 2 0 (List.length ([]:List Aa)))::(2,.osl 0 1 0 (o0_.length))::(3,.ptr 2 0)::(7,.d (.int .i64 0))::(8,.d (.int .i64 n_5))::[],[some (.arr 1 (o0_.map (eL Ac))),some (.arr 2 (List.map Ac ([]:List Aa))),some (.box (AG p0_))]⟩
def Jbt:St:=⟨(1,.osl 1 2 0 (List.length ([]:List Aa)))::(2,.osl 0 1 0 (o0_.length))::(3,.ptr 2 0)::(7,.d (.int .i64 0))::(8,.d (.int .i64 n_5))::(9,.d (.bool free_7))::(10,.d (.int .i64 k_20))::[],[some (.arr 1 (o0_.map (eL Ac))),some (.arr 2 (List.map Ac ([]:List Aa))),some (.box (AG p0_))]⟩
def Jbu:St:=⟨(1,.osl 1 2 0 (List.length ([]:List Aa)))::(2,.osl 0 1 0 (o0_.length))::(3,.ptr 2 0)::(7,.d (.int .i64 0))::(8,.d (.int .i64 n_5))::(9,.d (.bool free_8))::[],[some (.arr 1 (o0_.map (eL Ac))),some (.arr 2 (List.map Ac ([]:List Aa))),some (.box (AG p0_))]⟩
def Lx:Bool->Ex->St->Prop:=xX 1 2 (λ (y:Bool)=>Jbu p0_ o0_ n_5 y)
def FZ:(Bool×Int)->St:=(λ (x:(Bool×Int))=>Jbt p0_ o0_ n_5 x.1 x.2)
def Ly:(Unit⊕(List Aa))->Ex->St->Prop:=xS (xX 1 0 (λ (y:Unit)=>Jbr o0_)) (xL 1 ty Tryz.f98 (λ (y:(List Aa))=>.osl 1 2 0 (y.length)) (λ (y:(List Aa))=>[some (.arr 1 (o0_.map (eL Ac))),some (.arr 2 (y.map Ac))]))
def F3:Int->St:=(λ (x:Int)=>Jbq p0_ o0_ x)
variable {p0_ o0_ x_26 n_5 free_7 k_20 free_8 rec98k2_}
theorem KG (x:(Bool×Int)) (z:((Bool×Int)⊕Bool)) (H:Ew n p0_ o0_ n_5 x.1 x.2=some z):WP (cxk 80 1) (Aw Tryz.f98) [1,1,1,0,1,0,0,1,0,0,1,0,1,0,0] (Av 1 (FZ p0_ o0_ n_5) (Lx p0_ o0_ n_5) z) (FZ p0_ o0_ n_5 x):=by
 obtain ⟨free_7,k_20⟩:=x
 refine sq (sr (ck 3 (en (cn H (λ H=>?_) (λ H=>?_)))))
 ·exact sk (qz (sq (bk 3 (rz (ck 5 (bx H λ x107 h382 H=>sE (λ hg=>A2 0 1 (Bd h382 hg)) (sE (g:=free_7) (λ hg=>Bs (eL Ac) 0 0 (ty 120) (Bd h382 hg)) (ck 1 (bx H λ x108 h383 H=>sE (λ hg=>Am Ac (Bd h383 hg)) (gc 1 free_7 (bx H λ r142 h384 H=>cG false (leZ) rfl (λ hg=>C9 (Bd h384 hg)) (Or.inl rfl) (Cc (λ hh=>hh) (Cc (λ hh=>hh) (Dd))) rfl (ck 3 (bx H λ x109 h385 H=>sE (λ hg=>A2 1 2 (Bd h385 hg)) (sE (g:=free_7) (λ hg=>Bs Ac 1 0 (ty 124) (Bd h385 hg)) (bx H λ r143 h386 H=>cG false (leZ) rfl (λ hg=>C9 (Bd h386 hg)) (Or.inl rfl) (Cc (λ hh=>hh) (Cc (λ hh=>hh) (Dd))) rfl (bx H λ r144 h387 H=>cG false (leZ) rfl (λ hg=>B9 (Bd h387 hg)) (Or.inl rfl) (Cc (λ hh=>hh) (Cc (λ hh=>hh) (Dd))) rfl (ck 1 (gc 2 free_7 (pA (ck 1 (ae (qN (qz (rz (ck 3 (ae (by cases H;exact og (sg [1,2,3,7,8,9,10]))))))))))))))))))))))))))))
 ·exact ex 2 (qx (by cases H;exact xo rfl (sg [1,2,3,7,8,9])))
theorem FH (x:Int) (z:(Int⊕(Unit⊕(List Aa)))) (H:C1 n p0_ o0_ x=some z):WP (cxk 80 1) (Aw Tryz.f98) [1,1,1,0,1,0,0] (Av 1 (F3 p0_ o0_) (Ly o0_) z) (F3 p0_ o0_ x):=by
 revert H
 generalize x=n_5
 intro H
 refine sq (sr (ck 3 (bx H λ x106 h381 H=>sp (A2 0 1 h381) (sp (Bs (eL Ac) 0 0 (ty 120) h381) (sp (Ay Ac x106) (ck 1 (en (cn H (λ H=>?_) (λ H=>?_)))))))))
 ·refine sk (qz (sj (λ (x:Unit)=>Jbs p0_ o0_ n_5) (λ (x:Unit)=>Eu n n_5) z ?_ (λ hFR15_searchxxx_J1=>?_)))
  ·intro _ H
   exact rz (ck 3 (ae (by cases H;exact og (sg [1,2,3,7,8]))))
  refine bk 1 (sr (ck 1 (en (sq (sr (ck 1 (en (bk 2 (bx H λ y123 h388 H=>lX KG h388 (sg [1,2,3,7,8,9,10]) rfl λ s hE94=>qH (qs (hE94) (sq (sr (ck 2 (en (cn H (λ H=>?_) (λ H=>?_))))))))))))))))
  ·exact ex 1 (qx (qH (qs (sg [1,2,3,7,8]) (hFR15_searchxxx_J1 () H))))
  ·refine sk (qz (sr (ck 2 (bx H λ l45 h389 H=>sp (Ba Ac 3 2 h389) (ck 1 (en (sq (ry 12 (.refl _) (ck 4 (bx H λ x110 h390 H=>sp (A2 0 1 h390) (sp (Bs (eL Ac) 0 0 (ty 120) h390) (ck 1 (bx H λ x111 h391 H=>sp (Am Ac h391) (ck 2 (bx H λ l46 h392 H=>sp (Ba Ac 4 2 h392) (ck 1 (my (bx H λ r145 h393 H=>lt [6,0] (OB h393) (nx 14 13 (mx (ck 1 (nz (qz (sr (ck 5 (en (cn H (λ H=>?_) (λ H=>?_))))))))))))))))))))))))))))
   ·exact sr (ck 2 (en (re (qR (qr (by cases H;exact lo rfl (rl (s':=Rz o0_ r145) (sg [6]))))))))
   ·exact sk (qN (qs (sg [1,2,3,7,8]) (hFR15_searchxxx_J1 () H)))
 ·exact ex 0 (qx (by cases H;exact xo rfl (sg [])))
theorem Lz {z} (hrec98k2_:∀ {p0_:Af} {o0_:(List (List Aa))} {z:(List Aa)},rec98k2_ p0_ o0_=some z->BH Tryz.prog 98 [.agg (AG p0_),.d (.nil),.osl 0 1 0 (o0_.length)] [some (.arr 1 (o0_.map (eL Ac)))] 1 (.osl 1 2 0 (z.length)) [some (.arr 1 (o0_.map (eL Ac))),some (.arr 2 (z.map Ac))]) (H:B8 n rec98k2_ p0_ o0_=some z):BH Tryz.prog 98 [.agg (AG p0_),.d (.nil),.osl 0 1 0 (o0_.length)] [some (.arr 1 (o0_.map (eL Ac)))] 1 (.osl 1 2 0 (z.length)) [some (.arr 1 (o0_.map (eL Ac))),some (.arr 2 (z.map Ac))]:=by
 refine fL 80 1 (Jbp p0_ o0_) Tryz.func98 (sr (ck 2 (en (sr (ck 3 (en (sq (sr (ck 4 (en (cn H (λ H=>?_) (λ H=>?_))))))))))))
 ·exact sr (ck 2 (en (re (qr (by cases H;exact pL (rl (s':=Rz o0_ ([]:List Aa)) (tr (AQ.nilo 6 2 (by kernel_rfl)) (sg [6]))))))))
 ·refine sk (qz (sq (sr (ck 1 (en (bk 0 (bx H λ y124 h394 H=>?_)))))))
  rcases y124 with y125|y126
  ·exact lX FH h394 (tr (AQ.nilo 1 2 (by kernel_rfl)) (sg [1,2,3,7,8])) rfl λ s hE95=>qH (qs (hE95) (sr (ck 1 (en (re (by cases H;exact pL (rl (s':=Rz o0_ ([]:List Aa)) (tr (AQ.nilo 6 2 (by kernel_rfl)) (sg [6])))))))))
  ·exact lL FH h394 (tr (AQ.nilo 1 2 (by kernel_rfl)) (sg [1,2,3,7,8])) rfl λ s hE96=>qR (qr (by cases H;exact pL hE96))
end
section
variable (p0_:Af) (o0_:(List (List Aa)))
variable {p0_ o0_}
theorem Ny {z} (H:GQ n p0_ o0_=some z):BH Tryz.prog 98 [.agg (AG p0_),.d (.nil),.osl 0 1 0 (o0_.length)] [some (.arr 1 (o0_.map (eL Ac)))] 1 (.osl 1 2 0 (z.length)) [some (.arr 1 (o0_.map (eL Ac))),some (.arr 2 (z.map Ac))]:=by
  have key:∀ (d:Nat) {p0_:Af} {o0_:(List (List Aa))} {z:(List Aa)},JP (λ _ _=>none) (B8 n) d p0_ o0_=some z->BH Tryz.prog 98 [.agg (AG p0_),.d (.nil),.osl 0 1 0 (o0_.length)] [some (.arr 1 (o0_.map (eL Ac)))] 1 (.osl 1 2 0 (z.length)) [some (.arr 1 (o0_.map (eL Ac))),some (.arr 2 (z.map Ac))]:=by
    intro d
    induction d with
    | zero=>intro _ _ _ H;cases H
    | succ d ih=>intro _ _ _ H;exact Lz (λ h=>ih h) H
  exact key n H
end
section
variable (p0_:Af) (all_1:(List (List Aa))) (best_1:(List Aa)) (i_29:Int) (best_2:(List Aa))
def Jig:St:=⟨(0,.agg [.d (.int .i64 p0_.W),.d (.int .i64 p0_.H),.d (.int .i64 p0_.Gap),.d (.sl (p0_.F.map Au))])::[],[]⟩
def Jih:St:=⟨(1,.ptr 0 0)::(2,.ptr 1 0)::(3,.osl 2 1 0 (all_1.length))::(4,.osl 3 2 0 (best_1.length))::(5,.d (.int .i64 i_29))::[],[some (.box (AG p0_)),some (.box [.osl 4 2 0 (List.length ([]:List Aa)),.d (.int .i64 0),.d (.int .i64 0)]),some (.arr 1 (all_1.map (eL Ac))),some (.arr 2 (best_1.map Ac)),some (.arr 2 (List.map Ac ([]:List Aa)))]⟩
def Jii:St:=⟨(2,.ptr 0 0)::(4,.osl 1 2 0 (best_2.length))::[],[some (.box [.osl 2 2 0 (List.length ([]:List Aa)),.d (.int .i64 0),.d (.int .i64 0)]),some (.arr 2 (best_2.map Ac)),some (.arr 2 (List.map Ac ([]:List Aa)))]⟩
def PI:((List Aa)⊕I3)->Ex->St->Prop:=xS (xX 0 0 (λ (y:(List Aa))=>Jii y)) (xR ty Tryz.f84 (λ (y:I3)=>.agg [.own 2 (y.L.map Ac),.d (.int .i64 y.At),.d (.int .i64 y.E)]))
def JH:((List (List Aa))×(List Aa)×Int)->St:=(λ (x:((List (List Aa))×(List Aa)×Int))=>Jih p0_ x.1 x.2.1 x.2.2)
variable {p0_ all_1 best_1 i_29 best_2}
theorem IG (x:((List (List Aa))×(List Aa)×Int)) (z:(((List (List Aa))×(List Aa)×Int)⊕((List Aa)⊕I3))) (H:Fl n p0_ x.1 x.2.1 x.2.2=some z):WP (cxk 36 0) (Aw Tryz.f84) [1,1,0,1,0,0] (Av 0 (JH p0_) (PI) z) (JH p0_ x):=by
 obtain ⟨all_1,best_1,i_29⟩:=x
 refine sq (sr (ck 3 (sp (Ay Au p0_.F) (ck 1 (en (cn H (λ H=>?_) (λ H=>?_)))))))
 ·refine sk (qz (sq (bk 1 (sr (ck 3 (bx H λ r146 h395 H=>ca false (Mz h395) (ck 1 (bx H λ l47 h396 H=>sp (Ba (eL Ac) 2 1 h396) (ck 1 (en (sr (ck 2 (bx H λ r147 h397 H=>lt [6] (Ny h397) (ck 1 (en (sq (sr (ck 4 (en (cn H (λ H=>?_) (λ H=>?_)))))))))))))))))))))
  ·exact sr (ck 3 (en (re (qr (qR (qr (by cases H;exact ro rfl (rO (v:=.agg [.d (.nil),.d (.int .i64 i_29),.d (.int .i64 150)]) [] (a1 (c1 vz (c1 vd (c1 vd (c0)))))))))))))
  ·exact sk (qz (rz (ck 2 (ae (qN (qz (rz (ck 3 (ae (by cases H;exact og (sg [1,2,3,4,5])))))))))))
 ·exact ex 0 (qx (by cases H;exact xo rfl (sg [2,4])))
theorem Sm {z} (H:Mk n p0_=some z):Ar Tryz.prog 84 [.agg (AG p0_)] (.agg [.own 2 (z.L.map Ac),.d (.int .i64 z.At),.d (.int .i64 z.E)]):=by
 refine fO 36 (Jig p0_) Tryz.func84 (sr (ck 2 (en (sr (ck 4 (en (sq (sr (ck 1 (en (bk 0 (bx H λ y127 h398 H=>?_))))))))))))
 rcases y127 with y128|y129
 ·exact lX IG h398 (tr (By 1 0 2 (by kernel_rfl)) (sg [1,2,3,4,5])) rfl λ s hE97=>qH (qs (hE97) (sr (ck 5 (en (re (by cases H;exact pr (rO (v:=.agg [.osl 1 2 0 (y128.length),.d (.int .i64 ((y128.length:Nat):Int)),.d (.int .i64 0)]) [1] (a1 (c1 vo (c1 vd (c1 vd (c0))))))))))))
 ·exact lR IG h398 (tr (By 1 0 2 (by kernel_rfl)) (sg [1,2,3,4,5])) rfl λ s hE98=>qR (qr (by cases H;exact pr hE98))
end
section
variable (p0_:Af)
def Jij:St:=⟨(0,.agg [.d (.int .i64 p0_.W),.d (.int .i64 p0_.H),.d (.int .i64 p0_.Gap),.d (.sl (p0_.F.map Au))])::[],[]⟩
variable {p0_}
theorem KH {z} (H:D0 n p0_=some z):Ar Tryz.prog 63 [.agg (AG p0_)] (.d (.bool z)):=by
 refine fO 11 (Jij p0_) Tryz.func63 (sr (ck 2 (en (sq (sr (ck 1 (bx H λ r148 h399 H=>ca false (Sk h399) (ck 2 (en (cn H (λ H=>?_) (λ H=>?_)))))))))))
 ·exact sr (ck 1 (en (re (qr (by cases H;exact pr rd)))))
 ·exact sk (qz (sr (ck 1 (bx H λ r149 h400 H=>ca false (Sm h400) (ck 3 (en (re (by cases H;exact pr rd))))))))
end
section
variable (p0_:A7) (p1_:(List UInt8)) (r150:(List UInt8)) (out_53:Ad) (i_30:Int) (out_54:Ad) (row_3:(List (List UInt8))) (k_21:Int) (row_4:(List (List UInt8))) (x_27:Bool)
def Jik:St:=⟨(0,.agg [.d (.int .u8 p0_.Kind),.d (.int .u8 p0_.N),.d (.sl (p0_.T.map eU8)),.d (.int .u8 p0_.F.Kind),.d (.int .u8 p0_.F.N),.d (.sl (p0_.F.L.map (Bh eU8))),.d (.int .u8 p0_.P.W),.d (.int .u8 p0_.P.H),.d (.int .u8 p0_.P.Gap),.d (.sl (p0_.P.F.map (Jr eU8)))])::(1,.d (.str p1_))::[],[]⟩
def Jil:St:=⟨(4,.ptr 0 0)::(5,.d (.str r150))::[],[some (.box [.d (.int .i64 0),.d (.int .i64 0),.d (.str []),.osl 1 1 0 (List.length ([]:List (List (List UInt8)))),.osl 2 2 0 (List.length ([]:List Al)),.d (.int .i64 0),.d (.int .i64 0),.d (.int .i64 0),.osl 3 3 0 (List.length ([]:List Ax)),.d (.int .i64 0)]),some (.arr 1 (List.map (eL eS) ([]:List (List (List UInt8))))),some (.arr 2 (List.map AC ([]:List Al))),some (.arr 3 (List.map Au ([]:List Ax)))]⟩
def Jim:St:=⟨(1,.d (.str p1_))::(2,.ptr 0 0)::(4,.ptr 1 0)::(6,.d (.int .i64 (Aj .i64 1 (IntKind.i64.wrap (Ak p0_.N 3)))))::(7,.ptr 2 0)::(8,.d (.int .i64 i_30))::[],[some (.box (Ii p0_)),some (.box [.d (.int .i64 0),.d (.int .i64 0),.d (.str []),.osl 3 1 0 (List.length ([]:List (List (List UInt8)))),.osl 4 2 0 (List.length ([]:List Al)),.d (.int .i64 0),.d (.int .i64 0),.d (.int .i64 0),.osl 5 3 0 (List.length ([]:List Ax)),.d (.int .i64 0)]),some (.box (Gs out_53 (.osl 6 1 0 (out_53.Rows.length)) (.osl 7 2 0 (out_53.F.length)) (.osl 8 3 0 (out_53.Pic.F.length)))),some (.arr 1 (List.map (eL eS) ([]:List (List (List UInt8))))),some (.arr 2 (List.map AC ([]:List Al))),some (.arr 3 (List.map Au ([]:List Ax))),some (.arr 1 (out_53.Rows.map (eL eS))),some (.arr 2 (out_53.F.map AC)),some (.arr 3 (out_53.Pic.F.map Au))]⟩
def Jin:St:=⟨(4,.ptr 0 0)::(7,.ptr 1 0)::[],[some (.box [.d (.int .i64 0),.d (.int .i64 0),.d (.str []),.osl 2 1 0 (List.length ([]:List (List (List UInt8)))),.osl 3 2 0 (List.length ([]:List Al)),.d (.int .i64 0),.d (.int .i64 0),.d (.int .i64 0),.osl 4 3 0 (List.length ([]:List Ax)),.d (.int .i64 0)]),some (.box (Gs out_54 (.osl 5 1 0 (out_54.Rows.length)) (.osl 6 2 0 (out_54.F.length)) (.osl 7 3 0 (out_54.Pic.F.length)))),some (.arr 1 (List.map (eL eS) ([]:List (List (List UInt8))))),some (.arr 2 (List.map AC ([]:List Al))),some (.arr 3 (List.map Au ([]:List Ax))),some (.arr 1 (out_54.Rows.map (eL eS))),some (.arr 2 (out_54.F.map AC)),some (.arr 3 (out_54.Pic.F.map Au))]⟩
def Jio:St:=⟨(1,.d (.str p1_))::(2,.ptr 0 0)::(4,.ptr 1 0)::(6,.d (.int .i64 (Aj .i64 1 (IntKind.i64.wrap (Ak p0_.N 3)))))::(7,.ptr 2 0)::(8,.d (.int .i64 i_30))::(9,.osl 3 1 0 (row_3.length))::(10,.d (.int .i64 k_21))::[],[some (.box (Ii p0_)),some (.box [.d (.int .i64 0),.d (.int .i64 0),.d (.str []),.osl 4 1 0 (List.length ([]:List (List (List UInt8)))),.osl 5 2 0 (List.length ([]:List Al)),.d (.int .i64 0),.d (.int .i64 0),.d (.int .i64 0),.osl 6 3 0 (List.length ([]:List Ax)),.d (.int .i64 0)]),some (.box (Gs out_53 (.osl 7 1 0 (out_53.Rows.length)) (.osl 8 2 0 (out_53.F.length)) (.osl 9 3 0 (out_53.Pic.F.length)))),some (.arr 1 (row_3.map eS)),some (.arr 1 (List.map (eL eS) ([]:List (List (List UInt8))))),some (.arr 2 (List.map AC ([]:List Al))),some (.arr 3 (List.map Au ([]:List Ax))),some (.arr 1 (out_53.Rows.map (eL eS))),some (.arr 2 (out_53.F.map AC)),some (.arr 3 (out_53.Pic.F.map Au))]⟩
def Jip:St:=⟨(1,.d (.str p1_))::(2,.ptr 0 0)::(4,.ptr 1 0)::(6,.d (.int .i64 (Aj .i64 1 (IntKind.i64.wrap (Ak p0_.N 3)))))::(7,.ptr 2 0)::(8,.d (.int .i64 i_30))::(9,.osl 3 1 0 (row_4.length))::[],[some (.box (Ii p0_)),some (.box [.d (.int .i64 0),.d (.int .i64 0),.d (.str []),.osl 4 1 0 (List.length ([]:List (List (List UInt8)))),.osl 5 2 0 (List.length ([]:List Al)),.d (.int .i64 0),.d (.int .i64 0),.d (.int .i64 0),.osl 6 3 0 (List.length ([]:List Ax)),.d (.int .i64 0)]),some (.box (Gs out_53 (.osl 7 1 0 (out_53.Rows.length)) (.osl 8 2 0 (out_53.F.length)) (.osl 9 3 0 (out_53.Pic.F.length)))),some (.arr 1 (row_4.map eS)),some (.arr 1 (List.map (eL eS) ([]:List (List (List UInt8))))),some (.arr 2 (List.map AC ([]:List Al))),some (.arr 3 (List.map Au ([]:List Ax))),some (.arr 1 (out_53.Rows.map (eL eS))),some (.arr 2 (out_53.F.map AC)),some (.arr 3 (out_53.Pic.F.map Au))]⟩
def PJ:(List (List UInt8))->Ex->St->Prop:=xX 0 3 (λ (y:(List (List UInt8)))=>Jip p0_ p1_ out_53 i_30 y)
def JI:((List (List UInt8))×Int)->St:=(λ (x:((List (List UInt8))×Int))=>Jio p0_ p1_ out_53 i_30 x.1 x.2)
def PK:Ad->Ex->St->Prop:=xX 0 1 (λ (y:Ad)=>Jin y)
def JJ:(Ad×Int)->St:=(λ (x:(Ad×Int))=>Jim p0_ p1_ x.1 x.2)
def Jiq:St:=⟨(2,.ptr 0 0)::(4,.ptr 1 0)::(5,.d (.str r150))::(19,.d (.int .u8 (Ak p0_.Kind 9)))::(77,.d (.bool x_27))::[],[some (.box (Ii p0_)),some (.box [.d (.int .i64 0),.d (.int .i64 0),.d (.str []),.osl 2 1 0 (List.length ([]:List (List (List UInt8)))),.osl 3 2 0 (List.length ([]:List Al)),.d (.int .i64 0),.d (.int .i64 0),.d (.int .i64 0),.osl 4 3 0 (List.length ([]:List Ax)),.d (.int .i64 0)]),some (.arr 1 (List.map (eL eS) ([]:List (List (List UInt8))))),some (.arr 2 (List.map AC ([]:List Al))),some (.arr 3 (List.map Au ([]:List Ax)))]⟩
variable {p0_ p1_ r150 out_53 i_30 out_54 row_3 k_21 row_4 x_27}
theorem OD (x:((List (List UInt8))×Int)) (z:(((List (List UInt8))×Int)⊕(List (List UInt8)))) (H:Fn n p0_ p1_ out_53 i_30 x.1 x.2=some z):WP (cxk 117 0) (Aw Tryz.f44) [1,1,0,1,0,1,1,1,0,1,0,1,0,0,1,0,0,1,0,1,0,0] (Av 0 (JI p0_ p1_ out_53 i_30) (PJ p0_ p1_ out_53 i_30) z) (JI p0_ p1_ out_53 i_30 x):=by
 obtain ⟨row_3,k_21⟩:=x
 refine sq (sr (ck 3 (en (cn H (λ H=>?_) (λ H=>?_)))))
 ·exact sk (qz (sq (bk 4 (sr (ck 6 (sp (Ay eU8 p0_.T) (ck 2 (en (rz (ck 4 (bx H λ l48 h402 H=>sp (Jc7 eU8 1 h402) (ck 1 (bx H λ r151 h403 H=>ca false (Jh h403) (ck 1 (bx H λ l49 h404 H=>sp (Ba eS 3 1 h404) (ck 1 (ae (qN (qz (rz (ck 3 (ae (by cases H;exact og (sg [1,2,4,6,7,8,9,10]))))))))))))))))))))))))
 ·exact ex 3 (qx (by cases H;exact xo rfl (sg [1,2,4,6,7,8,9])))
theorem OE (x:(Ad×Int)) (z:((Ad×Int)⊕Ad)) (H:Fp n p0_ p1_ x.1 x.2=some z):WP (cxk 117 0) (Aw Tryz.f44) [1,1,0,1,0,1,1,1,0,1,0,1,0,0] (Av 0 (JJ p0_ p1_) (PK) z) (JJ p0_ p1_ x):=by
 obtain ⟨out_53,i_30⟩:=x
 refine sq (sr (ck 8 (en (cn H (λ H=>?_) (λ H=>?_)))))
 ·exact sk (qz (sq (bk 2 (sr (ck 2 (en (sq (sr (ck 1 (en (bk 3 (bx H λ y130 h405 H=>lX OD h405 (sg [1,2,4,6,7,8,9,10]) rfl λ s hE99=>qH (qs (hE99) (rg (fz (enc:=eS) (xs:=y130) 9 3 1) (ck 4 (bx H λ l50 h406 H=>sp (Ba (eL eS) 7 1 h406) (ck 2 (ae (qN (qz (rz (ck 3 (ae (by cases H;exact og (sg [1,2,4,6,7,8])))))))))))))))))))))))))
 ·exact ex 1 (qx (by cases H;exact xo rfl (sg [4,7])))
theorem Sn {z} (H:Ml n p0_ p1_=some z):Ar Tryz.prog 44 [.agg (Ii p0_),.d (.str p1_)] (.agg [.d (.int .i64 z.Kind),.d (.int .i64 z.Level),.d (.str z.Text),.own 1 (z.Rows.map (eL eS)),.d (.sl (z.F.map AC)),.d (.int .i64 z.Pic.W),.d (.int .i64 z.Pic.H),.d (.int .i64 z.Pic.Gap),.d (.sl (z.Pic.F.map Au)),.d (.int .i64 z.Page)]):=by
 refine fO 117 (Jik p0_ p1_) Tryz.func44 (sr (ck 2 (en (sr (ck 3 (bx H λ r150 h401 H=>ca false (Jh h401) (ck 1 (en (sj (λ (x:Unit)=>Jil r150) (λ (x:Unit)=>Fm n r150) z ?_ (λ hFR17_Block_J1=>?_))))))))))
 ·intro _ H
  exact sr (ck 3 (en (re (by cases H;exact pr (rO (v:=.agg [.d (.int .i64 1),.d (.int .i64 0),.d (.str r150),.d (.nil),.d (.nil),.d (.int .i64 0),.d (.int .i64 0),.d (.int .i64 0),.d (.nil),.d (.int .i64 0)]) [] (a1 (c1 vd (c1 vd (c1 vd (c1 vz (c1 vn (c1 vd (c1 vd (c1 vd (c1 vn (c1 vd (c0)))))))))))))))))
 refine sr (ck 3 (en (bk 0 (sr (ck 2 (en (cn H (λ H=>?_) (λ H=>?_))))))))
 ·exact sr (ck 8 (en (re (qR (qr (by cases H;exact pr (rO (v:=.agg [.d (.int .i64 2),.d (.int .i64 (Aj .i64 1 (IntKind.i64.wrap (Ak p0_.N 3)))),.d (.str r150),.d (.nil),.d (.nil),.d (.int .i64 0),.d (.int .i64 0),.d (.int .i64 0),.d (.nil),.d (.int .i64 0)]) [] (a1 (c1 vd (c1 vd (c1 vd (c1 vz (c1 vn (c1 vd (c1 vd (c1 vd (c1 vn (c1 vd (c0)))))))))))))))))))
 ·refine sr (ck 2 (en (cn H (λ H=>?_) (λ H=>?_))))
  ·exact sr (ck 9 (en (sq (sr (ck 1 (en (bk 1 (bx H λ y131 h407 H=>lX OE h407 (tr (tr (tr (tr (tr (tr (By 1 3 1 (by kernel_rfl)) (By 1 4 2 (by kernel_rfl))) (By 1 8 3 (by kernel_rfl))) (By 2 3 1 (by kernel_rfl))) (By 2 4 2 (by kernel_rfl))) (By 2 8 3 (by kernel_rfl))) (sg [1,2,4,6,7,8])) rfl λ s hE100=>qH (qs (hE100) (sr (ck 2 (ae (qs (tr (fzc (enc:=AC) (xs:=y131.F) 0 4 6 2) (fzc (enc:=Au) (xs:=y131.Pic.F) 0 8 7 3)) (re (qR (qr (by cases H;exact pr (rO (v:=.agg [.d (.int .i64 z.Kind),.d (.int .i64 z.Level),.d (.str z.Text),.osl 5 1 0 (z.Rows.length),.d (.sl (z.F.map AC)),.d (.int .i64 z.Pic.W),.d (.int .i64 z.Pic.H),.d (.int .i64 z.Pic.Gap),.d (.sl (z.Pic.F.map Au)),.d (.int .i64 z.Page)]) [5] (a1 (c1 vd (c1 vd (c1 vd (c1 vo (c1 vd (c1 vd (c1 vd (c1 vd (c1 vd (c1 vd (c0))))))))))))))))))))))))))))))
  ·refine sj (λ (x:Bool)=>Jiq p0_ r150 x) (λ (x:Bool)=>Dx n p0_ r150 x) z ?_ (λ hFR17_Block_J2=>?_)
   ·intro x_27 H
    refine cn H (λ H=>?_) (λ H=>?_)
    ·exact sr (ck 3 (en (re (qR (qr (by cases H;exact pr (rO (v:=.agg [.d (.int .i64 4),.d (.int .i64 0),.d (.str r150),.d (.nil),.d (.nil),.d (.int .i64 0),.d (.int .i64 0),.d (.int .i64 0),.d (.nil),.d (.int .i64 0)]) [] (a1 (c1 vd (c1 vd (c1 vd (c1 vz (c1 vn (c1 vd (c1 vd (c1 vd (c1 vn (c1 vd (c0)))))))))))))))))))
    ·refine sr (ck 2 (en (cn H (λ H=>?_) (λ H=>?_))))
     ·exact sr (ck 2 (bx H λ r152 h408 H=>ca false (TZ h408) (ck 2 (en (re (qR (qr (by cases H;exact pr (rO (v:=.agg [.d (.int .i64 5),.d (.int .i64 0),.d (.str []),.d (.nil),.d (.sl (r152.map AC)),.d (.int .i64 0),.d (.int .i64 0),.d (.int .i64 0),.d (.nil),.d (.int .i64 0)]) [] (a1 (c1 vd (c1 vd (c1 vd (c1 vz (c1 vd (c1 vd (c1 vd (c1 vd (c1 vn (c1 vd (c0)))))))))))))))))))))
     ·refine sr (ck 2 (en (cn H (λ H=>?_) (λ H=>?_))))
      ·refine sr (ck 6 (sp (Ay (Jr eU8) p0_.P.F) (ck 1 (bx H λ l51 h409 H=>sp (JaN (Jr eU8) 6 h409) (ck 3 (en (sr (ck 2 (bx H λ r153 h410 H=>ca false (T0 h410) (ck 2 (en (sr (ck 1 (bx H λ r154 h411 H=>ca false (KH h411) (en (cn H (λ H=>?_) (λ H=>?_)))))))))))))))))
       ·exact sr (ck 3 (en (re (qR (qr (by cases H;exact pr (rO (v:=.agg [.d (.int .i64 6),.d (.int .i64 0),.d (.str []),.d (.nil),.d (.nil),.d (.int .i64 r153.W),.d (.int .i64 r153.H),.d (.int .i64 r153.Gap),.d (.sl (r153.F.map Au)),.d (.int .i64 0)]) [] (a1 (c1 vd (c1 vd (c1 vd (c1 vz (c1 vn (c1 vd (c1 vd (c1 vd (c1 vd (c1 vd (c0)))))))))))))))))))
       ·exact sk (qN (qs (sg [4,5]) (hFR17_Block_J1 () H)))
      ·refine sr (ck 2 (en (cn H (λ H=>?_) (λ H=>?_))))
       ·exact sr (ck 6 (en (re (qR (qr (by cases H;exact pr (rO (v:=.agg [.d (.int .i64 7),.d (.int .i64 0),.d (.str []),.d (.nil),.d (.nil),.d (.int .i64 0),.d (.int .i64 0),.d (.int .i64 0),.d (.nil),.d (.int .i64 (Aj .i64 1 (IntKind.i64.wrap p0_.N)))]) [] (a1 (c1 vd (c1 vd (c1 vd (c1 vz (c1 vn (c1 vd (c1 vd (c1 vd (c1 vn (c1 vd (c0)))))))))))))))))))
       ·exact sk (qN (qs (sg [4,5]) (hFR17_Block_J1 () H)))
   refine sr (ck 2 (en (cn H (λ H=>?_) (λ H=>?_))))
   ·exact sk (qs (tr (tr (tr (By 1 3 1 (by kernel_rfl)) (By 1 4 2 (by kernel_rfl))) (By 1 8 3 (by kernel_rfl))) (sg [2,4,5,19,77])) (hFR17_Block_J2 ((Ak p0_.Kind 9)==3) H))
   ·exact rz (ck 2 (ae (qs (tr (tr (tr (By 1 3 1 (by kernel_rfl)) (By 1 4 2 (by kernel_rfl))) (By 1 8 3 (by kernel_rfl))) (sg [2,4,5,19,77])) (hFR17_Block_J2 ((Ak p0_.Kind 9)==4) H))))
end
section
variable (p0_:Af)
def Jir:St:=⟨(0,.agg [.d (.int .i64 p0_.W),.d (.int .i64 p0_.H),.d (.int .i64 p0_.Gap),.d (.sl (p0_.F.map Au))])::[],[]⟩
variable {p0_}
theorem Nz {z} (H:Ki n p0_=some z):Ar Tryz.prog 64 [.agg (AG p0_)] (.d (.bool z)):=by
 exact fO 22 (Jir p0_) Tryz.func64 (sr (ck 2 (en (sr (ck 5 (gc 2 (p0_.W==0) (pA (ck 2 (gc 2 ((p0_.W==0)&&(p0_.H==0)) (pA (ck 2 (gc 1 (((p0_.W==0)&&(p0_.H==0))&&(p0_.Gap==0)) (sE (g:=(((p0_.W==0)&&(p0_.H==0))&&(p0_.Gap==0))) (λ hg=>Ay Au p0_.F) (gc 1 (((p0_.W==0)&&(p0_.H==0))&&(p0_.Gap==0)) (pA (ck 1 (en (re (by cases H;exact pr rd)))))))))))))))))))
end
section
variable (p0_:Int)
def Jis:St:=⟨(0,.d (.int .u8 p0_))::[],[]⟩
variable {p0_}
theorem OF {z} (H:HW n p0_=some z):Ar Tryz.prog 87 [.d (.int .u8 p0_)] (.d (.bool z)):=by
 exact fO 11 (Jis p0_) Tryz.func87 (sr (ck 1 (en (sr (ck 5 (gc 2 (decide (D9 .u8 p0_ 127>=32)) (pA (ck 1 (en (re (by cases H;exact pr rd)))))))))))
end
section
variable (p0_:(List UInt8)) (i_31:Int)
def Jit:St:=⟨(0,.d (.str p0_))::[],[]⟩
def Jiu:St:=⟨(0,.d (.str p0_))::(4,.d (.int .i64 i_31))::[],[]⟩
def Jiv:St:=⟨(0,.d (.str p0_))::[],[]⟩
def So:(Unit⊕(Int×Int))->Ex->St->Prop:=xS (xX 0 0 (λ (y:Unit)=>Jiv p0_)) (xR ty Tryz.f68 (λ (y:(Int×Int))=>.tup [.d (.int .i64 y.1),.d (.int .i64 y.2)]))
def LX:Int->St:=(λ (x:Int)=>Jiu p0_ x)
variable {p0_ i_31}
theorem KI (x:Int) (z:(Int⊕(Unit⊕(Int×Int)))) (H:Hw n p0_ x=some z):WP (cxk 19 0) (Aw Tryz.f68) [1,0,1,0,0] (Av 0 (LX p0_) (So p0_) z) (LX p0_ x):=by
 revert H
 generalize x=i_31
 intro H
 refine sq (sr (ck 4 (en (cn H (λ H=>?_) (λ H=>?_)))))
 ·refine sk (qz (sq (bk 1 (sr (ck 2 (bx H λ b6 h412 H=>sp (F8 h412) (bx H λ r155 h413 H=>ca false (OF h413) (ck 1 (en (cn H (λ H=>?_) (λ H=>?_)))))))))))
  ·exact sr (ck 3 (en (re (qR (qr (by cases H;exact ro rfl rdT))))))
  ·exact sk (qN (qz (rz (ck 3 (ae (by cases H;exact og (sg [0,4])))))))
 ·exact ex 0 (qx (by cases H;exact xo rfl (sg [0])))
theorem VE {z} (H:Nd n p0_=some z):Ar Tryz.prog 68 [.d (.str p0_)] (.tup [.d (.int .i64 z.1),.d (.int .i64 z.2)]):=by
 refine fO 19 (Jit p0_) Tryz.func68 (sr (ck 2 (en (sq (sr (ck 1 (en (bk 0 (bx H λ y132 h414 H=>?_)))))))))
 rcases y132 with y133|y134
 ·exact lX KI h414 (sg [0,4]) rfl λ s hE101=>qH (qs (hE101) (sr (ck 4 (en (re (by cases H;exact pr rdT))))))
 ·exact lR KI h414 (sg [0,4]) rfl λ s hE102=>qR (qr (by cases H;exact pr hE102))
end
section
variable (p0_:(List UInt8))
def Jiw:St:=⟨(0,.d (.str p0_))::[],[]⟩
variable {p0_}
theorem Sp {z} (H:I7 n p0_=some z):Ar Tryz.prog 48 [.d (.str p0_)] (.d (.bool z)):=by
 exact fO 12 (Jiw p0_) Tryz.func48 (sr (ck 1 (en (sr (ck 1 (bx H λ r156 h415 H=>ca false (VE h415) (ck 5 (en (sr (ck 3 (en (re (by cases H;exact pr rd)))))))))))))
end
section
variable (p0_:Int)
def Jix:St:=⟨(0,.d (.int .u8 p0_))::[],[]⟩
variable {p0_}
theorem Gt {z} (H:Gw n p0_=some z):Ar Tryz.prog 49 [.d (.int .u8 p0_)] (.d (.bool z)):=by
 exact fO 6 (Jix p0_) Tryz.func49 (sr (ck 1 (en (sr (ck 4 (en (re (by cases H;exact pr rd))))))))
end
section
variable (p0_:(List UInt8)) (i_32:Int)
def Jiy:St:=⟨(0,.d (.str p0_))::[],[]⟩
def Jiz:St:=⟨(0,.d (.str p0_))::(3,.d (.int .i64 i_32))::[],[]⟩
def JiA:St:=⟨[],[]⟩
def RB:(Unit⊕Bool)->Ex->St->Prop:=xS (xX 0 0 (λ (y:Unit)=>JiA)) (xR ty Tryz.f33 (λ (y:Bool)=>.d (.bool y)))
def KJ:Int->St:=(λ (x:Int)=>Jiz p0_ x)
variable {p0_ i_32}
theorem JK (x:Int) (z:(Int⊕(Unit⊕Bool))) (H:I8 n p0_ x=some z):WP (cxk 47 0) (Aw Tryz.f33) [1,1,0,1,0,0] (Av 0 (KJ p0_) (RB) z) (KJ p0_ x):=by
 revert H
 generalize x=i_32
 intro H
 refine sq (sr (ck 4 (en (cn H (λ H=>?_) (λ H=>?_)))))
 ·refine sk (qz (sq (bk 1 (sr (ck 2 (bx H λ b9 h421 H=>sp (F8 h421) (bx H λ r160 h422 H=>ca false (Gt h422) (ck 3 (gc 1 r160 (bx H λ b10 h423 H=>sE (λ hg=>F8 (Bd h423 hg)) (bx H λ r161 h424 H=>cG false (leZ) rfl (λ hg=>Gt (Bd h424 hg)) (Or.inl rfl) (Cc (λ hh=>hh) (Dd)) rfl (pA (en (cn H (λ H=>?_) (λ H=>?_)))))))))))))))
  ·exact sr (ck 1 (en (re (qR (qr (by cases H;exact ro rfl rd))))))
  ·exact sk (qN (qz (rz (ck 3 (ae (by cases H;exact og (sg [0,3])))))))
 ·exact ex 0 (qx (by cases H;exact xo rfl (sg [])))
theorem EE {z} (H:Fa n p0_=some z):Ar Tryz.prog 33 [.d (.str p0_)] (.d (.bool z)):=by
 refine fO 47 (Jiy p0_) Tryz.func33 (sr (ck 1 (en (sq (sr (ck 1 (bx H λ r157 h416 H=>ca false (Sp h416) (ck 3 (gc 2 (!(!r157)) (pO (ck 2 (gc 2 (!((!r157)||(((p0_.length:Nat):Int)==0))) (pO (ck 2 (bx H λ b7 h417 H=>sE (λ hg=>F8 (Bd h417 hg)) (bx H λ r158 h418 H=>cG false (leZ) rfl (λ hg=>Gt (Bd h418 hg)) (Or.inl rfl) (Cc (λ hh=>hh) (Dd)) rfl (pO (ck 3 (gc 2 (!((((!r157)||(((p0_.length:Nat):Int)==0))||(decide (((p0_.length:Nat):Int)>400)))||r158)) (bx H λ b8 h419 H=>sE (λ hg=>F8 (Bd h419 hg)) (bx H λ r159 h420 H=>cG false (leZ) rfl (λ hg=>Gt (Bd h420 hg)) (Or.inl rfl) (Cc (λ hh=>hh) (Dd)) rfl (pO (en (cn H (λ H=>?_) (λ H=>?_)))))))))))))))))))))))))
 ·exact sr (ck 1 (en (re (qr (by cases H;exact pr rd)))))
 ·refine sk (qz (sq (sr (ck 1 (en (bk 0 (bx H λ y135 h425 H=>?_)))))))
  rcases y135 with y136|y137
  ·exact lX JK h425 (sg [0,3]) rfl λ s hE103=>qH (qs (hE103) (sr (ck 1 (en (re (by cases H;exact pr rd))))))
  ·exact lR JK h425 (sg [0,3]) rfl λ s hE104=>qR (qr (by cases H;exact pr hE104))
end
section
variable (p0_:(List (List (List UInt8)))) (i_33:Int) (k_22:Int)
def JiB:St:=⟨(0,.d (.sl (p0_.map (eL eS))))::[],[]⟩
def JiC:St:=⟨(0,.d (.sl (p0_.map (eL eS))))::(3,.d (.int .i64 i_33))::[],[]⟩
def JiD:St:=⟨[],[]⟩
def JiE:St:=⟨(0,.d (.sl (p0_.map (eL eS))))::(3,.d (.int .i64 i_33))::(4,.d (.int .i64 k_22))::[],[]⟩
def JiF:St:=⟨(0,.d (.sl (p0_.map (eL eS))))::(3,.d (.int .i64 i_33))::[],[]⟩
def NA:(Unit⊕Bool)->Ex->St->Prop:=xS (xX 0 2 (λ (y:Unit)=>JiF p0_ i_33)) (xR ty Tryz.f65 (λ (y:Bool)=>.d (.bool y)))
def HF:Int->St:=(λ (x:Int)=>JiE p0_ i_33 x)
def NB:(Unit⊕Bool)->Ex->St->Prop:=xS (xX 0 0 (λ (y:Unit)=>JiD)) (xR ty Tryz.f65 (λ (y:Bool)=>.d (.bool y)))
def HG:Int->St:=(λ (x:Int)=>JiC p0_ x)
variable {p0_ i_33 k_22}
theorem G3 (x:Int) (z:(Int⊕(Unit⊕Bool))) (H:DD n p0_ i_33 x=some z):WP (cxk 74 0) (Aw Tryz.f65) [1,1,0,1,0,0,1,0,0,1,1,0,0] (Av 0 (HF p0_ i_33) (NA p0_ i_33) z) (HF p0_ i_33 x):=by
 revert H
 generalize x=k_22
 intro H
 refine sq (sr (ck 3 (bx H λ x116 h430 H=>sp (Am (eL eS) h430) (ck 1 (sp (Ay eS x116) (ck 1 (en (cn H (λ H=>?_) (λ H=>?_)))))))))
 ·refine sk (qz (sq (bk 3 (sr (ck 2 (bx H λ x117 h431 H=>sp (Am (eL eS) h431) (ck 2 (bx H λ x118 h432 H=>sp (Am eS h432) (ck 1 (bx H λ r162 h433 H=>ca false (EE h433) (ck 4 (bx H λ x119 h434 H=>sE (λ hg=>Am (eL eS) (Bd h434 hg)) (gc 1 (!(!r162)) (ck 1 (bx H λ x120 h435 H=>sE (λ hg=>Am eS (Bd h435 hg)) (gc 3 (!(!r162)) (pO (en (cn H (λ H=>?_) (λ H=>?_))))))))))))))))))))
  ·exact sr (ck 1 (en (re (qR (qr (by cases H;exact ro rfl rd))))))
  ·exact sk (qN (qz (rz (ck 3 (ae (by cases H;exact og (sg [0,3,4])))))))
 ·exact ex 2 (qx (by cases H;exact xo rfl (sg [0,3])))
theorem G4 (x:Int) (z:(Int⊕(Unit⊕Bool))) (H:DE n p0_ x=some z):WP (cxk 74 0) (Aw Tryz.f65) [1,1,0,1,0,0] (Av 0 (HG p0_) (NB) z) (HG p0_ x):=by
 revert H
 generalize x=i_33
 intro H
 refine sq (sr (ck 2 (sp (Ay (eL eS) p0_) (ck 1 (en (cn H (λ H=>?_) (λ H=>?_)))))))
 ·refine sk (qz (sq (bk 1 (sq (sr (ck 2 (bx H λ x112 h426 H=>sp (Am (eL eS) h426) (ck 1 (sp (Ay eS x112) (ck 1 (bx H λ x113 h427 H=>sp (Am (eL eS) h427) (ck 1 (sp (Ay eS x113) (ck 4 (bx H λ x114 h428 H=>sE (λ hg=>Am (eL eS) (Bd h428 hg)) (gc 1 (!(((x112.length:Nat):Int) != ((x113.length:Nat):Int))) (sE (g:=(!(((x112.length:Nat):Int) != ((x113.length:Nat):Int)))) (λ hg=>Ay eS x114) (gc 1 (!(((x112.length:Nat):Int) != ((x113.length:Nat):Int))) (pO (ck 3 (bx H λ x115 h429 H=>sE (λ hg=>Am (eL eS) (Bd h429 hg)) (gc 1 (!((((x112.length:Nat):Int) != ((x113.length:Nat):Int))||(decide (((x114.length:Nat):Int)<1)))) (sE (g:=(!((((x112.length:Nat):Int) != ((x113.length:Nat):Int))||(decide (((x114.length:Nat):Int)<1))))) (λ hg=>Ay eS x115) (gc 1 (!((((x112.length:Nat):Int) != ((x113.length:Nat):Int))||(decide (((x114.length:Nat):Int)<1)))) (pO (en (cn H (λ H=>?_) (λ H=>?_))))))))))))))))))))))))))))
  ·exact sr (ck 1 (en (re (qr (qR (qr (by cases H;exact ro rfl rd)))))))
  ·refine sk (qz (sr (ck 1 (en (bk 2 (bx H λ y138 h436 H=>?_))))))
   rcases y138 with y139|y140
   ·exact lX G3 h436 (sg [0,3,4]) rfl λ s hE105=>qH (qN (qs (hE105) (rz (ck 3 (ae (by cases H;exact og (sg [0,3])))))))
   ·exact lR G3 h436 (sg [0,3,4]) rfl λ s hE106=>qR (qR (qr (by cases H;exact ro rfl hE106)))
 ·exact ex 0 (qx (by cases H;exact xo rfl (sg [])))
theorem PL {z} (H:Ey n p0_=some z):Ar Tryz.prog 65 [.d (.sl (p0_.map (eL eS)))] (.d (.bool z)):=by
 refine fO 74 (JiB p0_) Tryz.func65 (sr (ck 1 (en (sq (sr (ck 1 (sp (Ay (eL eS) p0_) (ck 3 (sE (g:=(!(decide (((p0_.length:Nat):Int)<1)))) (λ hg=>Ay (eL eS) p0_) (gc 1 (!(decide (((p0_.length:Nat):Int)<1))) (pO (en (cn H (λ H=>?_) (λ H=>?_))))))))))))))
 ·exact sr (ck 1 (en (re (qr (by cases H;exact pr rd)))))
 ·refine sk (qz (sq (sr (ck 1 (en (bk 0 (bx H λ y141 h437 H=>?_)))))))
  rcases y141 with y142|y143
  ·exact lX G4 h437 (sg [0,3]) rfl λ s hE107=>qH (qs (hE107) (sr (ck 1 (en (re (by cases H;exact pr rd))))))
  ·exact lR G4 h437 (sg [0,3]) rfl λ s hE108=>qR (qr (by cases H;exact pr hE108))
end
section
variable (p0_:(List Ad)) (p1_:Int) (text_1:Bool) (level_1:Bool) (rows_1:Bool) (tree_1:Bool) (picture_1:Bool) (page_1:Bool) (x121:Ad) (r163:Bool) (page_2:Bool) (k_23:Int) (page_3:Bool)
def JiG:St:=⟨(0,.d (.sl (p0_.map An)))::(1,.d (.int .i64 p1_))::[],[]⟩
def JiH:St:=⟨(6,.d (.bool text_1))::(7,.d (.bool level_1))::(8,.d (.bool rows_1))::(9,.d (.bool tree_1))::(10,.d (.bool picture_1))::(11,.d (.bool page_1))::[],[]⟩
def JiI:St:=⟨(0,.d (.sl (p0_.map An)))::(1,.d (.int .i64 p1_))::(5,.ptr 0 0)::(6,.d (.bool (x121.Text==[])))::(7,.d (.bool (x121.Level==0)))::(8,.d (.bool (((x121.Rows.length:Nat):Int)==0)))::(9,.d (.bool (((x121.F.length:Nat):Int)==0)))::(10,.d (.bool r163))::(11,.d (.bool page_2))::(12,.d (.int .i64 k_23))::[],[some (.box (TO x121))]⟩
def JiJ:St:=⟨(6,.d (.bool (x121.Text==[])))::(7,.d (.bool (x121.Level==0)))::(8,.d (.bool (((x121.Rows.length:Nat):Int)==0)))::(9,.d (.bool (((x121.F.length:Nat):Int)==0)))::(10,.d (.bool r163))::(11,.d (.bool page_3))::[],[]⟩
def PM:Bool->Ex->St->Prop:=xX 0 1 (λ (y:Bool)=>JiJ x121 r163 y)
def JL:(Bool×Int)->St:=(λ (x:(Bool×Int))=>JiI p0_ p1_ x121 r163 x.1 x.2)
variable {p0_ p1_ text_1 level_1 rows_1 tree_1 picture_1 page_1 x121 r163 page_2 k_23 page_3}
theorem OG (x:(Bool×Int)) (z:((Bool×Int)⊕Bool)) (H:Fq n p0_ p1_ x121 r163 x.1 x.2=some z):WP (cxk 149 0) (Aw Tryz.f45) [1,1,1,1,0,1,0,1,1,1,1,1,1,1,1,1,1,1,1,1,0,1,1,0,0] (Av 0 (JL p0_ p1_ x121 r163) (PM x121 r163) z) (JL p0_ p1_ x121 r163 x):=by
 obtain ⟨page_2,k_23⟩:=x
 refine sq (sr (ck 3 (en (cn H (λ H=>?_) (λ H=>?_)))))
 ·exact sk (qz (sq (bk 2 (rz (ck 4 (bx H λ x124 h448 H=>sE (λ hg=>Am An (Bd h448 hg)) (gc 4 page_2 (ck 2 (bx H λ x125 h449 H=>sE (λ hg=>Am An (Bd h449 hg)) (gc 2 (page_2&&!(x124.Kind != 7)) (ck 1 (gc 2 (page_2&&!(x124.Kind != 7)) (pG (g:=page_2) (v:=.d (.bool ((x124.Kind != 7)||(decide (x125.Page<x121.Page))))) (λ hg=>DW (c:=.gv page_2 (.d (.bool (x124.Kind != 7)))) (a:=.d (.bool true)) (b:=.gv (page_2&&!(x124.Kind != 7)) (.d (.bool (decide (x125.Page<x121.Page))))) rfl rfl rfl ((λ hh=>hh) hg) trivial (λ ht=>by rw [(λ hh=>hh) hg,ht];rfl)) (pA (ck 1 (ae (qN (qz (rz (ck 3 (ae (by cases H;exact og (sg [0,1,5,6,7,8,9,10,11,12])))))))))))))))))))))))
 ·exact ex 1 (qx (by cases H;exact xo rfl (sg [6,7,8,9,10,11])))
theorem LY {z} (H:I9 n p0_ p1_=some z):Ar Tryz.prog 45 [.d (.sl (p0_.map An)),.d (.int .i64 p1_)] (.d (.bool z)):=by
 refine fO 149 (JiG p0_ p1_) Tryz.func45 (sr (ck 1 (en (sr (ck 2 (bx H λ x121 h438 H=>sp (Am An h438) (ck 3 (en (sr (ck 8 (en (sr (ck 2 (sp (Ay (eL eS) x121.Rows) (ck 3 (sp (Ay AC x121.F) (ck 3 (bx H λ r163 h439 H=>ca false (Nz h439) (ck 7 (en (sj (λ (x:(Bool×Bool×Bool×Bool×Bool×Bool))=>JiH x.1 x.2.1 x.2.2.1 x.2.2.2.1 x.2.2.2.2.1 x.2.2.2.2.2) (λ (x:(Bool×Bool×Bool×Bool×Bool×Bool))=>B2 n x.1 x.2.1 x.2.2.1 x.2.2.2.1 x.2.2.2.2.1 x.2.2.2.2.2) z ?_ (λ hFR17_Right_J1=>?_))))))))))))))))))))))
 ·rintro ⟨text_1,level_1,rows_1,tree_1,picture_1,page_1⟩ H
  exact sr (ck 3 (pA (ck 2 (pA (ck 2 (pA (ck 2 (pA (ck 2 (pA (ck 1 (en (re (by cases H;exact pr rd))))))))))))))
 refine sr (ck 2 (en (bk 0 (sr (ck 2 (en (cn H (λ H=>?_) (λ H=>?_))))))))
 ·exact rz (ck 2 (bx H λ r164 h440 H=>ca false (EE h440) (ck 1 (ae (qN (qs (sg [6,7,8,9,10,11]) (hFR17_Right_J1 (r164,(x121.Level==0),(((x121.Rows.length:Nat):Int)==0),(((x121.F.length:Nat):Int)==0),r163,(x121.Page==0)) H)))))))
 ·refine sr (ck 2 (en (cn H (λ H=>?_) (λ H=>?_))))
  ·exact rz (ck 2 (bx H λ r165 h441 H=>ca false (EE h441) (ck 5 (gc 2 (decide (x121.Level>=1)) (pA (ck 2 (ae (qN (qs (sg [6,7,8,9,10,11]) (hFR17_Right_J1 (r165,((decide (x121.Level>=1))&&(decide (x121.Level<=3))),(((x121.Rows.length:Nat):Int)==0),(((x121.F.length:Nat):Int)==0),r163,(x121.Page==0)) H))))))))))
  ·refine sr (ck 2 (en (cn H (λ H=>?_) (λ H=>?_))))
   ·exact rz (ck 2 (bx H λ r166 h442 H=>ca false (PL h442) (ck 1 (ae (qN (qs (sg [6,7,8,9,10,11]) (hFR17_Right_J1 ((x121.Text==[]),(x121.Level==0),r166,(((x121.F.length:Nat):Int)==0),r163,(x121.Page==0)) H)))))))
   ·refine sr (ck 2 (en (cn H (λ H=>?_) (λ H=>?_))))
    ·exact rz (ck 2 (bx H λ r167 h443 H=>ca false (EE h443) (ck 2 (gc 1 r167 (pA (ck 3 (gc 1 (r167&&(decide (p1_>0))) (bx H λ x122 h444 H=>sE (λ hg=>Am An (Bd h444 hg)) (gc 4 (r167&&(decide (p1_>0))) (ck 2 (gc 1 ((r167&&(decide (p1_>0)))&&!(x122.Kind==1)) (bx H λ x123 h445 H=>sE (λ hg=>Am An (Bd h445 hg)) (gc 3 ((r167&&(decide (p1_>0)))&&!(x122.Kind==1)) (pG (g:=(r167&&(decide (p1_>0)))) (v:=.d (.bool ((x122.Kind==1)||(x123.Kind==4)))) (λ hg=>DW (c:=.gv (r167&&(decide (p1_>0))) (.d (.bool (x122.Kind==1)))) (a:=.d (.bool true)) (b:=.gv ((r167&&(decide (p1_>0)))&&!(x122.Kind==1)) (.d (.bool (x123.Kind==4)))) rfl rfl rfl ((λ hh=>hh) hg) trivial (λ ht=>by rw [(λ hh=>hh) hg,ht];rfl)) (pA (ck 1 (ae (qN (qs (sg [6,7,8,9,10,11]) (hFR17_Right_J1 (((r167&&(decide (p1_>0)))&&((x122.Kind==1)||(x123.Kind==4))),(x121.Level==0),(((x121.Rows.length:Nat):Int)==0),(((x121.F.length:Nat):Int)==0),r163,(x121.Page==0)) H))))))))))))))))))))
    ·refine sr (ck 2 (en (cn H (λ H=>?_) (λ H=>?_))))
     ·exact rz (ck 2 (bx H λ r168 h446 H=>ca false (Nk h446) (ck 1 (ae (qN (qs (sg [6,7,8,9,10,11]) (hFR17_Right_J1 ((x121.Text==[]),(x121.Level==0),(((x121.Rows.length:Nat):Int)==0),r168,r163,(x121.Page==0)) H)))))))
     ·refine sr (ck 2 (en (cn H (λ H=>?_) (λ H=>?_))))
      ·exact rz (ck 2 (bx H λ r169 h447 H=>ca false (KH h447) (ck 1 (ae (qN (qs (sg [6,7,8,9,10,11]) (hFR17_Right_J1 ((x121.Text==[]),(x121.Level==0),(((x121.Rows.length:Nat):Int)==0),(((x121.F.length:Nat):Int)==0),r169,(x121.Page==0)) H)))))))
      ·refine sr (ck 2 (en (cn H (λ H=>?_) (λ H=>?_))))
       ·exact sr (ck 5 (gc 2 (decide (x121.Page>=1)) (pA (ck 1 (en (sr (ck 1 (en (bk 1 (bx H λ y144 h450 H=>lX OG h450 (sg [0,1,5,6,7,8,9,10,11,12]) rfl λ s hE109=>qH (qN (qs (tr (hE109) (sg [6,7,8,9,10,11])) (hFR17_Right_J1 ((x121.Text==[]),(x121.Level==0),(((x121.Rows.length:Nat):Int)==0),(((x121.F.length:Nat):Int)==0),r163,y144) H)))))))))))))
       ·exact sr (ck 1 (en (re (qR (qr (by cases H;exact pr rd))))))
end
section
variable (p0_:(List A7)) (p1_:Int) (p2_:(List UInt8)) (out_55:(List Ad)) (i_34:Int) (out_56:(List Ad)) (out_57:(List Ad))
def JiK:St:=⟨(0,.d (.sl (p0_.map BM)))::(1,.d (.int .i64 p1_))::(2,.d (.str p2_))::[],[]⟩
def JiL:St:=⟨(0,.d (.sl (p0_.map BM)))::(1,.d (.int .i64 p1_))::(2,.d (.str p2_))::(7,.osl 0 10 0 (out_55.length))::(8,.d (.int .i64 i_34))::[],[some (.arr 10 (out_55.map An))]⟩
def JiM:St:=⟨(7,.osl 0 10 0 (out_56.length))::[],[some (.arr 10 (out_56.map An))]⟩
def JiN:St:=⟨(0,.d (.sl (p0_.map BM)))::(1,.d (.int .i64 p1_))::(2,.d (.str p2_))::(7,.osl 0 10 0 (out_57.length))::(8,.d (.int .i64 i_34))::[],[some (.arr 10 (out_57.map An))]⟩
def RC:(List Ad)->Ex->St->Prop:=xX 0 0 (λ (y:(List Ad))=>JiM y)
def KK:((List Ad)×Int)->St:=(λ (x:((List Ad)×Int))=>JiL p0_ p1_ p2_ x.1 x.2)
variable {p0_ p1_ p2_ out_55 i_34 out_56 out_57}
theorem PN (x:((List Ad)×Int)) (z:(((List Ad)×Int)⊕(List Ad))) (H:Gp n p0_ p1_ p2_ x.1 x.2=some z):WP (cxk 42 0) (Aw Tryz.f29) [1,1,0,1,0,0] (Av 0 (KK p0_ p1_ p2_) (RC) z) (KK p0_ p1_ p2_ x):=by
 obtain ⟨out_55,i_34⟩:=x
 refine sq (sr (ck 2 (sp (Ay BM p0_) (ck 4 (gc 1 (decide (i_34<((p0_.length:Nat):Int))) (pA (en (cn H (λ H=>?_) (λ H=>?_)))))))))
 ·refine sk (qz (sj (λ (x:(List Ad))=>JiN p0_ p1_ p2_ i_34 x) (λ (x:(List Ad))=>Ja n i_34 x) z ?_ (λ hFR17_Made_J1=>?_)))
  ·intro out_57 H
   exact rz (ck 3 (ae (by cases H;exact og (sg [0,1,2,7,8]))))
  refine bk 1 (sr (ck 3 (bx H λ x126 h451 H=>sp (Am BM h451) (ck 2 (bx H λ r170 h452 H=>ca false (Sn h452) (ck 1 (bx H λ l52 h453 H=>sp (Ba An 0 10 h453) (ck 1 (en (sr (ck 4 (bx H λ r171 h454 H=>cb (ks:=[2]) (obl:=[(0+List.length l52,List.length (l52.map An))]) false (leK leM (leZ)) (CO GB (CO rfl rfl)) (LY h454) (Or.inr trivial) rfl (ck 1 (en (cn H (λ H=>?_) (λ H=>?_))))))))))))))))
  ·exact rz (ck 4 (bx H λ l53 h455 H=>sp (Mf 2 10 h455) (ck 1 (ae (qN (qs (tr (JaC (k:=2) (sz:=10) 7 (l53.map An) (l53.length) (by kernel_rfl) (PZ h455) (TG (enc:=An) h455) (XM h455)) (sg [0,1,2,7,8])) (hFR17_Made_J1 l53 H)))))))
  ·exact sk (qN (qs (sg [0,1,2,7,8]) (hFR17_Made_J1 l52 H)))
 ·exact ex 0 (qx (by cases H;exact xo rfl (sg [7])))
theorem T5 {z} (H:N8 n p0_ p1_ p2_=some z):Ar Tryz.prog 29 [.d (.sl (p0_.map BM)),.d (.int .i64 p1_),.d (.str p2_)] (.own 10 (z.map An)):=by
 exact fO 42 (JiK p0_ p1_ p2_) Tryz.func29 (sr (ck 1 (en (sr (ck 2 (en (sq (sr (ck 1 (en (bk 0 (bx H λ y145 h456 H=>lX PN h456 (sg [0,1,2,7,8]) rfl λ s hE110=>qH (qs (hE110) (sr (ck 2 (en (re (by cases H;exact pr (rO (v:=.osl 0 10 0 (z.length)) [0] (ao vo))))))))))))))))))))
end
section
variable (p0_:(List A7))
def Jkp:St:=⟨(0,.d (.sl (p0_.map BM)))::[],[]⟩
variable {p0_}
theorem T6 {z} (H:N9 n p0_=some z):Ar Tryz.prog 9 [.d (.sl (p0_.map BM))] (.own 10 (z.map An)):=by
 exact fO 5 (Jkp p0_) Tryz.func9 (sr (ck 1 (en (sr (ck 1 (bx H λ r172 h457 H=>cl [List.length r172] (T5 h457) (ck 1 (en (re (by cases H;exact pr (rO (v:=.osl 0 10 0 (z.length)) [0] (ao vo))))))))))))
end
section
variable (p0_:(List Ad)) (p1_:Int)
def JiO:St:=⟨(0,.d (.sl (p0_.map An)))::(1,.d (.int .i64 p1_))::[],[]⟩
variable {p0_ p1_}
theorem KL {z} (H:FD n p0_ p1_=some z):Ar Tryz.prog 22 [.d (.sl (p0_.map An)),.d (.int .i64 p1_)] (.d (.bool z)):=by
 exact fO 37 (JiO p0_ p1_) Tryz.func22 (sr (ck 1 (en (sr (ck 5 (sE (g:=decide (p1_>=0)) (λ hg=>Ay An p0_) (gc 1 (decide (p1_>=0)) (pA (ck 3 (bx H λ x127 h458 H=>sE (λ hg=>Am An (Bd h458 hg)) (gc 4 ((decide (p1_>=0))&&(decide (p1_<((p0_.length:Nat):Int)))) (ck 2 (bx H λ x128 h459 H=>sE (λ hg=>Am An (Bd h459 hg)) (gc 3 (((decide (p1_>=0))&&(decide (p1_<((p0_.length:Nat):Int))))&&!(x127.Kind==1)) (pG (g:=((decide (p1_>=0))&&(decide (p1_<((p0_.length:Nat):Int))))) (v:=.d (.bool ((x127.Kind==1)||(x128.Kind==2)))) (λ hg=>DW (c:=.gv ((decide (p1_>=0))&&(decide (p1_<((p0_.length:Nat):Int)))) (.d (.bool (x127.Kind==1)))) (a:=.d (.bool true)) (b:=.gv (((decide (p1_>=0))&&(decide (p1_<((p0_.length:Nat):Int))))&&!(x127.Kind==1)) (.d (.bool (x128.Kind==2)))) rfl rfl rfl ((λ hh=>hh) hg) trivial (λ ht=>by rw [(λ hh=>hh) hg,ht];rfl)) (gc 1 ((decide (p1_>=0))&&(decide (p1_<((p0_.length:Nat):Int)))) (ck 2 (bx H λ x129 h460 H=>sE (λ hg=>Am An (Bd h460 hg)) (gc 3 (((decide (p1_>=0))&&(decide (p1_<((p0_.length:Nat):Int))))&&!((x127.Kind==1)||(x128.Kind==2))) (pG (g:=((decide (p1_>=0))&&(decide (p1_<((p0_.length:Nat):Int))))) (v:=.d (.bool (((x127.Kind==1)||(x128.Kind==2))||(x129.Kind==4)))) (λ hg=>DW (c:=.gv ((decide (p1_>=0))&&(decide (p1_<((p0_.length:Nat):Int)))) (.d (.bool ((x127.Kind==1)||(x128.Kind==2))))) (a:=.d (.bool true)) (b:=.gv (((decide (p1_>=0))&&(decide (p1_<((p0_.length:Nat):Int))))&&!((x127.Kind==1)||(x128.Kind==2))) (.d (.bool (x129.Kind==4)))) rfl rfl rfl ((λ hh=>hh) hg) trivial (λ ht=>by rw [(λ hh=>hh) hg,ht];rfl)) (pA (ck 1 (en (re (by cases H;exact pr rd)))))))))))))))))))))))))
end
end Go.AI
end
section
namespace Go.AI
open Go.Proofs
set_option maxRecDepth 10000
variable {n:Nat}
section
variable (p0_:(List Ad)) (p1_:AY) (p2_:(List UInt8)) (l_1:(List Int)) (i_35:Int) (l_2:(List Int)) (l_3:(List Int)) (c_4:Ab)
def JiP:St:=⟨(0,.d (.sl (p0_.map An)))::(1,.agg [.d (.int .u8 p1_.Block),.d (.int .u8 p1_.At),.d (.int .u8 p1_.Cut),.d (.sl (p1_.Put.map eU8))])::(2,.d (.str p2_))::[],[]⟩
def JiQ:St:=⟨(0,.d (.sl (p0_.map An)))::(2,.d (.str p2_))::(4,.ptr 0 0)::(6,.ptr 1 0)::(7,.osl 2 1 0 (l_1.length))::(8,.d (.int .i64 i_35))::[],[some (.box (DF p1_)),some (.box [.d (.int .i64 0),.d (.int .i64 0),.d (.int .i64 0),.d (.str [])]),some (.arr 1 (l_1.map A9))]⟩
def JiR:St:=⟨(0,.d (.sl (p0_.map An)))::(2,.d (.str p2_))::(4,.ptr 0 0)::(6,.ptr 1 0)::(7,.osl 2 1 0 (l_2.length))::[],[some (.box (DF p1_)),some (.box [.d (.int .i64 0),.d (.int .i64 0),.d (.int .i64 0),.d (.str [])]),some (.arr 1 (l_2.map A9))]⟩
def JiS:St:=⟨(0,.d (.sl (p0_.map An)))::(2,.d (.str p2_))::(4,.ptr 0 0)::(6,.ptr 1 0)::(7,.osl 2 1 0 (l_3.length))::(8,.d (.int .i64 i_35))::[],[some (.box (DF p1_)),some (.box [.d (.int .i64 0),.d (.int .i64 0),.d (.int .i64 0),.d (.str [])]),some (.arr 1 (l_3.map A9))]⟩
def RD:(List Int)->Ex->St->Prop:=xX 0 0 (λ (y:(List Int))=>JiR p0_ p1_ p2_ y)
def KM:((List Int)×Int)->St:=(λ (x:((List Int)×Int))=>JiQ p0_ p1_ p2_ x.1 x.2)
def JiT:St:=⟨(6,.ptr 0 0)::(9,.ptr 1 0)::[],[some (.box [.d (.int .i64 0),.d (.int .i64 0),.d (.int .i64 0),.d (.str [])]),some (.box (Co c_4))]⟩
variable {p0_ p1_ p2_ l_1 i_35 l_2 l_3 c_4}
theorem PO (x:((List Int)×Int)) (z:(((List Int)×Int)⊕(List Int))) (H:Gq n p0_ p1_ p2_ x.1 x.2=some z):WP (cxk 77 0) (Aw Tryz.f10) [1,1,0,1,0,0] (Av 0 (KM p0_ p1_ p2_) (RD p0_ p1_ p2_) z) (KM p0_ p1_ p2_ x):=by
 obtain ⟨l_1,i_35⟩:=x
 refine sq (sr (ck 2 (sp (Ay An p0_) (ck 1 (en (cn H (λ H=>?_) (λ H=>?_)))))))
 ·refine sk (qz (sj (λ (x:(List Int))=>JiS p0_ p1_ p2_ i_35 x) (λ (x:(List Int))=>Jb n i_35 x) z ?_ (λ hFR32_Made_J1=>?_)))
  ·intro l_3 H
   exact rz (ck 3 (ae (by cases H;exact og (sg [0,2,4,6,7,8]))))
  refine bk 1 (sr (ck 2 (bx H λ r173 h461 H=>ca false (KL h461) (en (cn H (λ H=>?_) (λ H=>?_))))))
  ·exact rz (ck 3 (bx H λ l54 h462 H=>sp (Ba A9 2 1 h462) (ck 1 (ae (qN (qs (sg [0,2,4,6,7,8]) (hFR32_Made_J1 l54 H)))))))
  ·exact sk (qN (qs (sg [0,2,4,6,7,8]) (hFR32_Made_J1 l_1 H)))
 ·exact ex 0 (qx (by cases H;exact xo rfl (sg [0,2,4,6,7])))
theorem T7 {z} (H:Oa n p0_ p1_ p2_=some z):Ar Tryz.prog 10 [.d (.sl (p0_.map An)),.agg (DF p1_),.d (.str p2_)] (.agg [.d (.int .i64 z.Block),.d (.int .i64 z.At),.d (.int .i64 z.Cut),.d (.str z.Put)]):=by
 refine fO 77 (JiP p0_ p1_ p2_) Tryz.func10 (sr (ck 2 (en (sr (ck 2 (en (sq (sr (ck 1 (en (bk 0 (bx H λ y146 h463 H=>lX PO h463 (sg [0,2,4,6,7,8]) rfl λ s hE111=>qH (qs (hE111) (sq (sr (ck 3 (en (cn H (λ H=>?_) (λ H=>?_)))))))))))))))))))
 ·exact sr (ck 5 (en (re (qr (by cases H;exact pr rd)))))
 ·refine sk (qz (sr (ck 6 (bx H λ gd12 h464 H=>so (Eb h464) (bx H λ x130 h465 H=>sp (A2 2 1 h465) (sp (Bs A9 2 0 (ty 3) h465) (ck 3 (en (sr (ck 3 (bx H λ x131 h466 H=>sp (Am An h466) (ck 4 (en (sr (ck 5 (bx H λ gd13 h467 H=>so (Eb h467) (ck 2 (en (sr (ck 9 (bx H λ gd14 h468 H=>so (Eb h468) (ck 2 (en (sj (λ (x:Ab)=>JiT x) (λ (x:Ab)=>Jc n x) z ?_ (λ hFR32_Made_J2=>?_)))))))))))))))))))))))))
  ·intro c_4 H
   exact sr (ck 2 (en (re (by cases H;exact pr rd))))
  refine sr (ck 2 (sp (Ay eU8 p1_.Put) (ck 1 (en (cn H (λ H=>?_) (λ H=>?_))))))
  ·exact rz (ck 3 (bx H λ r174 h469 H=>ca false (Jh h469) (ck 2 (ae (qs (sg [6,9]) (hFR32_Made_J2 ({ Block:=x130,At:=Ak (IntKind.i64.wrap p1_.At) (Aj .i64 ((x131.Text.length:Nat):Int) 1),Cut:=Ak (IntKind.i64.wrap (Ak p1_.Cut 4)) (Aj .i64 (AT .i64 ((x131.Text.length:Nat):Int) (Ak (IntKind.i64.wrap p1_.At) (Aj .i64 ((x131.Text.length:Nat):Int) 1))) 1),Put:=r174 }:Ab) H))))))
  ·exact sk (qs (sg [6,9]) (hFR32_Made_J2 ({ Block:=x130,At:=Ak (IntKind.i64.wrap p1_.At) (Aj .i64 ((x131.Text.length:Nat):Int) 1),Cut:=Ak (IntKind.i64.wrap (Ak p1_.Cut 4)) (Aj .i64 (AT .i64 ((x131.Text.length:Nat):Int) (Ak (IntKind.i64.wrap p1_.At) (Aj .i64 ((x131.Text.length:Nat):Int) 1))) 1),Put:=[] }:Ab) H))
end
section
variable (p0_:(List UInt8)) (p1_:Ab)
def JiU:St:=⟨(0,.d (.str p0_))::(1,.agg [.d (.int .i64 p1_.Block),.d (.int .i64 p1_.At),.d (.int .i64 p1_.Cut),.d (.str p1_.Put)])::[],[]⟩
variable {p0_ p1_}
theorem T8 {z} (H:K9 n p0_ p1_=some z):Ar Tryz.prog 23 [.d (.str p0_),.agg (Co p1_)] (.tup [.d (.str z.1),.d (.bool z.2)]):=by
 refine fO 46 (JiU p0_ p1_) Tryz.func23 (sr (ck 3 (en (sq (sr (ck 5 (gc 2 (!(decide (p1_.At<0))) (pO (ck 2 (gc 1 (!((decide (p1_.At<0))||(decide (p1_.Cut<0)))) (ck 1 (gc 2 (!((decide (p1_.At<0))||(decide (p1_.Cut<0)))) (pO (ck 2 (gc 1 (!(((decide (p1_.At<0))||(decide (p1_.Cut<0)))||(decide (p1_.At>((p0_.length:Nat):Int))))) (ck 1 (gc 1 (!(((decide (p1_.At<0))||(decide (p1_.Cut<0)))||(decide (p1_.At>((p0_.length:Nat):Int))))) (ck 1 (gc 3 (!(((decide (p1_.At<0))||(decide (p1_.Cut<0)))||(decide (p1_.At>((p0_.length:Nat):Int))))) (pO (en (cn H (λ H=>?_) (λ H=>?_)))))))))))))))))))))))
 ·exact sr (ck 2 (en (re (qr (by cases H;exact pr rdT)))))
 ·exact sk (qz (sr (ck 3 (bx H λ s10 h470 H=>sp (Hl h470) (ck 2 (bx H λ s11 h471 H=>sp (NX h471) (ck 6 (bx H λ s12 h472 H=>sp (Hl h472) (bx H λ s13 h473 H=>sp (NX h473) (ck 2 (en (re (by cases H;exact pr rdT)))))))))))))
end
section
variable (p0_:(List Ad)) (p1_:Ab)
def JiV:St:=⟨(0,.d (.sl (p0_.map An)))::(1,.agg [.d (.int .i64 p1_.Block),.d (.int .i64 p1_.At),.d (.int .i64 p1_.Cut),.d (.str p1_.Put)])::[],[]⟩
variable {p0_ p1_}
theorem Sr {z} (H:Jd n p0_ p1_=some z):Ar Tryz.prog 12 [.d (.sl (p0_.map An)),.agg (Co p1_)] (.tup [.own 10 (z.1.map An),.d (.int .i64 z.2)]):=by
 refine fO 42 (JiV p0_ p1_) Tryz.func12 (sr (ck 3 (en (sq (sr (ck 3 (bx H λ r175 h474 H=>ca false (KL h474) (ck 1 (en (cn H (λ H=>?_) (λ H=>?_)))))))))))
 ·exact sr (ck 2 (en (re (qr (by cases H;exact pr (rT (vs:=[.d (.nil),.d (.int .i64 320)]) [] (t1 (ad vz) (t1 (ad vd) (t0)))))))))
 ·refine sk (qz (sr (ck 3 (bx H λ x132 h475 H=>sp (Am An h475) (ck 3 (bx H λ r176 h476 H=>ca false (T8 h476) (ck 5 (en (sq (sr (ck 4 (bx H λ r177 h477 H=>cG false (leZ) rfl (λ hg=>EE (Bd h477 hg)) (Or.inl rfl) (Cc (λ hh=>hh) (Dd)) rfl (gc 1 (!(!r176.2)) (pO (en (cn H (λ H=>?_) (λ H=>?_)))))))))))))))))
  ·exact sr (ck 2 (en (re (qr (by cases H;exact pr (rT (vs:=[.d (.nil),.d (.int .i64 320)]) [] (t1 (ad vz) (t1 (ad vd) (t0)))))))))
  ·exact sk (qz (sr (ck 2 (bx H λ l55 h478 H=>sp (TH An 1 10 h478) (ck 1 (en (sr (ck 4 (bx H λ x133 h479 H=>sp (A2 2 10 h479) (ck 1 (bx H λ l56 h480 H=>stA An 2 2 (ty 9) h479 h480 (en (sq (rg (tr (tr (sn 34 2 10 (CH h480)) (sn 8 2 10 (CH h480))) (sn 35 2 10 (CH h480))) (ck 3 (en (re (by cases H;exact pr (rT (vs:=[.osl 2 10 0 (l56.length),.d (.int .i64 0)]) [2] (t1 (ao vo) (t1 (ad vd) (t0))))))))))))))))))))))
end
section
variable (p0_:(List Ad)) (i_36:Int)
def JiW:St:=⟨(0,.d (.sl (p0_.map An)))::[],[]⟩
def JiX:St:=⟨(0,.d (.sl (p0_.map An)))::(4,.d (.int .i64 i_36))::[],[]⟩
def JiY:St:=⟨[],[]⟩
def PP:(Unit⊕(Int×Int))->Ex->St->Prop:=xS (xX 0 0 (λ (y:Unit)=>JiY)) (xR ty Tryz.f35 (λ (y:(Int×Int))=>.tup [.d (.int .i64 y.1),.d (.int .i64 y.2)]))
def JM:Int->St:=(λ (x:Int)=>JiX p0_ x)
variable {p0_ i_36}
theorem IH (x:Int) (z:(Int⊕(Unit⊕(Int×Int)))) (H:Fr n p0_ x=some z):WP (cxk 19 0) (Aw Tryz.f35) [1,1,0,1,0,0] (Av 0 (JM p0_) (PP) z) (JM p0_ x):=by
 revert H
 generalize x=i_36
 intro H
 refine sq (sr (ck 2 (sp (Ay An p0_) (ck 1 (en (cn H (λ H=>?_) (λ H=>?_)))))))
 ·refine sk (qz (sq (bk 1 (sr (ck 2 (bx H λ r178 h481 H=>ca false (LY h481) (ck 1 (en (cn H (λ H=>?_) (λ H=>?_))))))))))
  ·exact sr (ck 3 (en (re (qR (qr (by cases H;exact ro rfl rdT))))))
  ·exact sk (qN (qz (rz (ck 3 (ae (by cases H;exact og (sg [0,4])))))))
 ·exact ex 0 (qx (by cases H;exact xo rfl (sg [])))
theorem Ss {z} (H:Mm n p0_=some z):Ar Tryz.prog 35 [.d (.sl (p0_.map An))] (.tup [.d (.int .i64 z.1),.d (.int .i64 z.2)]):=by
 refine fO 19 (JiW p0_) Tryz.func35 (sr (ck 2 (en (sq (sr (ck 1 (sp (Ay An p0_) (ck 1 (en (cn H (λ H=>?_) (λ H=>?_)))))))))))
 ·exact sr (ck 2 (en (re (qr (by cases H;exact pr rdT)))))
 ·refine sk (qz (sq (sr (ck 1 (en (bk 0 (bx H λ y147 h482 H=>?_)))))))
  rcases y147 with y148|y149
  ·exact lX IH h482 (sg [0,4]) rfl λ s hE112=>qH (qs (hE112) (sr (ck 2 (en (re (by cases H;exact pr rdT))))))
  ·exact lR IH h482 (sg [0,4]) rfl λ s hE113=>qR (qr (by cases H;exact pr hE113))
end
section
variable (p0_:(List Ad))
def JiZ:St:=⟨(0,.d (.sl (p0_.map An)))::[],[]⟩
variable {p0_}
theorem Su {z} (H:Je n p0_=some z):Ar Tryz.prog 14 [.d (.sl (p0_.map An))] (.d (.bool z)):=by
 exact fO 12 (JiZ p0_) Tryz.func14 (sr (ck 1 (en (sr (ck 1 (bx H λ r179 h483 H=>ca false (Ss h483) (ck 5 (en (sr (ck 3 (en (re (by cases H;exact pr rd)))))))))))))
end
section
variable (p0_:(List Ad)) (o0_:(List Ab)) (x_30:(List Ad)) (x_31:Int) (x_32:Int) (b_5:(List Ad)) (x_33:Int) (b_6:(List Ad))
def Jbv:St:=⟨(0,.d (.sl (p0_.map An)))::(1,.osl 0 4 0 (o0_.length))::[],[some (.arr 4 (o0_.map Ag))]⟩
def VF:St:=⟨(4,.d (.sl (x_30.map An)))::(5,.d (.int .i64 x_31))::(6,.d (.int .i64 x_32))::[],[some (.arr 4 (o0_.map Ag))]⟩
def Jbw:St:=⟨(0,.d (.sl (b_5.map An)))::(1,.osl 0 4 0 (o0_.length))::(11,.osl 0 4 0 (o0_.length))::(12,.d (.int .i64 ((o0_.length:Nat):Int)))::(13,.d (.int .i64 x_33))::[],[some (.arr 4 (o0_.map Ag))]⟩
def Jbx:St:=⟨(0,.d (.sl (b_6.map An)))::(1,.osl 0 4 0 (o0_.length))::[],[some (.arr 4 (o0_.map Ag))]⟩
def Sv:((List Ad)⊕((List Ad)×Int×Int))->Ex->St->Prop:=xS (xX 1 0 (λ (y:(List Ad))=>Jbx o0_ y)) (xL 1 ty Tryz.f25 (λ (y:((List Ad)×Int×Int))=>.tup [.d (.sl (y.1.map An)),.d (.int .i64 y.2.1),.d (.int .i64 y.2.2)]) (λ (y:((List Ad)×Int×Int))=>[some (.arr 4 (o0_.map Ag))]))
def LZ:((List Ad)×Int)->St:=(λ (x:((List Ad)×Int))=>Jbw o0_ x.1 x.2)
variable {p0_ o0_ x_30 x_31 x_32 b_5 x_33 b_6}
theorem KN (x:((List Ad)×Int)) (z:(((List Ad)×Int)⊕((List Ad)⊕((List Ad)×Int×Int)))) (H:Hx n o0_ x.1 x.2=some z):WP (cxk 32 1) (Aw Tryz.f25) [1,0,1,0,0] (Av 1 (LZ o0_) (Sv o0_) z) (LZ o0_ x):=by
 obtain ⟨b_5,x_33⟩:=x
 refine sr (ck 1 (en (sq (cn H (λ H=>?_) (λ H=>?_)))))
 ·refine sk (qz (sq (bk 1 (sr (ck 1 (bx H λ x167 h606 H=>sp (A2 0 4 h606) (sp (Bs Ag 0 0 (ty 33) h606) (ck 3 (en (sr (ck 2 (bx H λ r232 h607 H=>cl [List.length r232.1] (Ez h607) (ck 5 (en (sq (sr (ck 2 (en (cn H (λ H=>?_) (λ H=>?_))))))))))))))))))))
  ·exact sr (ck 4 (en (re (qr (qR (qr (by cases H;exact lo rfl (rl (s':=VF o0_ ([]:List Ad) x_33 320) (tr (AQ.nilD 4 (by kernel_rfl)) (sg [4,5,6]))))))))))
  ·exact sk (qz (rz (ck 2 (ae (qN (qz (rz (ck 2 (ae (by cases H;exact og (tr (fz (enc:=An) (xs:=r232.1) 0 2 10) (sg [0,1,11,12,13]))))))))))))
 ·exact ex 0 (qx (by cases H;exact xo rfl (sg [0,1])))
theorem VG {z} (H:Q6 n p0_ o0_=some z):BH Tryz.prog 25 [.d (.sl (p0_.map An)),.osl 0 4 0 (o0_.length)] [some (.arr 4 (o0_.map Ag))] 1 (.tup [.d (.sl (z.1.map An)),.d (.int .i64 z.2.1),.d (.int .i64 z.2.2)]) [some (.arr 4 (o0_.map Ag))]:=by
 refine fL 32 1 (Jbv p0_ o0_) Tryz.func25 (sr (ck 3 (en (sq (sr (ck 3 (en (bk 0 (bx H λ y189 h608 H=>?_)))))))))
 rcases y189 with y190|y191
 ·exact lX KN h608 (sg [0,1,11,12,13]) rfl λ s hE144=>qH (qs (hE144) (sr (ck 6 (en (re (by cases H;exact pL (rl (s':=VF o0_ y190 ((o0_.length:Nat):Int) 0) (sg [4,5,6]))))))))
 ·exact lL KN h608 (sg [0,1,11,12,13]) rfl λ s hE145=>qR (qr (by cases H;exact pL hE145))
end
section
variable (p0_:(List Ad)) (o0_:(List Ab)) (x_34:(List Ad)) (x_35:Int) (x_36:Int) (b_7:(List Ad)) (i_52:Int) (b_8:(List Ad))
def Jby:St:=⟨(0,.d (.sl (p0_.map An)))::(1,.osl 0 4 0 (o0_.length))::[],[some (.arr 4 (o0_.map Ag))]⟩
def VH:St:=⟨(4,.d (.sl (x_34.map An)))::(5,.d (.int .i64 x_35))::(6,.d (.int .i64 x_36))::[],[some (.arr 4 (o0_.map Ag))]⟩
def Jbz:St:=⟨(0,.d (.sl (b_7.map An)))::(1,.osl 0 4 0 (o0_.length))::(7,.d (.int .i64 i_52))::[],[some (.arr 4 (o0_.map Ag))]⟩
def JbA:St:=⟨(0,.d (.sl (b_8.map An)))::(1,.osl 0 4 0 (o0_.length))::[],[some (.arr 4 (o0_.map Ag))]⟩
def RE:((List Ad)⊕((List Ad)×Int×Int))->Ex->St->Prop:=xS (xX 1 0 (λ (y:(List Ad))=>JbA o0_ y)) (xL 1 ty Tryz.f26 (λ (y:((List Ad)×Int×Int))=>.tup [.d (.sl (y.1.map An)),.d (.int .i64 y.2.1),.d (.int .i64 y.2.2)]) (λ (y:((List Ad)×Int×Int))=>[some (.arr 4 (o0_.map Ag))]))
def KO:((List Ad)×Int)->St:=(λ (x:((List Ad)×Int))=>Jbz o0_ x.1 x.2)
variable {p0_ o0_ x_34 x_35 x_36 b_7 i_52 b_8}
theorem JN (x:((List Ad)×Int)) (z:(((List Ad)×Int)⊕((List Ad)⊕((List Ad)×Int×Int)))) (H:Gr n o0_ x.1 x.2=some z):WP (cxk 33 1) (Aw Tryz.f26) [1,0,1,0,0] (Av 1 (KO o0_) (RE o0_) z) (KO o0_ x):=by
 obtain ⟨b_7,i_52⟩:=x
 refine sq (sr (ck 4 (en (cn H (λ H=>?_) (λ H=>?_)))))
 ·refine sk (qz (sq (bk 1 (sr (ck 3 (bx H λ x168 h609 H=>sp (A2 0 4 h609) (sp (Bs Ag 0 0 (ty 33) h609) (bx H λ r233 h610 H=>cl [List.length r233.1] (Sr h610) (ck 5 (en (sq (sr (ck 2 (en (cn H (λ H=>?_) (λ H=>?_))))))))))))))))
  ·exact sr (ck 5 (en (re (qr (qR (qr (by cases H;exact lo rfl (rl (s':=VH o0_ ([]:List Ad) i_52 r233.2) (tr (AQ.nilD 4 (by kernel_rfl)) (sg [4,5,6]))))))))))
  ·exact sk (qz (rz (ck 2 (ae (qN (qz (rz (ck 3 (ae (by cases H;exact og (tr (fz (enc:=An) (xs:=r233.1) 0 1 10) (sg [0,1,7]))))))))))))
 ·exact ex 0 (qx (by cases H;exact xo rfl (sg [0,1])))
theorem T9 {z} (H:Oc n p0_ o0_=some z):BH Tryz.prog 26 [.d (.sl (p0_.map An)),.osl 0 4 0 (o0_.length)] [some (.arr 4 (o0_.map Ag))] 1 (.tup [.d (.sl (z.1.map An)),.d (.int .i64 z.2.1),.d (.int .i64 z.2.2)]) [some (.arr 4 (o0_.map Ag))]:=by
 refine fL 33 1 (Jby p0_ o0_) Tryz.func26 (sr (ck 3 (en (sq (sr (ck 1 (en (bk 0 (bx H λ y192 h611 H=>?_)))))))))
 rcases y192 with y193|y194
 ·exact lX JN h611 (sg [0,1,7]) rfl λ s hE146=>qH (qs (hE146) (sr (ck 6 (en (re (by cases H;exact pL (rl (s':=VH o0_ y193 ((o0_.length:Nat):Int) 0) (sg [4,5,6]))))))))
 ·exact lL JN h611 (sg [0,1,7]) rfl λ s hE147=>qR (qr (by cases H;exact pL hE147))
end
section
variable (p0_:(List A7)) (p1_:(List AY)) (r234:Bool) (r235:(List Ad)) (c_8:(List Ab)) (i_53:Int) (c_9:(List Ab)) (y195:(List Ab)) (i_54:Int)
def Jkq:St:=⟨(0,.d (.sl (p0_.map BM)))::(1,.d (.sl (p1_.map Bv)))::[],[]⟩
def Jkr:St:=⟨(1,.d (.sl (p1_.map Bv)))::(5,.d (.bool r234))::(6,.d (.sl (r235.map An)))::(7,.osl 0 4 0 (c_8.length))::(8,.d (.int .i64 i_53))::[],[some (.arr 4 (c_8.map Ag))]⟩
def Jks:St:=⟨(5,.d (.bool r234))::(6,.d (.sl (r235.map An)))::(7,.osl 0 4 0 (c_9.length))::[],[some (.arr 4 (c_9.map Ag))]⟩
def MD:(List Ab)->Ex->St->Prop:=xX 0 0 (λ (y:(List Ab))=>Jks r234 r235 y)
def G5:((List Ab)×Int)->St:=(λ (x:((List Ab)×Int))=>Jkr p1_ r234 r235 x.1 x.2)
def Jkt:St:=⟨(5,.d (.bool r234))::(6,.d (.sl (r235.map An)))::(7,.osl 0 4 0 (y195.length))::(15,.d (.int .i64 i_54))::[],[some (.arr 4 (y195.map Ag))]⟩
def Jku:St:=⟨(5,.d (.bool r234))::[],[]⟩
def Jkv:St:=⟨(5,.d (.bool r234))::(6,.d (.sl (r235.map An)))::(7,.osl 0 4 0 (y195.length))::(15,.d (.int .i64 i_54))::[],[some (.arr 4 (y195.map Ag))]⟩
def ME:(Unit⊕Bool)->Ex->St->Prop:=xS (xX 0 2 (λ (y:Unit)=>Jku r234)) (xR ty Tryz.f7 (λ (y:Bool)=>.d (.bool y)))
def G6:Int->St:=(λ (x:Int)=>Jkt r234 r235 y195 x)
variable {p0_ p1_ r234 r235 c_8 i_53 c_9 y195 i_54}
theorem LA (x:((List Ab)×Int)) (z:(((List Ab)×Int)⊕(List Ab))) (H:Dl n p1_ r234 r235 x.1 x.2=some z):WP (cxk 150 0) (Aw Tryz.f7) [1,1,1,0,1,0,0] (Av 0 (G5 p1_ r234 r235) (MD r234 r235) z) (G5 p1_ r234 r235 x):=by
 obtain ⟨c_8,i_53⟩:=x
 refine sq (sr (ck 2 (sp (Ay Bv p1_) (ck 3 (gc 1 (decide (i_53<((p1_.length:Nat):Int))) (pA (en (cn H (λ H=>?_) (λ H=>?_)))))))))
 ·exact sk (qz (sq (bk 1 (rz (ck 4 (bx H λ x169 h614 H=>sp (Am Bv h614) (ck 1 (bx H λ r236 h615 H=>ca false (T7 h615) (ck 1 (bx H λ l67 h616 H=>sp (Ba Ag 0 4 h616) (ck 1 (ae (qN (qz (rz (ck 3 (ae (by cases H;exact og (sg [1,5,6,7,8])))))))))))))))))))
 ·exact ex 0 (qx (by cases H;exact xo rfl (sg [5,6,7])))
theorem F4 (x:Int) (z:(Int⊕(Unit⊕Bool))) (H:Dm n r234 r235 y195 x=some z):WP (cxk 150 0) (Aw Tryz.f7) [1,1,1,1,1,1,1,0,1,0,0] (Av 0 (G6 r234 r235 y195) (ME r234) z) (G6 r234 r235 y195 x):=by
 revert H
 generalize x=i_54
 intro H
 refine sq (sr (ck 4 (en (cn H (λ H=>?_) (λ H=>?_)))))
 ·refine sk (qz (sj (λ (x:Unit)=>Jkv r234 r235 y195 i_54) (λ (x:Unit)=>Fb n i_54) z ?_ (λ hFL32_CarryAll_J1=>?_)))
  ·intro _ H
   exact rz (ck 3 (ae (by cases H;exact og (sg [5,6,7,15]))))
  refine bk 3 (sr (ck 3 (bx H λ x170 h621 H=>sp (A2 0 4 h621) (sp (Bs Ag 0 0 (ty 33) h621) (bx H λ r240 h622 H=>ca false (Ez h622) (ck 5 (en (sq (sr (ck 2 (en (cn H (λ H=>?_) (λ H=>?_)))))))))))))
  ·exact ex 3 (qx (qH (qs (sg [5,6,7,15]) (hFL32_CarryAll_J1 () H))))
  ·refine sk (qz (sq (sr (ck 1 (bx H λ r241 h623 H=>ca false (Su h623) (ck 1 (en (cn H (λ H=>?_) (λ H=>?_)))))))))
   ·exact sr (ck 1 (en (re (qr (qR (qr (by cases H;exact ro rfl rd)))))))
   ·refine sk (qz (sr (ck 3 (bx H λ x171 h624 H=>sp (A2 0 4 h624) (ck 1 (sp (Bs Ag 0 0 (ty 3) h624) (bx H λ x172 h625 H=>sp (Am An h625) (ck 3 (en (sr (ck 3 (bx H λ x173 h626 H=>sp (A2 0 4 h626) (ck 1 (sp (Bs Ag 0 0 (ty 3) h626) (ck 2 (bx H λ x174 h627 H=>sp (A2 0 4 h627) (ck 1 (sp (Bs Ag 0 1 (ty 3) h627) (ck 2 (bx H λ x175 h628 H=>sp (A2 0 4 h628) (ck 1 (sp (Bs Ag 0 3 (ty 9) h628) (ck 4 (bx H λ x176 h629 H=>sp (A2 0 4 h629) (ck 1 (sp (Bs Ag 0 1 (ty 3) h629) (ck 2 (bx H λ x177 h630 H=>sp (A2 0 4 h630) (ck 1 (sp (Bs Ag 0 1 (ty 3) h630) (ck 2 (bx H λ x178 h631 H=>sp (A2 0 4 h631) (ck 1 (sp (Bs Ag 0 2 (ty 3) h631) (ck 1 (bx H λ s19 h632 H=>sp (Hl h632) (ck 1 (bx H λ r242 h633 H=>ca false (Ez h633) (ck 5 (en (sr (ck 5 (bx H λ r243 h634 H=>cG false (leZ) rfl (λ hg=>Jg (Bd h634 hg)) (Or.inl rfl) (Cc (λ hh=>hh) (Cc (λ hh=>hh) (Dd))) rfl (gc 1 (!(r242.2 != 0)) (pO (en (cn H (λ H=>?_) (λ H=>?_))))))))))))))))))))))))))))))))))))))))))))))))
    ·exact sr (ck 1 (en (re (qR (qr (by cases H;exact ro rfl rd))))))
    ·exact sk (qN (qs (sg [5,6,7,15]) (hFL32_CarryAll_J1 () H)))
 ·exact ex 2 (qx (by cases H;exact xo rfl (sg [5])))
theorem OH {z} (H:HX n p0_ p1_=some z):Ar Tryz.prog 7 [.d (.sl (p0_.map BM)),.d (.sl (p1_.map Bv))] (.d (.bool z)):=by
 refine fO 150 (Jkq p0_ p1_) Tryz.func7 (sr (ck 1 (en (sr (bx H λ r234 h612 H=>ca true (Rk h612) (ck 1 (en (sr (ck 1 (bx H λ r235 h613 H=>ca false (T6 h613) (ck 3 (en (sq (sr (ck 1 (en (bk 0 (bx H λ y195 h617 H=>lX LA h617 (sg [1,5,6,7,8]) rfl λ s hE148=>qH (qs (hE148) (sr (ck 2 (bx H λ r237 h618 H=>lt [0] (VG h618) (ck 7 (en (sr (ck 2 (bx H λ r238 h619 H=>lt [0] (T9 h619) (ck 7 (en (sq (sr (ck 2 (bx H λ r239 h620 H=>ca false (Jg h620) (ck 4 (gc 1 (!(!r239)) (pO (ck 3 (gc 1 (!((!r239)||(r237.2.1 != r238.2.1))) (pO (en (cn H (λ H=>?_) (λ H=>?_))))))))))))))))))))))))))))))))))))))))))
 ·exact sr (ck 1 (en (re (qr (by cases H;exact pr rd)))))
 ·refine sk (qz (sq (sr (ck 1 (en (bk 2 (bx H λ y196 h635 H=>?_)))))))
  rcases y196 with y197|y198
  ·exact lX F4 h635 (sg [5,6,7,15]) rfl λ s hE149=>qH (qs (hE149) (sr (ck 2 (en (re (by cases H;exact pr rd))))))
  ·exact lR F4 h635 (sg [5,6,7,15]) rfl λ s hE150=>qR (qr (by cases H;exact pr hE150))
end
end Go.AI
end
section
namespace Go.AI
def CRd (F:Nat->Option Obj) (l:List D) (cs:List Value):Prop:=l.length=cs.length/\∀ (i:Nat) (y:D) (v:Value),l[i]? = some y->cs[i]? = some v->Bb F y v
def EP {α:Type} (P:Program) (t:TypeId) (enc:α->List D) (ok:α->Prop):Prop:=
 ∀ (H:Type) (e:TypeId×Value->H) (w:World) (base:Nat) (spare:Nat->Bool) (held:Bool) (fuel:Nat) (cs:List Value) (x:DataW H×List MemPlace),DataW.trod e P w base spare held fuel t cs=some x->∃ a:α,ok a/\CRd (λ b=>w.heap[b]?) (enc a) cs
theorem Ua {F:Nat->Option Obj} {y:D} {v:Value} (h:Bb F y v):CRd F [y] [v]:=by
 refine ⟨rfl,λ i a b ha hb=>?_⟩
 cases i with
 | zero=>simp at ha hb;subst ha;subst hb;exact h
 | succ i=>simp at ha
theorem Ze {P:Program} {t:TypeId} {k:IntKind} (ht:P.underlying t=some (.int k)):EP P t (λ n=>[.int k n]) (λ n=>(Lit.int k n).wf=true):=by
 intro H e w base spare held fuel cs x h
 obtain ⟨n,rfl,_,hw⟩:=DataW.trod_int ht h
 exact ⟨n,hw,Ua (.int k n)⟩
theorem VI {α:Type} {Q:Nat->α->Prop}:∀ n,(∀ i,i<n->∃ a,Q i a)->∃ l:List α,l.length=n/\∀ i a,l[i]? = some a->Q i a:=by
 intro n
 induction n with
 | zero=>intro _;exact ⟨[],rfl,λ i a h=>by simp at h⟩
 | succ n ih=>
  intro h
  obtain ⟨l,hl,hq⟩:=ih λ i hi=>h i (by omega)
  obtain ⟨a,ha⟩:=h n (by omega)
  refine ⟨l++[a],by simp [hl],λ i b hb=>?_⟩
  rcases JlQ i l.length with hlt|hge
  ·rw [Jl6 hlt] at hb;exact hq i b hb
  ·rw [Jmf hge] at hb
   have:i-l.length=0:=by have:=Ae hb;simp at this;omega
   rw [this] at hb
   simp at hb
   subst hb
   have:i=n:=by omega
   subst this
   exact ha
theorem VJ {α β:Type} {f:α->Option β}:∀ {l:List α} {r:List β},l.mapM f=some r->r.length=l.length/\∀ (i:Nat) (a:α),l[i]? = some a->r[i]? = f a:=by
 intro l
 induction l with
 | nil=>intro r h;simp at h;subst h;exact ⟨rfl,λ i a h=>by simp at h⟩
 | cons a l ih=>
  intro r h
  rw [List.mapM_cons] at h
  simp only [Option.bind_eq_bind,Option.bind_eq_some_iff,Option.pure_def,Jl9] at h
  obtain ⟨b,hb,r',hr',rfl⟩:=h
  obtain ⟨h1,h2⟩:=ih hr'
  refine ⟨by simp [h1],λ i x hx=>?_⟩
  cases i with
  | zero=>simp at hx;subst hx;simp [hb]
  | succ i=>simpa using h2 i x (by simpa using hx)
theorem EF {α:Type} {P:Program} {t e:TypeId} {enc:α->List D} {ok:α->Prop} {sz:Nat} (ht:P.underlying t=some (.slice e)) (hsz:P.cellsOf e=sz) (h1:Nat.ble 1 sz=true) (hl:∀ a,(enc a).length=sz) (he:EP P e enc ok):EP P t (eL enc) (λ l=>l.length<=9223372036854775807/\∀ a∈l,ok a):=by
 intro H en w base spare held fuel cs x h
 have h1:=Jmd h1
 rcases DataW.trod_slice ht h with ⟨rfl,_⟩|⟨a,len,cap,elems,rest,n,_,rfl,_,_,hcap,hmx,hel,hget,_,_⟩
 ·exact ⟨[],⟨by simp,λ a h=>by simp at h⟩,Ua (.sl0 _ _)⟩
 ·rw [hsz] at hget
  have hex:∀ i,i<len->∃ y:α,ok y/\∃ ci,w.cells? base (a.add (i*sz)) sz=some ci/\CRd (λ b=>w.heap[b]?) (enc y) ci:=λ i hi=>by
   have hg:=hget i hi
   rw [JlY (show i<elems.length by omega)] at hg
   simp only [Option.bind_eq_some_iff] at hg
   obtain ⟨ci,hc,htr⟩:=hg
   obtain ⟨y,hy,hcr⟩:=he H en w base spare held n ci _ htr
   exact ⟨y,hy,ci,hc,hcr⟩
  obtain ⟨l,hll,hq⟩:=VI len hex
  refine ⟨l,⟨by unfold maxLen at hmx;omega,λ y hy=>?_⟩,Ua ?_⟩
  ·obtain ⟨i,hi⟩:=List.mem_iff_getElem?.1 hy
   exact (hq i y hi).1
  ·rcases Nat.eq_zero_or_pos len with h0|hpos
   ·have:l=[]:=List.length_eq_zero_iff.1 (by omega)
    subst this;subst h0
    exact .sl0 _ _
   ·
    have hcell:∀ i y,l[i]? = some y->∀ j,j<sz->∃ v,w.cell? ((a.add (i*sz)).add j)=some v/\∀ d,(enc y)[j]? = some d->Bb (λ b=>w.heap[b]?) d v:=λ i y hy j hj=>by
     obtain ⟨_,ci,hc,hcr⟩:=hq i y hy
     unfold World.cells? at hc
     split at hc
     ·obtain ⟨g1,g2⟩:=VJ hc
      have:=g2 j j (by simp [hj])
      have hjc:j<ci.length:=by rw [g1];simpa using hj
      rw [JlY hjc] at this
      exact ⟨ci[j],this.symm,λ d hd=>hcr.2 j d _ hd (JlY hjc)⟩
     ·cases hc
    have h0:l[0]? = some l[0]:=JlY (by omega)
    obtain ⟨v0,hv0,_⟩:=hcell 0 _ h0 0 (by omega)
    have ha0:(a.add (0*sz)).add 0=a:=by simp [Addr.add]
    rw [ha0] at hv0
    obtain ⟨b,off,spot⟩:=a
    unfold World.cell? at hv0
    simp only at hv0
    split at hv0
    ·rename_i c ty fr hblk
     cases spot with
     | some s=>simp at hv0
     | none=>
      have hcell':∀ i y,l[i]? = some y->∀ j d,(enc y)[j]? = some d->∃ v,c[off+i*sz+j]? = some v/\Bb (λ b=>w.heap[b]?) d v:=λ i y hy j d hd=>by
       have hj:j<sz:=by rw [← hl y];exact Ae hd
       obtain ⟨v,hv,hr⟩:=hcell i y hy j hj
       rw [BI,BI,JZ hblk] at hv
       exact ⟨v,hv,hr d hd⟩
      have hlen:(l.map enc).length=len:=by simp [hll]
      have:=Bb.sl (F:=λ b=>w.heap[b]?) (l.map enc) b off cap sz c ty fr (λ i j=>(c[off+i*sz+j]?).getD undef) hblk (λ e he=>by
        simp only [JlS] at he
        obtain ⟨y,_,rfl⟩:=he
        exact hl y) (by omega) (λ i e hi j d hd=>by
        simp only [Jl2,Jl1] at hi
        obtain ⟨y,hy,rfl⟩:=hi
        obtain ⟨v,hv,_⟩:=hcell' i y hy j d hd
        simp only [hv,JlM]) (λ i e hi j d hd=>by
        simp only [Jl2,Jl1] at hi
        obtain ⟨y,hy,rfl⟩:=hi
        obtain ⟨v,hv,hr⟩:=hcell' i y hy j d hd
        simp only [hv,JlM]
        exact hr)
      rw [hlen] at this
      exact this
    ·cases hv0
theorem Be {F:Nat->Option Obj} {l m:List D} {cs:List Value} {o n:Nat} (h:CRd F l ((cs.drop o).take n)) (hn:Nat.beq l.length n=true) (h':CRd F m (cs.drop (o+n))):CRd F (l++m) (cs.drop o):=by
 have hn:=Jl5 hn
 have e:cs.drop o=(cs.drop o).take n++cs.drop (o+n):=by rw [← List.drop_drop,List.take_append_drop]
 rw [e]
 refine ⟨by simp only [List.length_append,h.1,h'.1],λ i y v hy hv=>?_⟩
 rcases JlQ i l.length with hlt|hge
 ·rw [Jl6 hlt] at hy
  rw [Jl6 (by rw [← h.1];exact hlt)] at hv
  exact h.2 i y v hy hv
 ·rw [Jmf hge] at hy
  rw [Jmf (by rw [← h.1];exact hge),← h.1] at hv
  exact h'.2 _ y v hy hv
theorem La {F:Nat->Option Obj} {cs:List Value} {o:Nat} (h:cs.length<=o):CRd F [] (cs.drop o):=by
 rw [List.drop_eq_nil_of_le h];exact ⟨rfl,λ i y v hy=>by simp at hy⟩
theorem RG {H:Type} {enc:TypeId×Value->H} {P:Program} {w:World} {base:Nat} {spare:Nat->Bool} {held:Bool} {fuel:Nat} {t e:TypeId} {n:Nat} {cs:List Value} {x:DataW H×List MemPlace} (ht:P.underlying t=some (.array n e)) (h:DataW.trod enc P w base spare held fuel t cs=some x) :
  ∃ m,cs.length=P.cellsOf t/\∀ i,i<n->∃ y,DataW.trod enc P w base spare held m e ((cs.drop (i*P.cellsOf e)).take (P.cellsOf e))=some y:=by
 cases fuel with
 | zero=>simp [DataW.trod] at h
 | succ m=>
  unfold DataW.trod at h
  rw [ht] at h
  split at h<;>simp_all
  obtain ⟨xs,hp,_⟩:=h.2
  refine ⟨m,λ i hi=>?_⟩
  obtain ⟨g1,g2⟩:=VJ hp
  have:=g2 i i (by simp [hi])
  have hlt:i<xs.length:=by rw [g1];simpa using hi
  rw [JlY hlt] at this
  exact ⟨_,_,this.symm⟩
end Go.AI
end
section
namespace Go.AI
open Go.ChangeShapes Go.WideShapes Go.ChangeAt Go.RowKit
variable {P:Program} {H:Type} {en:TypeId×Value->H} {W W':World} {base:Nat} {spare:Nat->Bool} {held:Bool} {t e:TypeId} {v:Value} {d:DataW H} {ps:List MemPlace} {α:Type} {enc:α->List D} {ok:α->Prop}
theorem XX {y:α->D} (hc:v.cells=#[v]) (hd:DataW.Trod en P W base spare held t v d ps) (hr:EP P t enc ok) (he:∀ a,enc a=[y a]):∃ a,ok a/\Ah (λ b=>W.heap[b]?) noR (.d (y a)) v:=by
 obtain ⟨fuel,hf⟩:=hd
 obtain ⟨a,h1,h2,h3⟩:=hr H en W base spare held fuel _ _ hf
 refine ⟨a,h1,.d _ _ (h3 0 (y a) v (by rw [he];rfl) (by rw [hc];rfl))⟩
theorem Ji0 {F:Nat->Option Obj} {ρ:Nat->Option Loc}:CR F ρ [] []:=⟨rfl,λ i a v h=>by simp at h⟩
theorem XY {F:Nat->Option Obj} {ρ:Nat->Option Loc} {a:AV} {v:Value} {l:List AV} {vs:List Value} (h:Ah F ρ a v) (h':CR F ρ l vs):CR F ρ (a::l) (v::vs):=by
 refine ⟨by simp [h'.1],λ i x u hx hu=>?_⟩
 cases i with
 | zero=>simp at hx hu;subst hx;subst hu;exact h
 | succ i=>exact h'.2 i x u (by simpa using hx) (by simpa using hu)
theorem fld {w:World} {fuel:Nat} {cs:List Value} {fs:Array Field} {xs:List (DataW H×List MemPlace)} (hg:∀ (i:Nat) (f:Field),fs[i]? = some f->DataW.trod en P w base spare held fuel f.type ((cs.drop f.offset).take (P.cellsOf f.type))=xs[i]?) (hxl:xs.length=fs.size) (i:Nat) {f:Field} (hf:fs[i]? = some f) (u o n:Nat) (hu:f.type=u) (ho:f.offset=o) (hn:P.cellsOf u=n) (hr:EP P u enc ok) :
  ∃ a,ok a/\CRd (λ b=>w.heap[b]?) (enc a) ((cs.drop o).take n):=by
 have:=hg i f hf
 have hi:i<xs.length:=by rw [hxl];exact Ap hf
 rw [JlY hi,hu,ho,hn] at this
 exact hr H en w base spare held fuel _ _ this
theorem VK {w:World} {fuel:Nat} {cs:List Value} {m:Nat} (hg:∀ i,i<m->∃ y,DataW.trod en P w base spare held fuel e ((cs.drop (i*P.cellsOf e)).take (P.cellsOf e))=some y) (i:Nat) (hi:Nat.ble (i+1) m=true) (o n:Nat) (hn:P.cellsOf e=n) (ho:i*n=o) (hr:EP P e enc ok) :
  ∃ a,ok a/\CRd (λ b=>w.heap[b]?) (enc a) ((cs.drop o).take n):=by
 obtain ⟨y,hy⟩:=hg i (Jmd hi)
 rw [hn,ho] at hy
 exact hr H en w base spare held fuel _ _ hy
theorem JbB {f:FuncId} {args:List AV} {vs:Array Value} (hc:Ar P f args (.d (.bool true))) (hcr:CR (λ b=>W.heap[b]?) noR args vs.toList):Calls P f vs W λ e W'=>e=.returned (.bool true)/\(∀ before:List MemPlace,W.keptBut W' (·∈before))/\∀ b,b<W.heap.size->W'.heap[b]? = W.heap[b]? := by
 refine (hc.2 (λ b=>W.heap[b]?) W vs hcr λ b o h=>h).mono λ e W' h=>?_
 obtain ⟨v,F',ρ,rfl,hS,hr,hmu⟩:=h
 have hv:v=.bool true:=by
  have:(BA true 0 (.d (.bool true))).1=.d (.bool true):=rfl
  rw [this] at hr
  exact hr.bool
 subst hv
 have hold:∀ b,b<W.heap.size->W'.heap[b]? = W.heap[b]? := λ b hb=>hS.old b (by omega)
 refine ⟨rfl,λ before=>World.keptBut_mono (λ p hp=>hp.elim) (?_:W.keptBut W' λ _=>False),hold⟩
 refine ⟨hmu.os,hmu.out,λ i hi=>?_⟩
 rw [hold i hi]
 cases hh:W.heap[i]? with
 | none=>rfl
 | some o=>cases o<;>first|exact ⟨rfl,rfl,rfl,λ _ _=>rfl⟩|exact .inr ⟨rfl,rfl⟩|rfl
theorem Zf {f:Func} {s:ChangeSpec} {apart fresh handsOn again:Bool} {args:Array Value} {ds gs:List (DataW H)} {before pa pv:List MemPlace}
  (hW:DataW.Whole en P f.params.toList s.vars apart W args.toList ds gs before)
  (hres:∀ (b:Nat) (sp:Nat->Bool) (hd:Bool),DataW.TrodAll en P W' b sp hd f.resultTypes.toList (v.resultList f.resultTypes.size) (s.fn H (ds++gs)).results [])
  (hargs:∀ sp:Nat->Bool,(∀ p∈before,sp p.block=true)->DataW.TrodAll en P W' 0 sp true f.params.toList args.toList (s.fn H (ds++gs)).args pa)
  (hvars:∀ sp:Nat->Bool,(∀ p∈before,sp p.block=true)->DataW.TrodVars en P W' sp s.vars (s.fn H (ds++gs)).vars pv)
  (hps:before=pa++pv) (hk:W.keptBut W' (·∈before)) (hold:∀ b,b<W.heap.size->W'.heap[b]? = W.heap[b]?)
  (hok:∀ (j:Nat) (t:TypeId) (r:Value),f.resultTypes[j]? = some t->(v.resultList f.resultTypes.size)[j]? = some r->Value.okWide P W' .any 0 t r) :
  s.post en P f apart fresh handsOn again W args v W':=by
 have hin:∀ p∈before,(λ b=>decide (b<W.heap.size)) p.block=true:=λ p hp=>by simpa using hW.lt p hp
 have hlt:=hW.lt
 refine ⟨ds,gs,before,[],pa,pv,hW,hres _ _ _,hargs _ hin,hvars _ hin,World.keptBut_mono (λ p hp=>⟨hp,?_⟩) hk,λ _=>?_⟩
 ·rw [hps,List.mem_append] at hp
  exact Or.inr hp
 ·obtain ⟨_,_,_,_,_,hz,hn⟩:=hW
  refine ⟨hok,_,_,([]++pa)++pv,⟨[]++pa,pv,trodAll_append (hargs _ (λ _ _=>rfl)) (hres _ _ _),hvars _ (λ _ _=>rfl),rfl,?_,?_⟩,?_⟩
  ·intro b off hp
   have hp:MemPlace.cell b off∈before:=by rw [hps];simpa using hp
   have:=hz b off hp
   simp only [World.frozen?,hold b (hlt _ hp)] at this ⊢
   exact this
  ·intro ha
   have:=hn ha
   rw [hps] at this
   simpa using this
  ·intro p hp _
   rw [hps]
   simpa using hp
theorem Jfu (hl:laidOutB P=true) (hr:P.readableRec t=true) (hrow:t<P.types.size) (h:DataW.Trod en P W 0 (λ _=>true) true t v d ps) (hb:∀ p∈ps,p.block<W.heap.size) {sp:Nat->Bool} (hs:∀ p∈ps,sp p.block=true) (hold:∀ b,b<W.heap.size->W'.heap[b]? = W.heap[b]?):DataW.Trod en P W' 0 sp true t v d ps:=by
 refine WideElems.Trod_stays hl hr hrow h (λ p hp=>?_) hs
 have:=hb p hp
 cases p with
 | cell b o=>exact World.cell?_of_block (w:=W) (hold b this)
 | map b=>exact hold b this
end Go.AI
end
section
namespace Go.AI
open Go.Proofs Go.ChangeShapes Go.WideShapes Go.ChangeAt Go.RowKit
def okI (k:IntKind) (n:Int):Prop:=(Lit.int k n).wf=true
theorem rd5:EP Tryz.prog 5 eU8 (okI .u8):=Ze Tryz.underlying5
theorem Jkw:EP Tryz.prog 23 (eL eU8) (λ l=>l.length<=9223372036854775807/\∀ a∈l,okI .u8 a):=EF (sz:=1) Tryz.underlying23 (by kernel_rfl) rfl (λ _=>rfl) rd5
theorem Jkx:EP Tryz.prog 139 (Bh eU8) (λ x=>okI .u8 x.a0/\okI .u8 x.a1):=by
 intro H e w base spare held fuel cs x h
 obtain ⟨m,hcl,hg⟩:=RG Tryz.underlying139 h
 have hcl:cs.length=2:=hcl.trans (by kernel_rfl)
 obtain ⟨a0,k0,c0⟩:=VK hg 0 rfl 0 1 (by kernel_rfl) rfl rd5
 obtain ⟨a1,k1,c1⟩:=VK hg 1 rfl 1 1 (by kernel_rfl) rfl rd5
 refine ⟨⟨a0,a1⟩,⟨k0,k1⟩,?_⟩
 have:=Be c0 rfl (Be c1 rfl (La (Nat.le_of_eq hcl)))
 exact this
theorem Jls:EP Tryz.prog 92 (eL (Bh eU8)) (λ l=>l.length<=9223372036854775807/\∀ a∈l,(okI .u8 a.a0/\okI .u8 a.a1)):=EF (sz:=2) Tryz.underlying92 (by kernel_rfl) rfl (λ _=>rfl) Jkx
def JbC (x:Q4):Prop:=okI .u8 x.Kind/\okI .u8 x.N/\(x.L.length<=9223372036854775807/\∀ a∈x.L,(okI .u8 a.a0/\okI .u8 a.a1))
theorem Jlt:EP Tryz.prog 94 Jkl JbC:=by
 intro H e w base spare held fuel cs x h
 obtain ⟨xs,n,_,_,hcl,hxl,hg⟩:=DataW.trod_struct Tryz.underlying94 h
 have hcl:cs.length=3:=hcl.trans (by kernel_rfl)
 obtain ⟨a0,k0,c0⟩:=fld hg hxl 0 rfl 5 0 1 rfl rfl (by kernel_rfl) rd5
 obtain ⟨a1,k1,c1⟩:=fld hg hxl 1 rfl 5 1 1 rfl rfl (by kernel_rfl) rd5
 obtain ⟨a2,k2,c2⟩:=fld hg hxl 2 rfl 92 2 1 rfl rfl (by kernel_rfl) Jls
 refine ⟨⟨a0,a1,a2⟩,⟨k0,k1,k2⟩,?_⟩
 have:=Be c0 rfl (Be c1 rfl (Be c2 rfl (La (Nat.le_of_eq hcl))))
 exact this
theorem Jky:EP Tryz.prog 141 (Jr eU8) (λ x=>okI .u8 x.a0/\okI .u8 x.a1/\okI .u8 x.a2/\okI .u8 x.a3/\okI .u8 x.a4/\okI .u8 x.a5):=by
 intro H e w base spare held fuel cs x h
 obtain ⟨m,hcl,hg⟩:=RG Tryz.underlying141 h
 have hcl:cs.length=6:=hcl.trans (by kernel_rfl)
 obtain ⟨a0,k0,c0⟩:=VK hg 0 rfl 0 1 (by kernel_rfl) rfl rd5
 obtain ⟨a1,k1,c1⟩:=VK hg 1 rfl 1 1 (by kernel_rfl) rfl rd5
 obtain ⟨a2,k2,c2⟩:=VK hg 2 rfl 2 1 (by kernel_rfl) rfl rd5
 obtain ⟨a3,k3,c3⟩:=VK hg 3 rfl 3 1 (by kernel_rfl) rfl rd5
 obtain ⟨a4,k4,c4⟩:=VK hg 4 rfl 4 1 (by kernel_rfl) rfl rd5
 obtain ⟨a5,k5,c5⟩:=VK hg 5 rfl 5 1 (by kernel_rfl) rfl rd5
 refine ⟨⟨a0,a1,a2,a3,a4,a5⟩,⟨k0,k1,k2,k3,k4,k5⟩,?_⟩
 have:=Be c0 rfl (Be c1 rfl (Be c2 rfl (Be c3 rfl (Be c4 rfl (Be c5 rfl (La (Nat.le_of_eq hcl)))))))
 exact this
theorem Jlu:EP Tryz.prog 95 (eL (Jr eU8)) (λ l=>l.length<=9223372036854775807/\∀ a∈l,(okI .u8 a.a0/\okI .u8 a.a1/\okI .u8 a.a2/\okI .u8 a.a3/\okI .u8 a.a4/\okI .u8 a.a5)):=EF (sz:=6) Tryz.underlying95 (by kernel_rfl) rfl (λ _=>rfl) Jky
def HH (x:Bo):Prop:=okI .u8 x.W/\okI .u8 x.H/\okI .u8 x.Gap/\(x.F.length<=9223372036854775807/\∀ a∈x.F,(okI .u8 a.a0/\okI .u8 a.a1/\okI .u8 a.a2/\okI .u8 a.a3/\okI .u8 a.a4/\okI .u8 a.a5))
theorem Jlv:EP Tryz.prog 97 Od HH:=by
 intro H e w base spare held fuel cs x h
 obtain ⟨xs,n,_,_,hcl,hxl,hg⟩:=DataW.trod_struct Tryz.underlying97 h
 have hcl:cs.length=4:=hcl.trans (by kernel_rfl)
 obtain ⟨a0,k0,c0⟩:=fld hg hxl 0 rfl 5 0 1 rfl rfl (by kernel_rfl) rd5
 obtain ⟨a1,k1,c1⟩:=fld hg hxl 1 rfl 5 1 1 rfl rfl (by kernel_rfl) rd5
 obtain ⟨a2,k2,c2⟩:=fld hg hxl 2 rfl 5 2 1 rfl rfl (by kernel_rfl) rd5
 obtain ⟨a3,k3,c3⟩:=fld hg hxl 3 rfl 95 3 1 rfl rfl (by kernel_rfl) Jlu
 refine ⟨⟨a0,a1,a2,a3⟩,⟨k0,k1,k2,k3⟩,?_⟩
 have:=Be c0 rfl (Be c1 rfl (Be c2 rfl (Be c3 rfl (La (Nat.le_of_eq hcl)))))
 exact this
def HI (x:A7):Prop:=okI .u8 x.Kind/\okI .u8 x.N/\(x.T.length<=9223372036854775807/\∀ a∈x.T,okI .u8 a)/\JbC x.F/\HH x.P
theorem Jlw:EP Tryz.prog 99 BM HI:=by
 intro H e w base spare held fuel cs x h
 obtain ⟨xs,n,_,_,hcl,hxl,hg⟩:=DataW.trod_struct Tryz.underlying99 h
 have hcl:cs.length=10:=hcl.trans (by kernel_rfl)
 obtain ⟨a0,k0,c0⟩:=fld hg hxl 0 rfl 5 0 1 rfl rfl (by kernel_rfl) rd5
 obtain ⟨a1,k1,c1⟩:=fld hg hxl 1 rfl 5 1 1 rfl rfl (by kernel_rfl) rd5
 obtain ⟨a2,k2,c2⟩:=fld hg hxl 2 rfl 23 2 1 rfl rfl (by kernel_rfl) Jkw
 obtain ⟨a3,k3,c3⟩:=fld hg hxl 3 rfl 94 3 3 rfl rfl (by kernel_rfl) Jlt
 obtain ⟨a4,k4,c4⟩:=fld hg hxl 4 rfl 97 6 4 rfl rfl (by kernel_rfl) Jlv
 refine ⟨⟨a0,a1,a2,a3,a4⟩,⟨k0,k1,k2,k3,k4⟩,?_⟩
 have:=Be c0 rfl (Be c1 rfl (Be c2 rfl (Be c3 rfl (Be c4 rfl (La (Nat.le_of_eq hcl))))))
 exact this
theorem Jlx:EP Tryz.prog 22 (eL BM) (λ l=>l.length<=9223372036854775807/\∀ a∈l,HI a):=EF (sz:=10) Tryz.underlying22 (by kernel_rfl) rfl (λ _=>rfl) Jlw
def C2 (x:AY):Prop:=okI .u8 x.Block/\okI .u8 x.At/\okI .u8 x.Cut/\(x.Put.length<=9223372036854775807/\∀ a∈x.Put,okI .u8 a)
theorem Jly:EP Tryz.prog 25 Bv C2:=by
 intro H e w base spare held fuel cs x h
 obtain ⟨xs,n,_,_,hcl,hxl,hg⟩:=DataW.trod_struct Tryz.underlying25 h
 have hcl:cs.length=4:=hcl.trans (by kernel_rfl)
 obtain ⟨a0,k0,c0⟩:=fld hg hxl 0 rfl 5 0 1 rfl rfl (by kernel_rfl) rd5
 obtain ⟨a1,k1,c1⟩:=fld hg hxl 1 rfl 5 1 1 rfl rfl (by kernel_rfl) rd5
 obtain ⟨a2,k2,c2⟩:=fld hg hxl 2 rfl 5 2 1 rfl rfl (by kernel_rfl) rd5
 obtain ⟨a3,k3,c3⟩:=fld hg hxl 3 rfl 23 3 1 rfl rfl (by kernel_rfl) Jkw
 refine ⟨⟨a0,a1,a2,a3⟩,⟨k0,k1,k2,k3⟩,?_⟩
 have:=Be c0 rfl (Be c1 rfl (Be c2 rfl (Be c3 rfl (La (Nat.le_of_eq hcl)))))
 exact this
theorem Jlz:EP Tryz.prog 45 (eL Bv) (λ l=>l.length<=9223372036854775807/\∀ a∈l,C2 a):=EF (sz:=4) Tryz.underlying45 (by kernel_rfl) rfl (λ _=>rfl) Jly
end Go.AI
end
section
namespace Go.AI
def Le {α:Type} (a b:Option α):Prop:=∀ z,a=some z->b=some z
theorem Le.refl {α:Type} (a:Option α):Le a a:=λ _ h=>h
theorem Le.bind {α β:Type} {a a':Option α} {f f':α->Option β} (h:Le a a') (hf:∀ x,Le (f x) (f' x)):Le (a.bind f) (a'.bind f'):=by
 intro z hz
 obtain ⟨x,h1,h2⟩:=bind_some hz
 rw [h x h1]
 exact hf x z h2
theorem Le.ite {α:Type} {c:Prop} [Decidable c] {a a' b b':Option α} (h:Le a a') (h':Le b b'):Le (if c then a else b) (if c then a' else b'):=by
 split
 ·exact h
 ·exact h'
theorem Le.whl {σ ρ:Type} {body body':σ->Option (σ⊕ρ)} (hb:∀ x,Le (body x) (body' x)):∀ {n m:Nat},n<=m->∀ x,Le (whl body n x) (whl body' m x):=by
 intro n
 induction n with
 | zero=>intro m _ x z hz;cases hz
 | succ n ih=>
  intro m hm x z hz
  cases m with
  | zero=>omega
  | succ m=>
   simp only [Go.AI.whl] at hz ⊢
   cases hx:body x with
   | none=>rw [hx] at hz;cases hz
   | some y=>
    rw [hb x y hx]
    rw [hx] at hz
    cases y with
    | inl y=>exact ih (by omega) y z hz
    | inr r=>exact hz
def Ev {α:Type} (f:Nat->Option α) (z:α):Prop:=∃ n,∀ m,n<=m->f m=some z
theorem Ev.const {α:Type} {z:α}:Ev (λ _=>some z) z:=⟨0,λ _ _=>rfl⟩
theorem Ev.of {α:Type} {f:Nat->Option α} {z:α} (hm:∀ n m,n<=m->Le (f n) (f m)) {n:Nat} (h:f n=some z):Ev f z:=⟨n,λ m hnm=>hm n m hnm z h⟩
theorem Ev.all {α:Type} {f:Nat->Option α} {z:α} (h:∀ n,f n=some z):Ev f z:=⟨0,λ m _=>h m⟩
theorem Ev.bind {α β:Type} {f:Nat->Option α} {g:Nat->α->Option β} {x:α} {z:β} (h:Ev f x) (hg:Ev (λ n=>g n x) z):Ev (λ n=>(f n).bind (g n)) z:=by
 obtain ⟨n,hn⟩:=h
 obtain ⟨m,hm⟩:=hg
 refine ⟨max n m,λ k hk=>?_⟩
 show (f k).bind (g k)=_
 rw [hn k (by omega)]
 exact hm k (by omega)
theorem Ev.out {α:Type} {f:Nat->Option α} {z:α} (h:Ev f z):∃ n,f n=some z:=by
 obtain ⟨n,hn⟩:=h
 exact ⟨n,hn n (JlP n)⟩
theorem Ev.congr {α:Type} {f g:Nat->Option α} {z:α} (h:Ev f z) (e:∀ n,g n=f n):Ev g z:=by
 obtain ⟨n,hn⟩:=h
 exact ⟨n,λ m hm=>by rw [e m];exact hn m hm⟩
theorem Ev.whl {σ ρ:Type} {body:Nat->σ->Option (σ⊕ρ)} {r:ρ} (I:Nat->σ->Prop) (h:∀ k x,I k x->(∃ y j,j<k/\I j y/\Ev (λ n=>body n x) (.inl y))\/Ev (λ n=>body n x) (.inr r)):∀ (k:Nat) (x:σ),I k x->Ev (λ n=>Go.AI.whl (body n) n x) r:=by
 have key:∀ (k:Nat) (x:σ),I k x->∃ N c,∀ n fuel,N<=n->c<=fuel->Go.AI.whl (body n) fuel x=some r:=by
  intro k
  induction k using Nat.strongRecOn with
  | _ k ih=>
   intro x hx
   rcases h k x hx with ⟨y,j,hj,hy,N1,h1⟩|⟨N1,h1⟩
   ·obtain ⟨N2,c,h2⟩:=ih j hj y hy
    refine ⟨max N1 N2,c+1,λ n fuel hn hf=>?_⟩
    cases fuel with
    | zero=>omega
    | succ fuel=>
     have e:=h1 n (by omega)
     simp only at e
     simp only [Go.AI.whl,e]
     exact h2 n fuel (by omega) (by omega)
   ·refine ⟨N1,1,λ n fuel hn hf=>?_⟩
    cases fuel with
    | zero=>omega
    | succ fuel=>
     have e:=h1 n hn
     simp only at e
     simp only [Go.AI.whl,e]
 intro k x hx
 obtain ⟨N,c,hh⟩:=key k x hx
 exact ⟨max N c,λ m hm=>hh m m (by omega) (by omega)⟩
end Go.AI
end
section
namespace Go.AI
def Tot {α:Type} (f:Nat->Option α) (P:α->Prop):Prop:=∃ z,P z/\Ev f z
def Rd2 {σ ρ:Type} (I:σ->Prop) (P:ρ->Prop):σ⊕ρ->Prop
 | .inl y=>I y
 | .inr r=>P r
variable {α β σ ρ:Type} {P R:α->Prop}
theorem Tot.ev {f:Nat->Option α} {z:α} (h:Tot f (λ x=>x=z)):Ev f z:=by obtain ⟨_,rfl,h⟩:=h;exact h
theorem Ev.tot {f:Nat->Option α} {z:α} (h:Ev f z) (hp:P z):Tot f P:=⟨z,hp,h⟩
theorem Tot.pure {z:α} (h:P z):Tot (λ _=>some z) P:=⟨z,h,Ev.const⟩
theorem Tot.all {f:Nat->Option α} {z:α} (h:∀ n,f n=some z) (hp:P z):Tot f P:=⟨z,hp,Ev.all h⟩
theorem Tot.mono {f:Nat->Option α} (h:Tot f R) (hp:∀ x,R x->P x):Tot f P:=by obtain ⟨z,hz,h⟩:=h;exact ⟨z,hp z hz,h⟩
theorem Tot.bind {f:Nat->Option β} {g:Nat->β->Option α} {R:β->Prop} (h:Tot f R) (k:∀ x,R x->Tot (λ n=>g n x) P):Tot (λ n=>(f n).bind (g n)) P:=by
 obtain ⟨x,hx,h⟩:=h
 obtain ⟨z,hz,h'⟩:=k x hx
 exact ⟨z,hz,Ev.bind h h'⟩
theorem Tot.bindE {f:Nat->Option β} {g:Nat->β->Option α} {x:β} (h:Ev f x) (k:Tot (λ n=>g n x) P):Tot (λ n=>(f n).bind (g n)) P:=by
 obtain ⟨z,hz,h'⟩:=k
 exact ⟨z,hz,Ev.bind h h'⟩
theorem Tot.bindC {x:Option β} {y:β} {g:Nat->β->Option α} (h:x=some y) (k:Tot (λ n=>g n y) P):Tot (λ n=>x.bind (g n)) P:=by subst h;exact k
theorem Tot.bindA {f:Nat->Option β} {y:β} {g:Nat->β->Option α} (h:∀ n,f n=some y) (k:Tot (λ n=>g n y) P):Tot (λ n=>(f n).bind (g n)) P:=Tot.bindE (Ev.all h) k
theorem Tot.ite {c:Bool} {a b:Nat->Option α} (h1:c=true->Tot a P) (h2:c=false->Tot b P):Tot (λ n=>if c=true then a n else b n) P:=by
 cases c with
 | true=>exact h1 rfl
 | false=>exact h2 rfl
theorem Tot.iteT {c:Bool} {a b:Nat->Option α} (h:c=true) (k:Tot a P):Tot (λ n=>if c=true then a n else b n) P:=by subst h;exact k
theorem Tot.iteF {c:Bool} {a b:Nat->Option α} (h:c=false) (k:Tot b P):Tot (λ n=>if c=true then a n else b n) P:=by subst h;exact k
theorem Tot.guard {c:Bool} {f:Nat->Option β} {d:β} {g:Nat->β->Option α} {R:β->Prop} (h:c=true->Tot f R) (k:∀ x,(c=true->R x)->Tot (λ n=>g n x) P):Tot (λ n=>(if c=true then f n else some d).bind (g n)) P:=by
 cases c with
 | true=>exact Tot.bind (h rfl) λ x hx=>k x λ _=>hx
 | false=>exact k d λ h=>by cases h
theorem Tot.congr {f g:Nat->Option α} (h:Tot f P) (e:∀ n,g n=f n):Tot g P:=by obtain ⟨z,hz,h⟩:=h;exact ⟨z,hz,h.congr e⟩
theorem Tot.whl {body:Nat->σ->Option (σ⊕ρ)} {P:ρ->Prop} (I:Nat->σ->Prop) (h:∀ k x,I k x->Tot (λ n=>body n x) (Rd2 (λ y=>∃ j,j<k/\I j y) P)):∀ (k:Nat) (x:σ),I k x->Tot (λ n=>Go.AI.whl (body n) n x) P:=by
 have key:∀ (k:Nat) (x:σ),I k x->∃ r,P r/\∃ N c,∀ n fuel,N<=n->c<=fuel->Go.AI.whl (body n) fuel x=some r:=by
  intro k
  induction k using Nat.strongRecOn with
  | _ k ih=>
   intro x hx
   obtain ⟨z,hz,N1,h1⟩:=h k x hx
   cases z with
   | inl y=>
    obtain ⟨j,hj,hy⟩:=hz
    obtain ⟨r,hr,N2,c,h2⟩:=ih j hj y hy
    refine ⟨r,hr,max N1 N2,c+1,λ n fuel hn hf=>?_⟩
    cases fuel with
    | zero=>omega
    | succ fuel=>
     have e:=h1 n (by omega)
     simp only at e
     simp only [Go.AI.whl,e]
     exact h2 n fuel (by omega) (by omega)
   | inr r=>
    refine ⟨r,hz,N1,1,λ n fuel hn hf=>?_⟩
    cases fuel with
    | zero=>omega
    | succ fuel=>
     have e:=h1 n hn
     simp only at e
     simp only [Go.AI.whl,e]
 intro k x hx
 obtain ⟨r,hr,N,c,hh⟩:=key k x hx
 exact ⟨r,hr,max N c,λ m hm=>hh m m (by omega) (by omega)⟩
theorem Tot.upto {body:Nat->σ->Option (σ⊕ρ)} {P:ρ->Prop} (N:Nat) (I:Nat->σ->Prop)
  (step:∀ i x,i<N->I i x->Tot (λ n=>body n x) (Rd2 (I (i+1)) P))
  (last:∀ x,I N x->Tot (λ n=>body n x) (Rd2 (λ _=>False) P)) (x:σ) (h0:I 0 x):Tot (λ n=>Go.AI.whl (body n) n x) P:=by
 refine Tot.whl (body:=body) (λ k x=>∃ i,i<=N/\k=N-i/\I i x) ?_ N x ⟨0,by omega,by omega,h0⟩
 rintro k x ⟨i,hi,rfl,hx⟩
 rcases JlQ i N with hlt|hge
 ·refine (step i x hlt hx).mono λ z hz=>?_
  cases z with
  | inl y=>exact ⟨N-(i+1),by omega,i+1,by omega,rfl,hz⟩
  | inr r=>exact hz
 ·have:i=N:=by omega
  subst this
  refine (last x hx).mono λ z hz=>?_
  cases z with
  | inl y=>exact hz.elim
  | inr r=>exact hz
theorem Ji1 {l:List α} {i:Nat} {x:α} (h:l[i]? = some x):idx l (i:Int)=some x:=by
 unfold idx
 rw [if_pos (by omega)]
 simpa using h
theorem AF {l:List α} {i:Nat} (h:i<l.length):idx l (i:Int)=some l[i]:=Ji1 (JlY h)
theorem Bf {eb:Nat} {xs ys:List α} (h:(xs.length+ys.length)*eb<=70368744177664):app eb xs ys=some (xs++ys):=by
 unfold app;rw [if_pos h]
theorem RH {l:List α} {i:Nat} {y:α} (h:i<l.length):put l (i:Int) y=some (l.set i y):=by
 unfold put;rw [if_pos (by omega),Jl8]
theorem Ub {x y:List UInt8} (h:x.length+y.length<=9223372036854775807):cat x y=some (x++y):=by
 unfold cat;rw [if_pos h]
end Go.AI
end
section
namespace Go.AI
theorem JeD (a:Int):IntKind.i64.wrap a=if decide (a % 18446744073709551616>=9223372036854775808)=true then a % 18446744073709551616-18446744073709551616 else a % 18446744073709551616:=rfl
theorem w64 {a:Int} (h:-9223372036854775808<=a) (h':a<9223372036854775808):IntKind.i64.wrap a=a:=by
 rw [JeD]
 simp only [decide_eq_true_eq]
 split<;>omega
theorem EG {a b:Int} (h:-9223372036854775808<=a+b) (h':a+b<9223372036854775808):Aj .i64 a b=a+b:=w64 h h'
theorem CC {a b:Int} (h:-9223372036854775808<=a-b) (h':a-b<9223372036854775808):AT .i64 a b=a-b:=w64 h h'
theorem F5 {a b:Int} (h:-9223372036854775808<=a*b) (h':a*b<9223372036854775808):BU .i64 a b=a*b:=w64 h h'
theorem Aq {i:Nat} (h:i<9223372036854775807):Aj .i64 (i:Int) 1=((i+1:Nat):Int):=by rw [EG]<;>omega
theorem Ji2 (a:Int):IntKind.u8.wrap a=a % 256:=rfl
theorem w8 {a:Int} (h:0<=a) (h':a<256):IntKind.u8.wrap a=a:=by rw [Ji2];omega
theorem BN {a m:Int} (h:0<=a) (hm:0<m):Ak a m=a % m/\0<=Ak a m/\Ak a m<m:=by
 have e:Ak a m=a % m:=by unfold Ak;rw [Int.tmod_eq_emod_of_nonneg h]
 rw [e];exact ⟨rfl,Int.emod_nonneg _ (by omega),Int.emod_lt_of_pos _ hm⟩
variable {α β σ ρ:Type}
theorem JbD [Inhabited α] {l:List α} {i:Int} (h:0<=i) (h':i<l.length):idx l i=some (l.getD i.toNat default):=by
 unfold idx
 rw [if_pos h,Jl7,JlY (by omega)];rfl
theorem Da [Inhabited α] {l:List α} {i:Nat} (h:i<l.length):idx l (i:Int)=some (l.getD i default):=by
 rw [JbD (by omega) (by omega),Jl8]
theorem Jkz {l:List α} {i:Int} {y:α} (h:0<=i) (h':i<l.length):put l i y=some (l.set i.toNat y):=by
 unfold put;rw [if_pos ⟨h,h'⟩]
theorem HJ {l:List α} {a b:Int} (h:0<=a) (h1:a<=b) (h2:b<=l.length):sub l a b=some ((l.take b.toNat).drop a.toNat):=by
 unfold sub;rw [if_pos ⟨h,h1,h2⟩]
theorem Uc {l:List α} {k:Nat} (h:k<=l.length):sub l 0 (k:Int)=some (l.take k):=by
 rw [HJ (by omega) (by omega) (by omega)];simp
theorem JkA {eb:Nat} {k:Int} {z:α} (h:0<=k) (h':k.toNat*eb<=70368744177664):mkl eb k z=some (List.replicate k.toNat z):=by
 unfold mkl;rw [if_pos ⟨h,h'⟩]
theorem JbE:BK true=some ():=rfl
theorem D2 {b:Bool} (h:b=true):BK b=some ():=by subst h;rfl
theorem Xa {body:σ->Option (σ⊕ρ)} {r:ρ} (st:Nat->σ) (k:Nat) (step:∀ i,i<k->body (st i)=some (.inl (st (i+1)))) (last:body (st k)=some (.inr r)):∀ n,k<n->whl body n (st 0)=some r:=by
 have key:∀ (j n i:Nat),i+j=k->j<n->whl body n (st i)=some r:=by
  intro j
  induction j with
  | zero=>
   intro n i hi hn
   cases n with
   | zero=>omega
   | succ n=>
    have:i=k:=by omega
    subst this;simp only [whl,last]
  | succ j ih=>
   intro n i hi hn
   cases n with
   | zero=>omega
   | succ n=>simp only [whl,step i (by omega)];exact ih n (i+1) (by omega) (by omega)
 intro n hn
 exact key k n 0 (by omega) hn
theorem Ev.to {body:Nat->σ->Option (σ⊕ρ)} {r:ρ} (st:Nat->σ) (k:Nat) (h:∃ N,∀ n,N<=n->(∀ i,i<k->body n (st i)=some (.inl (st (i+1))))/\body n (st k)=some (.inr r)):Ev (λ n=>Go.AI.whl (body n) n (st 0)) r:=by
 obtain ⟨N,h⟩:=h
 exact ⟨max N (k+1),λ n hn=>Xa st k (h n (by omega)).1 (h n (by omega)).2 n (by omega)⟩
def HK (N:Nat) (stop:Nat->Option ρ) (d:ρ):ρ:=((List.range N).findSome? stop).getD d
theorem Zg {N:Nat} {stop:Nat->Option ρ} {d:ρ} (h:∀ i,i<N->stop i=none):HK N stop d=d:=by
 unfold HK
 rw [List.findSome?_eq_none_iff.2 λ i hi=>h i (List.mem_range.1 hi)];rfl
theorem Zh {N:Nat} {stop:Nat->Option ρ} {d r:ρ} (k:Nat) (hk:k<N) (hr:stop k=some r) (h:∀ i,i<k->stop i=none):HK N stop d=r:=by
 unfold HK
 have:(List.range N).findSome? stop=some r:=by
  have e:List.range N=List.range k++(List.range (N-k)).map (k+·):=by rw [← List.range_add];congr 1;omega
  rw [e,List.findSome?_append,List.findSome?_eq_none_iff.2 λ i hi=>h i (List.mem_range.1 hi)]
  have:N-k=(N-k-1)+1:=by omega
  rw [this,List.range_succ_eq_map]
  simp [hr]
 rw [this];rfl
theorem Sw (N:Nat) (stop:Nat->Option ρ) (d:ρ):((∀ i,i<N->stop i=none)/\HK N stop d=d)\/∃ k r,k<N/\stop k=some r/\(∀ i,i<k->stop i=none)/\HK N stop d=r:=by
 by_cases h:∀ i,i<N->stop i=none
 ·exact .inl ⟨h,Zg h⟩
 ·right
  have hex:∃ k,k<N/\stop k≠none:=by
   apply Classical.byContradiction
   intro hh
   exact h λ i hi=>Classical.byContradiction λ hn=>hh ⟨i,hi,hn⟩
  have key:∀ m,(∃ k,k<m/\k<N/\stop k≠none)->∃ k,k<N/\stop k≠none/\∀ i,i<k->stop i=none:=by
   intro m
   induction m with
   | zero=>rintro ⟨k,hk,_⟩;omega
   | succ m ih=>
    rintro ⟨k,hk,h1,h2⟩
    by_cases hm:∃ k,k<m/\k<N/\stop k≠none
    ·exact ih hm
    ·refine ⟨k,h1,h2,λ i hi=>Classical.byContradiction λ hn=>hm ⟨i,by omega,by omega,hn⟩⟩
  obtain ⟨k0,h1,h2⟩:=hex
  obtain ⟨k,h3,h4,h5⟩:=key (k0+1) ⟨k0,by omega,h1,h2⟩
  obtain ⟨r,hr⟩:=Option.ne_none_iff_exists'.1 h4
  exact ⟨k,r,h3,hr,h5,Zh k h3 hr h5⟩
theorem Zi {body:Int->Option (Int⊕ρ)} {N:Nat} (stop:Nat->Option ρ) {d:ρ} (h1:∀ i,i<N->body (i:Int)=some (match stop i with|some r=>.inr r|none=>.inl ((i+1:Nat):Int))) (h2:body (N:Int)=some (.inr d)):∀ n,N<n->whl body n 0=some (HK N stop d):=by
 intro n hn
 rcases Sw N stop d with ⟨h,e⟩|⟨k,r,hk,hr,h,e⟩
 ·rw [e]
  exact Xa (λ i=>(i:Int)) N (λ i hi=>by rw [h1 i hi,h i hi]) h2 n hn
 ·rw [e]
  exact Xa (λ i=>(i:Int)) k (λ i hi=>by rw [h1 i (by omega),h i hi]) (by rw [h1 k hk,hr]) n (by omega)
theorem Ev.first {body:Nat->Int->Option (Int⊕ρ)} {N:Nat} (stop:Nat->Option ρ) {d:ρ} (h:∃ M,∀ n,M<=n->(∀ i,i<N->body n (i:Int)=some (match stop i with|some r=>.inr r|none=>.inl ((i+1:Nat):Int)))/\body n (N:Int)=some (.inr d)):Ev (λ n=>Go.AI.whl (body n) n 0) (HK N stop d):=by
 obtain ⟨M,h⟩:=h
 exact ⟨max M (N+1),λ n hn=>Zi stop (h n (by omega)).1 (h n (by omega)).2 n (by omega)⟩
theorem Tot.gE {P:α->Prop} {c:Bool} {f:Nat->Option β} {d x:β} {g:Nat->β->Option α} (hc:c=true) (h:Ev f x) (k:Tot (λ n=>g n x) P):Tot (λ n=>(if c=true then f n else some d).bind (g n)) P:=by
 subst hc;exact Tot.bindE h k
theorem Tot.gF {P:α->Prop} {c:Bool} {f:Nat->Option β} {d:β} {g:Nat->β->Option α} (hc:c=false) (k:Tot (λ n=>g n d) P):Tot (λ n=>(if c=true then f n else some d).bind (g n)) P:=by
 subst hc;exact k
noncomputable def lim [Inhabited α] (f:Nat->Option α):α:=@dite α (∃ z,Ev f z) (Classical.propDecidable _) (λ h=>Classical.choose h) λ _=>default
theorem Ev.lim [Inhabited α] {f:Nat->Option α} {z:α} (h:Ev f z):lim f=z:=by
 have hex:∃ z,Ev f z:=⟨z,h⟩
 have e:AI.lim f=Classical.choose hex:=by unfold AI.lim;rw [dif_pos hex]
 rw [e]
 obtain ⟨n,hn⟩:=h
 obtain ⟨m,hm⟩:=Classical.choose_spec hex
 have h1:=hn (max n m) (by omega)
 have h2:=hm (max n m) (by omega)
 rw [h1] at h2;cases h2;rfl
theorem Tot.lim [Inhabited α] {f:Nat->Option α} {P:α->Prop} (h:Tot f P):P (lim f)/\Ev f (lim f):=by
 obtain ⟨z,hz,h⟩:=h
 rw [h.lim];exact ⟨hz,h⟩
theorem Ev.many {f:Nat->Nat->Option α} {z:Nat->α} (N:Nat) (h:∀ i,i<N->Ev (λ n=>f n i) (z i)):∃ M,∀ n,M<=n->∀ i,i<N->f n i=some (z i):=by
 induction N with
 | zero=>exact ⟨0,λ n _ i hi=>by omega⟩
 | succ N ih=>
  obtain ⟨M1,h1⟩:=ih λ i hi=>h i (by omega)
  obtain ⟨M2,h2⟩:=h N (by omega)
  exact ⟨max M1 M2,λ n hn i hi=>by
   by_cases e:i=N
   ·subst e;exact h2 n (by omega)
   ·exact h1 n (by omega) i (by omega)⟩
end Go.AI
end
section
namespace Go.AI
def FI (c d:Ab):Bool:=(c.Block==d.Block)&&decide (c.At+c.Cut<=d.At)
def frB (c d:Ab):Bool:=(c.Block != d.Block)||(!(FI c d==FI d c))
def noC:Ab:={ Block:=0,At:=0,Cut:=0,Put:=[] }
def shC (c d:Ab):Ab:=if FI d c=true then { Block:=c.Block,At:=c.At+((d.Put.length:Int)-d.Cut),Cut:=c.Cut,Put:=c.Put } else c
def ovS (c d:Ab):Ab×Bool:=if frB c d=true then (shC c d,true) else (noC,false)
def PR:Ab->List Ab->Nat->Ab×Int×Bool
 | c,[],i=>(c,(i:Int),true)
 | c,d::l,i=>if frB c d=true then PR (shC c d) l (i+1) else (noC,(i:Int),false)
theorem VL {c d:Ab}:FI c d=true↔c.Block=d.Block/\c.At+c.Cut<=d.At:=by unfold FI;simp
theorem JbF {c d:Ab}:FI c d=false↔¬(c.Block=d.Block/\c.At+c.Cut<=d.At):=by rw [← Bool.not_eq_true,VL]
theorem XZ {c d:Ab}:frB c d=true↔c.Block≠d.Block\/FI c d≠FI d c:=by unfold frB;simp [Bool.beq_eq_decide_eq]
theorem RI (c d:Ab):frB c d=frB d c:=by
 unfold frB
 rw [show (c.Block != d.Block)=(d.Block != c.Block) from bne_comm ..,show (FI c d==FI d c)=(FI d c==FI c d) from BEq.comm ..]
def Gu (c d:Ab):Prop:=c.Block<d.Block\/c.Block=d.Block/\(c.At<d.At\/c.At=d.At/\c.Cut<d.Cut)
theorem JbG {c:Ab}:¬Gu c c:=by unfold Gu;omega
theorem JeE {c d e:Ab} (h:Gu c d) (h':Gu d e):Gu c e:=by unfold Gu at *;omega
theorem JeF {c d:Ab} (h:frB c d=true):Gu c d\/Gu d c:=by
 rw [XZ] at h
 rcases h with h|h
 ·unfold Gu;omega
 ·by_cases hb:c.Block=d.Block
  ·by_cases h1:c.At=d.At
   ·by_cases h2:c.Cut=d.Cut
    ·exfalso
     refine h ?_
     unfold FI
     rw [h1,h2,hb]
    ·unfold Gu;omega
   ·unfold Gu;omega
  ·unfold Gu;omega
theorem JbH {c d:Ab} (hc:0<=c.Cut) (hd:0<=d.Cut) (h:frB c d=true) (hl:Gu c d) (hb:c.Block=d.Block):FI c d=true/\FI d c=false:=by
 rw [XZ] at h
 have hne:=h.resolve_left (by simp [hb])
 rcases hcd:FI c d with _|_
 ·rw [hcd] at hne
  have hdc:FI d c=true:=by cases hx:FI d c with|true=>rfl|false=>rw [hx] at hne;exact absurd rfl hne
  rw [JbF] at hcd
  rw [VL] at hdc
  unfold Gu at hl
  omega
 ·rw [hcd] at hne
  exact ⟨rfl,by cases hx:FI d c with|false=>rfl|true=>rw [hx] at hne;exact absurd rfl hne⟩
def Frs (l:List Ab):Prop:=l.Pairwise λ c d=>frB c d=true/\Gu c d
def JlA (l:List Ab):Prop:=∀ c∈l,0<=c.Cut
def G7 (b:Int):List Ab->Int
 | []=>0
 | d::l=>(if d.Block=b then (d.Put.length:Int)-d.Cut else 0)+G7 b l
theorem VM (b:Int) (l m:List Ab):G7 b (l++m)=G7 b l+G7 b m:=by
 induction l with
 | nil=>simp [G7]
 | cons d l ih=>simp only [List.cons_append,G7,ih];omega
def mvC (k:Int) (c:Ab):Ab:={ Block:=c.Block,At:=c.At+k,Cut:=c.Cut,Put:=c.Put }
theorem JkB (c:Ab):mvC 0 c=c:=by unfold mvC;simp
def D3 (pre:List Ab):List Ab->List Ab
 | []=>[]
 | d::l=>mvC (G7 d.Block pre) d::D3 (pre++[d]) l
theorem S1 (pre l:List Ab):(D3 pre l).length=l.length:=by
 induction l generalizing pre with
 | nil=>rfl
 | cons d l ih=>simp only [D3,List.length_cons,ih]
theorem Zj (pre l m:List Ab):D3 pre (l++m)=D3 pre l++D3 (pre++l) m:=by
 induction l generalizing pre with
 | nil=>simp [D3]
 | cons d l ih=>simp only [List.cons_append,D3,ih,List.append_assoc,List.cons_append,List.nil_append]
theorem JkC {c d:Ab} {k j:Int} (h:c.Block=d.Block->k=j):frB (mvC k c) (mvC j d)=frB c d/\FI (mvC j d) (mvC k c)=FI d c:=by
 by_cases hb:c.Block=d.Block
 ·have:=h hb
  subst this
  unfold frB FI mvC
  simp only
  have e1:decide (d.At+k+d.Cut<=c.At+k)=decide (d.At+d.Cut<=c.At):=by rw [decide_eq_decide];omega
  have e2:decide (c.At+k+c.Cut<=d.At+k)=decide (c.At+c.Cut<=d.At):=by rw [decide_eq_decide];omega
  rw [e1,e2]
  exact ⟨rfl,rfl⟩
 ·have h1:(c.Block != d.Block)=true:=by simp [hb]
  have h2:(d.Block==c.Block)=false:=by simp;exact λ h=>hb h.symm
  unfold frB FI mvC
  simp only [h1,h2,Bool.true_or,Bool.false_and]
  exact ⟨trivial,trivial⟩
theorem Xb (c:Ab) (hc:0<=c.Cut) (pre l:List Ab) (i:Nat) (hl:JlA l) (h:∀ d∈l,frB c d=true/\Gu d c) :
  PR (mvC (G7 c.Block pre) c) (D3 pre l) i=(mvC (G7 c.Block (pre++l)) c,((i+l.length:Nat):Int),true):=by
 induction l generalizing pre i with
 | nil=>simp [D3,PR]
 | cons d l ih=>
  have hd:=h d (List.mem_cons_self ..)
  have hdc:=hl d (List.mem_cons_self ..)
  simp only [D3,PR]
  have e:=JkC (c:=c) (d:=d) (k:=G7 c.Block pre) (j:=G7 d.Block pre) (λ hb=>by rw [hb])
  rw [e.1,if_pos hd.1]
  have hsh:shC (mvC (G7 c.Block pre) c) (mvC (G7 d.Block pre) d)=mvC (G7 c.Block (pre++[d])) c:=by
   unfold shC
   rw [e.2]
   by_cases hb:d.Block=c.Block
   ·have:=JbH hdc hc (by rw [RI];exact hd.1) hd.2 hb
    rw [if_pos this.1,VM]
    unfold mvC
    simp only [G7,if_pos hb]
    congr 1
    omega
   ·have:FI d c=false:=by rw [JbF];exact λ hh=>hb hh.1
    rw [if_neg (by rw [this];simp),VM]
    simp [G7,hb]
  rw [hsh]
  have:=ih (pre++[d]) (i+1) (λ x hx=>hl x (List.mem_cons_of_mem _ hx)) (λ x hx=>h x (List.mem_cons_of_mem _ hx))
  rw [this]
  simp only [List.append_assoc,List.cons_append,List.nil_append,List.length_cons]
  congr 3
  omega
end Go.AI
end
section
namespace Go.AI
def Okc (A:Int) (c:Ab):Prop:=-A<=c.At/\c.At<=A/\-1000<=c.Cut/\c.Cut<=1000/\c.Put.length<=1000
theorem Okc.mono {A B:Int} {c:Ab} (h:Okc A c) (hB:A<=B):Okc B c:=by unfold Okc at *;omega
theorem Okc.sh {A:Int} {c d:Ab} (h:Okc A c) {B:Int} (h':Okc B d):Okc (A+2000) (shC c d):=by
 unfold shC
 split
 ·unfold Okc at *;simp only;omega
 ·unfold Okc at *;omega
variable {A:Int} {c d:Ab}
theorem OI (n:Nat) (hA:A<=1000000000000) (h:Okc A c) (h':Okc A d):EZ n c d=some (FI c d):=by
 unfold EZ FI
 unfold Okc at h h'
 rw [CC (by omega) (by omega)]
 congr 2
 rw [decide_eq_decide];omega
theorem X0 (n:Nat) (hA:A<=1000000000000) (h:Okc A c) (h':Okc A d):J8 n c d=some (frB c d):=by
 unfold J8 frB
 rw [OI n hA h h',OI n hA h' h]
 by_cases hb:c.Block=d.Block
 ·simp [hb]
 ·simp [hb]
theorem X1 (n:Nat) (hA:A<=1000000000000) (h:Okc A c) (h':Okc A d):Dv n c d=some (ovS c d):=by
 unfold Dv ovS
 rw [X0 n hA h h',OI n hA h' h]
 cases frB c d with
 | false=>rfl
 | true=>
  simp only [JlH,JlO,Jma,if_false,if_true]
  unfold shC
  have e:Aj .i64 c.At (AT .i64 ((d.Put.length:Nat):Int) d.Cut)=c.At+((d.Put.length:Int)-d.Cut):=by
   unfold Okc at h h'
   rw [CC (by omega) (by omega),EG (by omega) (by omega)]
  split
  ·rw [e];rfl
  ·rfl
theorem Zk (c d:Ab) (l:List Ab) (i:Nat):PR c (d::l) i=if frB c d=true then PR (shC c d) l (i+1) else (noC,(i:Int),false):=rfl
theorem VN {l:List Ab} {c:Ab} (hl:l.length<=1000) (hd:∀ d∈l,Okc 1000000000 d) (hc:Okc 1000000000 c):Ev (λ n=>Ie n c l) (PR c l 0):=by
 refine Tot.ev ?_
 refine Tot.bind (R:=λ y=>(match y with | .inl c'=>(c',((l.length:Nat):Int),true) | .inr r=>r)=PR c l 0) ?_ λ y hy=>by
  cases y with
  | inl c'=>exact Tot.pure hy
  | inr r=>exact Tot.pure hy
 refine Tot.upto l.length (λ i (x:Ab×Int)=>x.2=(i:Int)/\PR x.1 (l.drop i) i=PR c l 0/\Okc (1000000000+2000*i) x.1) ?_ ?_ _ ⟨rfl,by simp,by simpa using hc⟩
 ·rintro i ⟨c',x⟩ hi ⟨h1,h2,h3⟩
  simp only at h1 h2 h3
  subst h1
  unfold Ga
  have hdi:=hd _ (JlN hi)
  rw [List.drop_eq_getElem_cons hi] at h2
  refine Tot.iteT (decide_eq_true (by omega)) (Tot.bindC (AF hi) (Tot.bindA (λ n=>X1 n (by omega) h3 (hdi.mono (by omega))) ?_))
  rw [Zk] at h2
  unfold ovS
  by_cases hf:frB c' l[i]=true
  ·rw [if_pos hf] at h2 ⊢
   refine Tot.iteF rfl (Tot.pure ⟨Aq (by omega),h2,?_⟩)
   have:=h3.sh hdi
   exact this.mono (by omega)
  ·rw [if_neg hf] at h2 ⊢
   exact Tot.iteT rfl (Tot.pure h2)
 ·rintro ⟨c',x⟩ ⟨h1,h2,h3⟩
  simp only at h1 h2 h3
  subst h1
  unfold Ga
  refine Tot.iteF (decide_eq_false (by omega)) (Tot.pure ?_)
  rw [List.drop_of_length_le (by omega)] at h2
  exact h2
theorem JeG (n:Nat) (a b:Int):B4 n a b=some (if a<b then -1 else if b<a then 1 else 0):=by
 unfold B4 Ec
 simp only [JlH,bne_self_eq_false,Jma,if_false,decide_eq_true_eq]
 by_cases h:a<b
 ·simp [h]
 ·by_cases h':b<a
  ·simp [h,h']
  ·simp [h,h']
theorem JeH (n:Nat) (a b:List UInt8):Cq n a b=some (if Op.bytesLess a b=true then -1 else if a=b then 0 else 1):=by
 unfold Cq CX
 simp only [JlH,BEq.rfl,JlO,Jma,if_false]
 by_cases h:Op.bytesLess a b=true
 ·simp [h]
 ·have h:Op.bytesLess a b=false:=by simpa using h
  by_cases h':a=b
  ·subst h'
   simp [h]
  ·simp [h,h']
def Xc (c d:Ab):Int:=
 if c.Block<d.Block then -1 else if d.Block<c.Block then 1 else if c.At<d.At then -1 else if d.At<c.At then 1 else if c.Cut<d.Cut then -1 else if d.Cut<c.Cut then 1
 else if Op.bytesLess c.Put d.Put=true then -1 else if c.Put=d.Put then 0 else 1
theorem Xd (a b c d:Int):∀ n,5<=n->Hn n [a,b,c,d]=some (if a≠0 then a else if b≠0 then b else if c≠0 then c else d):=by
 intro n hn
 obtain ⟨m,rfl⟩:∃ m,n=m+5:=⟨n-5,by omega⟩
 unfold Hn
 by_cases ha:a=0<;>by_cases hb:b=0<;>by_cases hc:c=0<;>by_cases hd:d=0 <;>
  simp [whl,GE,idx,ha,hb,hc,hd,show Aj .i64 0 1=1 from rfl,show Aj .i64 1 1=2 from rfl,show Aj .i64 2 1=3 from rfl,show Aj .i64 3 1=4 from rfl]
theorem VO (c d:Ab):∀ n,5<=n->Gv n c d=some (Xc c d):=by
 intro n hn
 unfold Gv
 simp only [JeG,JeH,JlH]
 rw [Xd _ _ _ _ n hn]
 unfold Xc
 simp only [JlH,Jl9]
 by_cases h1:c.Block<d.Block<;>by_cases h2:d.Block<c.Block<;>by_cases h3:c.At<d.At<;>by_cases h4:d.At<c.At<;>by_cases h5:c.Cut<d.Cut<;>by_cases h6:d.Cut<c.Cut<;>simp [h1,h2,h3,h4,h5,h6]
end Go.AI
end
section
namespace Go.AI
theorem Dn {ρ ζ:Type} {body:Nat->Int->Option (Int⊕(Unit⊕ρ))} {k:Nat->(Unit⊕ρ)->Option ζ} {r:ζ} (N:Nat) (h:∀ i,i<N->Ev (λ n=>body n (i:Int)) (.inl ((i+1:Nat):Int))) (hl:∀ n,body n (N:Int)=some (.inr (.inl ()))) (hk:∀ n,k n (.inl ())=some r):Ev (λ n=>(whl (body n) n 0).bind (k n)) r:=by
 refine Tot.ev (Tot.bind (R:=λ y=>y=.inl ()) ?_ λ y hy=>?_)
 ·refine Tot.upto N (λ i (x:Int)=>x=(i:Int)) (λ i x hi hx=>?_) (λ x hx=>?_) _ rfl
  ·subst hx
   exact (h i hi).tot rfl
  ·subst hx
   exact Tot.all hl rfl
 ·subst hy
  exact Tot.all hk rfl
theorem Ji3 {f:List Al} (h:f.length<=1000000000):Ev (λ n=>NZ n f f) true:=by
 refine Tot.ev (Tot.iteF (by simp) (Ev.tot (Dn f.length (λ i hi=>?_) (λ n=>?_) λ n=>rfl) rfl))
 ·unfold Gb
  exact Tot.ev (Tot.iteT (decide_eq_true (by omega)) (Tot.bindC (AF hi) (Tot.bindC (AF hi) (Tot.iteF (by simp) (Tot.pure (by rw [Aq (by omega)]))))))
 ·unfold Gb
  rw [if_neg (by simp)]
structure SzB (x:Ad):Prop where
 rows:x.Rows.length<=1000000000
 row:∀ r∈x.Rows,r.length<=1000000000
 f:x.F.length<=1000000000
 pf:x.Pic.F.length<=1000000000
 pp:∀ g∈x.Pic.F,g.P.length<=1000000000
theorem JbI {l:List (List (List UInt8))} (h:l.length<=1000000000) (h':∀ r∈l,r.length<=1000000000):Ev (λ n=>HS n l l) true:=by
 refine Tot.ev (Tot.iteF (by simp) (Ev.tot (Dn l.length (λ i hi=>?_) (λ n=>?_) λ n=>rfl) rfl))
 ·unfold Dg
  have hr:=h' _ (JlN hi)
  refine Tot.ev (Tot.iteT (decide_eq_true (by omega)) (Tot.bindC (AF hi) (Tot.bindC (AF hi) (Tot.iteF (by simp) (Ev.tot (Dn l[i].length (λ j hj=>?_) (λ n=>?_) λ n=>rfl) (by rw [Aq (by omega)]))))))
  ·unfold Df
   exact Tot.ev (Tot.bindC (AF hi) (Tot.iteT (decide_eq_true (by omega)) (Tot.bindC (AF hi) (Tot.bindC (AF hj) (Tot.bindC (AF hi) (Tot.bindC (AF hj) (Tot.iteF (by simp) (Tot.pure (by rw [Aq (by omega)])))))))))
  ·unfold Df
   rw [AF hi]
   simp
 ·unfold Dg
  rw [if_neg (by simp)]
theorem VP {p:Af} (h:p.F.length<=1000000000) (h':∀ g∈p.F,g.P.length<=1000000000):Ev (λ n=>E0 n p p) true:=by
 refine Tot.ev (Tot.iteF (by simp) (Ev.tot (Dn p.F.length (λ i hi=>?_) (λ n=>?_) λ n=>rfl) rfl))
 ·unfold Cs
  have hr:=h' _ (JlN hi)
  refine Tot.ev (Tot.iteT (decide_eq_true (by omega)) (Tot.bindC (AF hi) (Tot.bindC (AF hi) (Tot.iteF (by simp) (Ev.tot (Dn p.F[i].P.length (λ j hj=>?_) (λ n=>?_) λ n=>rfl) (by rw [Aq (by omega)]))))))
  ·unfold Cr
   exact Tot.ev (Tot.iteT (decide_eq_true (by omega)) (Tot.bindC (AF hj) (Tot.bindC (AF hj) (Tot.iteF (by simp) (Tot.pure (by rw [Aq (by omega)]))))))
  ·unfold Cr
   rw [if_neg (by simp)]
 ·unfold Cs
  rw [if_neg (by simp)]
theorem Zl {x:Ad} (h:SzB x):Ev (λ n=>GJ n x x) true:=
 Tot.ev (Tot.gE (by simp) (Ji3 h.f) (Tot.iteF (by simp) (Tot.bindE (JbI h.rows h.row) (Tot.gE rfl (VP h.pf h.pp) (Tot.pure rfl)))))
theorem RJ {b:List Ad} (h:b.length<=1000000000) (h':∀ x∈b,SzB x):Ev (λ n=>DZ n b b) true:=by
 refine Tot.ev (Tot.iteF (by simp) (Ev.tot (Dn b.length (λ i hi=>?_) (λ n=>?_) λ n=>rfl) rfl))
 ·unfold Gc
  exact Tot.ev (Tot.iteT (decide_eq_true (by omega)) (Tot.bindC (AF hi) (Tot.bindC (AF hi) (Tot.bindE (Zl (h' _ (JlN hi))) (Tot.iteF rfl (Tot.pure (by rw [Aq (by omega)])))))))
 ·unfold Gc
  rw [if_neg (by simp)]
theorem VQ {l:List Ab} (h:l.length<=1000000000):Ev (λ n=>E1 n l l) true:=by
 refine Tot.ev (Tot.iteF (by simp) (Ev.tot (Dn l.length (λ i hi=>?_) (λ n=>?_) λ n=>rfl) rfl))
 ·unfold Ct
  exact Tot.ev (Tot.iteT (decide_eq_true (by omega)) (Tot.bindC (AF hi) (Tot.bindC (AF hi) (Tot.iteF (by simp) (Tot.pure (by rw [Aq (by omega)]))))))
 ·unfold Ct
  rw [if_neg (by simp)]
theorem VR {v:Ao} (h:v.Agreed.length<=1000000000) (h':v.Quarrels.length<=1000000000):Ev (λ n=>N0 n v v) true:=by
 refine Tot.ev (Tot.bindE (VQ h) (Tot.iteF (by simp) (Ev.tot (Dn v.Quarrels.length (λ i hi=>?_) (λ n=>?_) λ n=>rfl) rfl)))
 ·unfold Gd
  exact Tot.ev (Tot.iteT (decide_eq_true (by omega)) (Tot.bindC (AF hi) (Tot.bindC (AF hi) (Tot.iteF (by simp) (Tot.pure (by rw [Aq (by omega)]))))))
 ·unfold Gd
  rw [if_neg (by simp)]
end Go.AI
end
section
namespace Go.AI
def scan {ρ:Type} (N:Nat) (stop:Nat->Option ρ):Unit⊕ρ:=match (List.range N).findSome? stop with
 | some r=>.inr r
 | none=>.inl ()
theorem X2 {ρ:Type} {body:Nat->Int->Option (Int⊕(Unit⊕ρ))} (N:Nat) (stop:Nat->Option ρ)
  (h:∀ i,i<N->Ev (λ n=>body n (i:Int)) (match stop i with|some r=>.inr (.inr r)|none=>.inl ((i+1:Nat):Int)))
  (h2:Ev (λ n=>body n (N:Int)) (.inr (.inl ()))):Ev (λ n=>whl (body n) n 0) (AI.scan N stop):=by
 have key:∀ (k i:Nat),i+k=N->(List.range N).findSome? stop=((List.range k).map (i+·)).findSome? stop->∃ M c,∀ n fuel,M<=n->c<=fuel->whl (body n) fuel (i:Int)=some (AI.scan N stop):=by
  intro k
  induction k with
  | zero=>
   intro i hi hf
   have:i=N:=by omega
   subst this
   obtain ⟨M,hM⟩:=h2
   refine ⟨M,1,λ n fuel hn hfu=>?_⟩
   obtain ⟨fuel,rfl⟩:∃ f,fuel=f+1:=⟨fuel-1,by omega⟩
   have e:=hM n hn
   simp only at e
   simp only [AI.whl,e]
   unfold AI.scan
   rw [hf];rfl
  | succ k ih=>
   intro i hi hf
   obtain ⟨M,hM⟩:=h i (by omega)
   have hs:(List.range (k+1)).map (i+·)=i::(List.range k).map ((i+1)+·):=by
    rw [List.range_succ_eq_map]
    simp only [JlW,Nat.add_zero,List.map_map,List.cons.injEq,true_and]
    apply List.map_congr_left
    intro a _
    simp only [Function.comp];omega
   rw [hs,List.findSome?_cons] at hf
   cases hst:stop i with
   | some r=>
    rw [hst] at hf hM
    refine ⟨M,1,λ n fuel hn hfu=>?_⟩
    obtain ⟨fuel,rfl⟩:∃ f,fuel=f+1:=⟨fuel-1,by omega⟩
    have e:=hM n hn
    simp only at e
    simp only [AI.whl,e]
    unfold AI.scan
    rw [hf]
   | none=>
    rw [hst] at hf hM
    obtain ⟨M2,c,h3⟩:=ih (i+1) (by omega) hf
    refine ⟨max M M2,c+1,λ n fuel hn hfu=>?_⟩
    obtain ⟨fuel,rfl⟩:∃ f,fuel=f+1:=⟨fuel-1,by omega⟩
    have e:=hM n (by omega)
    simp only at e
    simp only [AI.whl,e]
    exact h3 n fuel (by omega) (by omega)
 obtain ⟨M,c,hh⟩:=key N 0 (by omega) (by simp)
 exact ⟨max M c,λ m hm=>hh m m (by omega) (by omega)⟩
theorem Zm {ρ:Type} {N:Nat} {stop:Nat->Option ρ} (h:∀ i,i<N->stop i=none):scan N stop=.inl ():=by
 unfold scan
 rw [List.findSome?_eq_none_iff.2 λ i hi=>h i (List.mem_range.1 hi)]
theorem Zn {ρ:Type} {N:Nat} {stop:Nat->Option ρ} {i:Nat} (hi:i<N) (h:(stop i).isSome=true):∃ k r,k<N/\stop k=some r/\scan N stop=.inr r:=by
 unfold scan
 cases hf:(List.range N).findSome? stop with
 | none=>rw [List.findSome?_eq_none_iff.1 hf i (List.mem_range.2 hi)] at h;cases h
 | some r=>
  obtain ⟨k,hk,hr⟩:=List.exists_of_findSome?_eq_some hf
  exact ⟨k,r,List.mem_range.1 hk,hr,rfl⟩
def EH (b:UInt8):Int:=(b.toNat:Int)
def G8 (b:UInt8):Bool:=decide (D9 .u8 (EH b) 127>=32)&&decide (D9 .u8 (EH b) 127<=126)
def CD (b:UInt8):Bool:=D9 .u8 (EH b) 127==32
theorem EI {s:List UInt8} {i:Nat} {b:UInt8} (h:s[i]? = some b):I2 s (i:Int)=some (EH b):=by
 have hi:=(List.getElem?_eq_some_iff.1 h).1
 unfold I2 EH
 rw [if_pos (by omega),Jl8,h];rfl
theorem EJ {i n:Nat} (h:i<n):decide ((i:Int)<((n:Nat):Int))=true:=by simpa using h
theorem C3 (n:Nat):decide (((n:Nat):Int)<((n:Nat):Int))=false:=by simp
def Po (s:List UInt8):Int×Int:=match scan s.length (λ i=>if G8 (s.getD i 0) then none else some ((i:Int),(60:Int))) with
 | .inl _=>(((s.length:Nat):Int),0)
 | .inr p=>p
theorem BT {α:Type} {l:List α} {i:Nat} {d:α} (h:i<l.length):l.getD i d=l[i]:=by
 rw [Jl7,JlY h];rfl
theorem JeI {s:List UInt8} (hl:s.length<9223372036854775807):Ev (λ n=>Na n s) (Po s):=by
 unfold Na Po
 refine Ev.bind (X2 s.length (λ i=>if G8 (s.getD i 0) then none else some ((i:Int),(60:Int))) (λ i hi=>Ev.all λ n=>?_) (Ev.all λ n=>?_)) ?_
 ·unfold Hm
  have hg:s[i]? = some s[i]:=JlY hi
  rw [if_pos (EJ hi),EI hg,BT hi]
  have hc:FQ n (EH s[i])=some (G8 s[i]):=rfl
  simp only [JlH,hc]
  cases G8 s[i] with
  | true=>simp [Aq (show i<9223372036854775807 by omega)]
  | false=>simp
 ·unfold Hm
  rw [if_neg (by simp)]
 ·generalize scan s.length _=z;cases z<;>exact Ev.const
theorem JbJ {s:List UInt8} (hl:s.length<9223372036854775807):Ev (λ n=>Nd n s) (Po s):=by
 unfold Nd Po
 refine Ev.bind (X2 s.length (λ i=>if G8 (s.getD i 0) then none else some ((i:Int),(60:Int))) (λ i hi=>Ev.all λ n=>?_) (Ev.all λ n=>?_)) ?_
 ·unfold Hw
  have hg:s[i]? = some s[i]:=JlY hi
  rw [if_pos (EJ hi),EI hg,BT hi]
  have hc:HW n (EH s[i])=some (G8 s[i]):=rfl
  simp only [JlH,hc]
  cases G8 s[i] with
  | true=>simp [Aq (show i<9223372036854775807 by omega)]
  | false=>simp
 ·unfold Hw
  rw [if_neg (by simp)]
 ·generalize scan s.length _=z;cases z<;>exact Ev.const
theorem VS {s:List UInt8} (h:s.all G8=true):Po s=(((s.length:Nat):Int),0):=by
 unfold Po
 rw [Zm λ i hi=>by rw [BT hi,JlL.1 h _ (JlN hi)];rfl]
theorem S2 {s:List UInt8} (h:s.all G8=false):(Po s).2=60:=by
 rw [List.all_eq_false] at h
 obtain ⟨b,hb,hc⟩:=h
 obtain ⟨i,hi,e⟩:=List.getElem_of_mem hb
 unfold Po
 obtain ⟨k,r,hk,hr,hs⟩:=Zn (stop:=λ i=>if G8 (s.getD i 0) then none else some ((i:Int),(60:Int))) hi (by
  rw [BT hi,e];simp only [Bool.not_eq_true] at hc;rw [hc];rfl)
 rw [hs]
 simp only at hr ⊢
 split at hr
 ·cases hr
 ·cases hr;rfl
theorem Zo {s:List UInt8} (hl:s.length<9223372036854775807):Ev (λ n=>I7 n s) (s.all G8):=by
 unfold I7
 refine Ev.bind (JbJ hl) ?_
 cases h:s.all G8 with
 | true=>rw [VS h];exact Ev.const
 | false=>rw [S2 h];exact Ev.const
def Jj (b:Int):Int:=
 if (decide (97<=D9 .u8 b 127)&&decide (D9 .u8 b 127<=122))=true then 1
 else if (decide (65<=D9 .u8 b 127)&&decide (D9 .u8 b 127<=90))=true then 2
 else if (decide (48<=D9 .u8 b 127)&&decide (D9 .u8 b 127<=57))=true then 3
 else if (D9 .u8 b 127==32)=true then 4 else 5
theorem JbK (n:Nat) (b:Int):K5 n b=some (Jj b):=by
 unfold K5 Jj
 split
 ·rfl
 ·split
  ·rfl
  ·split
   ·rfl
   ·split<;>rfl
def G9:Bool->List UInt8->Bool
 | p,[]=>!p
 | p,b::s=>if CD b=true then (if p=true then false else G9 true s) else G9 false s
def clS (s:List UInt8):Bool:=decide (s.length<=400)&&(s.all G8&&G9 true s)
theorem S3 (p:Bool) (b:UInt8) (s:List UInt8):G9 p (b::s)=if CD b=true then (if p=true then false else G9 true s) else G9 false s:=rfl
theorem Lc {p:Bool} {b:UInt8} {s:List UInt8} (h:(CD b&&p)=false):G9 p (b::s)=G9 (CD b) s:=by
 rw [S3]
 cases hb:CD b with
 | false=>simp
 | true=>
  rw [hb,Bool.true_and] at h
  simp [h]
theorem Ud {p:Bool} {b:UInt8} {s:List UInt8} (h:(CD b&&p)=true):G9 p (b::s)=false:=by
 rw [JlZ] at h
 rw [S3]
 simp [h.1,h.2]
theorem OJ:∀ (s:List UInt8) (p:Bool),s≠[]->CD (s.getD (s.length-1) 0)=true->G9 p s=false
 | [],_,h,_=>absurd rfl h
 | [b],p,_,h=>by
  have hb:CD b=true:=h
  unfold G9
  rw [if_pos hb]
  cases p<;>rfl
 | b::c::s,p,_,h=>by
  have h':CD ((c::s).getD ((c::s).length-1) 0)=true:=h
  have e1:=OJ (c::s) true (by simp) h'
  have e2:=OJ (c::s) false (by simp) h'
  unfold G9
  split
  ·split
   ·rfl
   ·exact e1
  ·exact e2
theorem RM (b:UInt8):(Jj (EH b)==4)=CD b:=by
 unfold Jj CD
 generalize D9 .u8 (EH b) 127=v
 by_cases h:v=32
 ·subst h;rfl
 ·have e:(v==32)=false:=by simpa using h
  rw [e]
  split
  ·rfl
  ·split
   ·rfl
   ·split
    ·rfl
    ·rfl
theorem S4 (b:UInt8):Jj (EH b)≠0:=by
 unfold Jj
 split
 ·decide
 ·split
  ·decide
  ·split
   ·decide
   ·split<;>decide
theorem X3 {s:List UInt8} (h:clS s=true):1<=s.length/\s.length<=400:=by
 unfold clS at h
 simp only [JlZ,decide_eq_true_eq] at h
 refine ⟨?_,h.1⟩
 cases s with
 | nil=>simp [G9] at h
 | cons=>simp
theorem JbL (s:List UInt8) (hl:s.length<9223372036854775807):Ev (λ n=>Id n s) (clS s):=by
 refine Tot.ev (Tot.ite (λ h=>Tot.pure ?_) λ h=>?_)
 ·simp only [Jmg,decide_eq_true_eq] at h
  unfold clS
  rcases h with h|h
  ·have:s=[]:=List.length_eq_zero_iff.1 (by omega)
   subst this;rfl
  ·rw [decide_eq_false (by omega)];rfl
 ·simp only [JlX,decide_eq_false_iff_not] at h
  have h4:decide (s.length<=400)=true:=decide_eq_true (by omega)
  unfold clS
  rw [h4,Bool.true_and]
  refine Tot.bindE (JeI hl) ?_
  cases hc:s.all G8 with
  | false=>
   rw [S2 hc]
   exact Tot.iteT rfl (Tot.pure rfl)
  | true=>
   rw [VS hc]
   refine Tot.iteF rfl ?_
   rw [Bool.true_and]
   refine Tot.bind (R:=λ y=>(match y with | .inl l=>(l != 4) | .inr b=>b)=G9 true s) ?_ λ y hy=>by
    cases y with
    | inl l=>exact Tot.pure hy
    | inr b=>exact Tot.pure hy
   refine Tot.upto s.length (λ i (x:Int×Int)=>x.2=(i:Int)/\(x.1=0->i=0)/\G9 ((x.1==0)||(x.1==4)) (s.drop i)=G9 true s) ?_ ?_ _ ⟨rfl,λ _=>rfl,rfl⟩
   ·rintro i ⟨l,x⟩ hi ⟨h1,h2,h3⟩
    simp only at h1 h2 h3
    subst h1
    unfold F9
    rw [List.drop_eq_getElem_cons hi] at h3
    refine Tot.iteT (decide_eq_true (by omega)) (Tot.bindC (EI (JlY hi)) (Tot.bindA (λ n=>JbK n _) ?_))
    rw [RM]
    refine Tot.ite (λ hb=>Tot.pure ?_) λ hb=>Tot.pure ⟨Aq (by omega),λ h0=>absurd h0 (S4 _),?_⟩
    ·show false=_
     rw [← h3,Ud hb]
    ·rw [Lc hb] at h3
     rw [← h3]
     show G9 ((Jj (EH s[i])==0)||(Jj (EH s[i])==4)) (s.drop (i+1))=_
     rw [RM,show (Jj (EH s[i])==0)=false by simpa using S4 _,Bool.false_or]
   ·rintro ⟨l,x⟩ ⟨h1,h2,h3⟩
    simp only at h1 h2 h3
    subst h1
    unfold F9
    refine Tot.iteF (decide_eq_false (by omega)) (Tot.pure ?_)
    rw [List.drop_of_length_le (JlP _)] at h3
    show (l != 4)=_
    rw [← h3]
    have:(l==0)=false:=by
     rw [beq_eq_false_iff_ne]
     intro h0
     have:=h2 h0
     omega
    rw [this]
    rfl
theorem NC (n:Nat) (b:UInt8):Gw n (EH b)=some (CD b):=rfl
theorem II (s:List UInt8) (hl:s.length<9223372036854775807):Ev (λ n=>Fa n s) (clS s):=by
 refine Tot.ev (Tot.bindE (Zo hl) ?_)
 unfold clS
 cases hc:s.all G8 with
 | false=>
  refine Tot.gF rfl (Tot.gF rfl (Tot.gF rfl (Tot.gF rfl (Tot.iteT rfl (Tot.pure ?_)))))
  rw [Bool.false_and,Bool.and_false]
 | true=>
  rw [Bool.true_and]
  by_cases h0:s=[]
  ·subst h0
   exact Tot.gF rfl (Tot.gF rfl (Tot.gF rfl (Tot.gF rfl (Tot.iteT rfl (Tot.pure rfl)))))
  ·have hp:0<s.length:=List.length_pos_iff.2 h0
   have e0:(((s.length:Nat):Int)==0)=false:=by rw [beq_eq_false_iff_ne];omega
   rw [e0]
   by_cases h4:s.length<=400
   ·have e4:decide (((s.length:Nat):Int)>400)=false:=decide_eq_false (by omega)
    rw [e4,decide_eq_true h4,Bool.true_and]
    have ef:s.getD 0 0=s[0]:=BT hp
    have g0:I2 s 0=some (EH s[0]):=EI (i:=0) (JlY hp)
    have hm:s.length-1<s.length:=by omega
    have g1:I2 s (AT .i64 ((s.length:Nat):Int) 1)=some (EH s[s.length-1]):=by
     rw [CC (by omega) (by omega),show ((s.length:Nat):Int)-1=((s.length-1:Nat):Int) by omega]
     exact EI (JlY hm)
    refine Tot.gE rfl (Ev.all λ n=>g0) (Tot.gE rfl (Ev.all λ n=>NC n _) ?_)
    obtain ⟨b0,s',rfl⟩:∃ b s',s=b::s':=by cases s with|nil=>exact absurd rfl h0|cons b s'=>exact ⟨b,s',rfl⟩
    cases hb:CD (b0::s')[0] with
    | true=>
     refine Tot.gF rfl (Tot.gF rfl (Tot.iteT rfl (Tot.pure ?_)))
     exact (Ud (by rw [Bool.and_true];exact hb)).symm
    | false=>
     refine Tot.gE rfl (Ev.all λ n=>g1) (Tot.gE rfl (Ev.all λ n=>NC n _) ?_)
     cases hb1:CD (b0::s')[(b0::s').length-1] with
     | true=>
      refine Tot.iteT rfl (Tot.pure ?_)
      exact (OJ _ _ (by simp) (by rw [BT hm];exact hb1)).symm
     | false=>
      refine Tot.iteF rfl ?_
      have hst:G9 true (b0::s')=G9 false s':=by
       have:=Lc (p:=true) (b:=b0) (s:=s') (by rw [Bool.and_true];exact hb)
       rw [this,show CD b0=false from hb]
      generalize hS:b0::s'=S at *
      refine Tot.bind (R:=λ y=>(match y with | .inl _=>true | .inr b=>b)=G9 true S) ?_ λ y hy=>by
       cases y with
       | inl l=>exact Tot.pure hy
       | inr b=>exact Tot.pure hy
      refine Tot.whl (λ k (x:Int)=>∃ i:Nat,x=(i:Int)/\1<=i/\i+k=S.length/\G9 (CD (S.getD (i-1) 0)) (S.drop i)=G9 true S) ?_ (S.length-1) _ ⟨1,rfl,by omega,by omega,?_⟩
      ·rintro k _ ⟨i,rfl,hi1,hik,h3⟩
       unfold I8
       rcases JlQ i S.length with hi|hi
       ·rw [List.drop_eq_getElem_cons hi] at h3
        have gp:I2 S (AT .i64 (i:Int) 1)=some (EH (S.getD (i-1) 0)):=by
         rw [CC (by omega) (by omega),show (i:Int)-1=((i-1:Nat):Int) by omega,BT (by omega)]
         exact EI (JlY (by omega))
        refine Tot.iteT (decide_eq_true (by omega)) (Tot.bindC (EI (JlY hi)) (Tot.bindA (λ n=>NC n _) ?_))
        cases hsi:CD S[i] with
        | false=>
         rw [Lc (by rw [hsi];rfl),hsi] at h3
         refine Tot.gF rfl (Tot.gF rfl (Tot.iteF rfl (Tot.pure ⟨k-1,by omega,i+1,Aq (by omega),by omega,by omega,?_⟩)))
         rw [show i+1-1=i by omega,BT hi,hsi];exact h3
        | true=>
         refine Tot.gE rfl (Ev.all λ n=>gp) (Tot.gE rfl (Ev.all λ n=>NC n _) ?_)
         cases hsp:CD (S.getD (i-1) 0) with
         | true=>
          rw [Ud (by rw [hsi,hsp];rfl)] at h3
          exact Tot.iteT rfl (Tot.pure h3)
         | false=>
          rw [Lc (by rw [hsi,hsp];rfl),hsi] at h3
          refine Tot.iteF rfl (Tot.pure ⟨k-1,by omega,i+1,Aq (by omega),by omega,by omega,?_⟩)
          rw [show i+1-1=i by omega,BT hi,hsi];exact h3
       ·refine Tot.iteF (decide_eq_false (by omega)) (Tot.pure ?_)
        show true=_
        rw [← h3,List.drop_of_length_le hi]
        have:i=S.length:=by omega
        subst this
        rw [BT hm,hb1];rfl
      ·rw [hst]
       subst hS
       show G9 (CD b0) s'=_
       rw [show CD b0=false from hb]
   ·have e4:decide (((s.length:Nat):Int)>400)=true:=decide_eq_true (by omega)
    rw [e4,decide_eq_false h4]
    exact Tot.gF rfl (Tot.gF rfl (Tot.gF rfl (Tot.gF rfl (Tot.iteT rfl (Tot.pure rfl)))))
end Go.AI
end
section
namespace Go.AI
def U8 (n:Int):Prop:=0<=n/\n<256
theorem u8w {n:Int} (h:U8 n):IntKind.i64.wrap n=n:=by unfold U8 at h;exact w64 (by omega) (by omega)
theorem IJ {x:Int} (h:x≠0):BK (!(x==0))=some ():=D2 (by simpa using h)
theorem RN {l:List Int} (hl:l.length<=9223372036854775807) (hu:∀ x∈l,U8 x) {k:Nat} (hk:1<=k) (hk2:k<=100) {a:List UInt8} (ha:1<=a.length) (ha2:a.length<=100):Tot (λ n=>If n l (k:Int) a) (λ z=>z.length<=k):=by
 have e1:Aj .i64 ((a.length:Nat):Int) 1=((a.length+1:Nat):Int):=Aq (by omega)
 have e2:AT .i64 (k:Int) 1=((k-1:Nat):Int):=(CC (by omega) (by omega)).trans (by omega)
 refine Tot.bind (R:=λ z=>z.length<=k) ?_ λ z hz=>?_
 ·refine Tot.upto l.length (λ i (x:List UInt8×Int)=>x.2=(i:Int)/\x.1.length<=k) ?_ ?_ _ ⟨rfl,by simp⟩
  ·rintro i ⟨o,x⟩ hi ⟨h1,h2⟩
   simp only at h1 h2
   subst h1
   unfold Gf
   refine Tot.ite (λ hb=>?_) λ hb=>Tot.pure h2
   rw [JlZ,decide_eq_true_eq,decide_eq_true_eq] at hb
   simp only at hb
   have hlt:i<l.length:=by omega
   have hx:=hu _ (JlN hlt)
   rw [e1]
   refine Tot.bindC (AF hlt) (Tot.bindC (IJ (by omega)) ?_)
   rw [u8w hx]
   unfold U8 at hx
   obtain ⟨r1,r2,r3⟩:=BN (a:=l[i]) (m:=((a.length+1:Nat):Int)) (by omega) (by omega)
   refine Tot.ite (λ hr=>?_) λ hr=>?_
   ·rw [decide_eq_true_eq] at hr
    rw [CC (by omega) (by omega)]
    refine Tot.bindC (HJ (by omega) (by omega) (by omega)) (Tot.bindC (Ub ?_) (Tot.pure ⟨Aq (by omega),?_⟩))
    ·simp only [List.length_drop,List.length_take];omega
    ·simp only [List.length_append,List.length_drop,List.length_take];omega
   ·rw [e2]
    by_cases h0:0<o.length
    ·have hg:I2 o (AT .i64 ((o.length:Nat):Int) 1)=some (EH (o.getD (o.length-1) 0)):=by
      rw [CC (by omega) (by omega),show ((o.length:Nat):Int)-1=((o.length-1:Nat):Int) by omega,BT (by omega)]
      exact EI (JlY (by omega))
     refine Tot.guard (R:=λ _=>True) (λ _=>Tot.all (λ n=>hg) trivial) λ b _=>Tot.ite (λ hc=>?_) λ hc=>Tot.pure ⟨Aq (by omega),h2⟩
     refine Tot.bindC (Ub (by simp;omega)) (Tot.pure ⟨Aq (by omega),?_⟩)
     simp only [JlZ,decide_eq_true_eq] at hc
     simp only [List.length_append,List.length_singleton];omega
    ·have hf:decide (((o.length:Nat):Int)>0)=false:=decide_eq_false (by omega)
     rw [hf]
     exact Tot.gF rfl (Tot.iteF rfl (Tot.pure ⟨Aq (by omega),h2⟩))
  ·rintro ⟨o,x⟩ ⟨h1,h2⟩
   simp only at h1 h2
   subst h1
   unfold Gf
   exact Tot.iteF (by rw [Bool.and_eq_false_iff,decide_eq_false_iff_not];left;omega) (Tot.pure h2)
 ·have hfin:∀ z':List UInt8,z'.length<=k->Tot (λ n=>Ee n a z') (λ z=>z.length<=k):=λ z' hz'=>by
   unfold Ee
   refine Tot.ite (λ _=>Tot.bindC (Uc (k:=1) (by omega)) (Tot.pure ?_)) λ _=>Tot.pure hz'
   simp only [List.length_take];omega
  by_cases h0:0<z.length
  ·have hg:I2 z (AT .i64 ((z.length:Nat):Int) 1)=some (EH (z.getD (z.length-1) 0)):=by
    rw [CC (by omega) (by omega),show ((z.length:Nat):Int)-1=((z.length-1:Nat):Int) by omega,BT (by omega)]
    exact EI (JlY (by omega))
   refine Tot.gE (decide_eq_true (by omega)) (Ev.all λ n=>hg) (Tot.ite (λ _=>?_) λ _=>hfin z hz)
   rw [CC (by omega) (by omega),show ((z.length:Nat):Int)-1=((z.length-1:Nat):Int) by omega]
   refine Tot.bindC (Uc (by omega)) (hfin _ ?_)
   simp only [List.length_take];omega
  ·have hf:decide (((z.length:Nat):Int)>0)=false:=decide_eq_false (by omega)
   rw [hf]
   exact Tot.gF rfl (Tot.iteF rfl (hfin z hz))
def wdK (x:Ad):Bool:=((x.Kind==1)||(x.Kind==2))||(x.Kind==4)
def B1 (b:List Ad) (i:Int):Ad:=b.getD i.toNat default
def wdB (b:List Ad) (i:Int):Bool:=(decide (0<=i)&&decide (i<((b.length:Nat):Int)))&&wdK (B1 b i)
theorem DG {b:List Ad} {i:Int}:wdB b i=true↔(0<=i/\i<(b.length:Int))/\wdK (B1 b i)=true:=by unfold wdB;simp
theorem Jk {b:List Ad} {i:Int} (h:0<=i) (h':i<(b.length:Int)):idx b i=some (B1 b i):=JbD h h'
theorem S5 (n:Nat) (b:List Ad) (i:Int):FD n b i=some (wdB b i):=by
 unfold FD wdB wdK
 by_cases h:0<=i/\i<(b.length:Int)
 ·have e1:decide (i>=0)=true:=decide_eq_true h.1
  have e2:decide (i<((b.length:Nat):Int))=true:=decide_eq_true h.2
  rw [e1,e2,Jk h.1 h.2]
  generalize B1 b i=x
  by_cases h1:x.Kind=1
  ·simp [h1]
  ·by_cases h2:x.Kind=2
   ·simp [h2]
   ·simp [h1,h2]
 ·have e:(decide (i>=0)&&decide (i<((b.length:Nat):Int)))=false:=by simp only [Bool.and_eq_false_iff,decide_eq_false_iff_not];omega
  rw [e]
  rfl
structure BkT (b:List Ad):Prop where
 len:b.length<=100
 txt:∀ x∈b,x.Text.length<=400
theorem BkT.blk {b:List Ad} (h:BkT b) (i:Int):(B1 b i).Text.length<=400:=by
 unfold B1
 rw [Jl7]
 cases he:b[i.toNat]? with
 | none=>exact Nat.zero_le _
 | some x=>exact h.txt x (Jl0 he)
structure RwC (x:AY):Prop where
 b:U8 x.Block
 a:U8 x.At
 c:U8 x.Cut
 l:x.Put.length<=9223372036854775807
 p:∀ y∈x.Put,U8 y
structure MdC (b:List Ad) (c:Ab):Prop where
 bl:0<=c.Block/\c.Block<256
 at0:0<=c.At
 at1:c.At<=400
 cut0:0<=c.Cut
 cut1:c.Cut<=3
 put:c.Put.length<=4
 wd:(∃ i,wdB b i=true)->wdB b c.Block=true/\c.At+c.Cut<=((B1 b c.Block).Text.length:Int)
theorem MdC.ok {b:List Ad} {c:Ab} (h:MdC b c) {A:Int} (hA:400<=A):Okc A c:=by
 have:=h.at0;have:=h.at1;have:=h.cut0;have:=h.cut1;have:=h.put
 unfold Okc;omega
theorem JbM {b:List Ad} (hb:BkT b) {x:AY} (hx:RwC x) {a:List UInt8} (ha:1<=a.length) (ha2:a.length<=100):Tot (λ n=>Oa n b x a) (MdC b):=by
 have hbl:=hb.len
 refine Tot.bind (R:=λ l=>(l.length<=100/\∀ i∈l,wdB b i=true)/\(l=[]->∀ i,wdB b i=false)) ?_ λ l hl=>?_
 ·refine Tot.upto b.length (λ i (y:List Int×Int)=>y.2=(i:Int)/\(y.1.length<=i/\∀ j∈y.1,wdB b j=true)/\(y.1=[]->∀ j:Nat,j<i->wdB b (j:Int)=false)) ?_ ?_ _ ⟨rfl,⟨by simp,by simp⟩,λ _ j hj=>by omega⟩
  ·rintro i ⟨l,y⟩ hi ⟨h1,h2,h3⟩
   simp only at h1 h2 h3
   subst h1
   unfold Gq
   refine Tot.iteT (decide_eq_true (by omega)) (Tot.bindA (λ n=>S5 n b _) (Tot.ite (λ hw=>?_) λ hw=>Tot.pure ⟨Aq (by omega),⟨by have:=h2.1;show l.length<=i+1;omega,h2.2⟩,λ he j hj=>?_⟩))
   ·refine Tot.bindC (Bf (by simp;omega)) (Tot.pure ⟨Aq (by omega),⟨by simp;exact h2.1,λ j hj=>?_⟩,λ he=>?_⟩)
    ·rw [List.mem_append,List.mem_singleton] at hj
     rcases hj with hj|rfl
     ·exact h2.2 j hj
     ·exact hw
    ·simp at he
   ·rcases Nat.lt_succ_iff_lt_or_eq.1 hj with h|rfl
    ·exact h3 he j h
    ·exact hw
  ·rintro ⟨l,y⟩ ⟨h1,h2,h3⟩
   simp only at h1 h2 h3
   subst h1
   unfold Gq
   refine Tot.iteF (decide_eq_false (by omega)) (Tot.pure ⟨⟨by show l.length<=100;omega,h2.2⟩,λ he i=>?_⟩)
   by_cases hi:0<=i/\i<(b.length:Int)
   ·have:=h3 he i.toNat (by omega)
    rwa [show ((i.toNat:Nat):Int)=i by omega] at this
   ·rw [← Bool.not_eq_true,DG]
    exact λ h=>hi h.1
 ·have hu:=hx.b
  refine Tot.ite (λ he=>Tot.pure ?_) λ he=>?_
  ·rw [beq_iff_eq] at he
   have hn:l=[]:=List.length_eq_zero_iff.1 (by omega)
   have hw:=hl.2 hn
   refine ⟨?_,Int.le_refl 0,by show (0:Int)<=400;decide,Int.le_refl 0,by show (0:Int)<=3;decide,Nat.zero_le _,λ ⟨i,hi⟩=>?_⟩
   ·show 0<=IntKind.i64.wrap x.Block/\IntKind.i64.wrap x.Block<256
    rw [u8w hu];exact hu
   ·rw [hw i] at hi;cases hi
  ·rw [beq_eq_false_iff_ne] at he
   rw [u8w hu,u8w hx.a]
   have hlp:0<l.length:=by omega
   unfold U8 at hu
   obtain ⟨r1,r2,r3⟩:=BN (a:=x.Block) (m:=((l.length:Nat):Int)) (by omega) (by omega)
   have hmem:l.getD (Ak x.Block ((l.length:Nat):Int)).toNat default∈l:=by
    rw [Jl7,JlY (by omega)]
    exact JlN _
   refine Tot.bindC (IJ (by omega)) (Tot.bindC (JbD r2 (by omega)) ?_)
   generalize hj:l.getD (Ak x.Block ((l.length:Nat):Int)).toNat default=j at hmem ⊢
   have hw:=hl.1.2 j hmem
   have hw':=DG.1 hw
   have ht:=hb.blk j
   refine Tot.bindC (Jk hw'.1.1 hw'.1.2) ?_
   generalize hq:B1 b j=q at *
   have e1:Aj .i64 ((q.Text.length:Nat):Int) 1=((q.Text.length+1:Nat):Int):=Aq (by omega)
   rw [e1]
   have ha':=hx.a
   unfold U8 at ha'
   obtain ⟨s1,s2,s3⟩:=BN (a:=x.At) (m:=((q.Text.length+1:Nat):Int)) (by omega) (by omega)
   generalize Ak x.At ((q.Text.length+1:Nat):Int)=A at s1 s2 s3 ⊢
   have e2:Aj .i64 (AT .i64 ((q.Text.length:Nat):Int) A) 1=((q.Text.length:Int)-A+1):=by
    rw [CC (by omega) (by omega),EG (by omega) (by omega)]
   rw [e2]
   have hc:=hx.c
   unfold U8 at hc
   obtain ⟨t1,t2,t3⟩:=BN (a:=x.Cut) (m:=4) (by omega) (by omega)
   rw [w64 (a:=Ak x.Cut 4) (by omega) (by omega)]
   obtain ⟨v1,v2,v3⟩:=BN (a:=Ak x.Cut 4) (m:=((q.Text.length:Int)-A+1)) (by omega) (by omega)
   have v4:Ak (Ak x.Cut 4) ((q.Text.length:Int)-A+1)<=Ak x.Cut 4:=by
    rcases Int.lt_or_le (Ak x.Cut 4) ((q.Text.length:Int)-A+1) with h|h
    ·rw [v1,Int.emod_eq_of_lt t2 h];exact Int.le_refl _
    ·omega
   generalize Ak (Ak x.Cut 4) ((q.Text.length:Int)-A+1)=C at v1 v2 v3 v4 ⊢
   have hfin:∀ P:List UInt8,P.length<=4->MdC b { Block:=j,At:=A,Cut:=C,Put:=P }:=λ P hP=>by
    refine ⟨?_,s2,?_,v2,?_,hP,λ _=>⟨hw,?_⟩⟩
    ·show 0<=j/\j<256;omega
    ·show A<=400;omega
    ·show C<=3;omega
    ·show A+C<=_
     simp only [hq];omega
   refine Tot.bindC (IJ (by omega)) (Tot.bindC (IJ (by omega)) (Tot.ite (λ _=>?_) λ _=>Tot.pure (hfin _ (Nat.zero_le _))))
   exact Tot.bind (RN (k:=4) hx.l hx.p (by omega) (by omega) ha ha2) λ P hP=>Tot.pure (hfin P hP)
end Go.AI
end
section
namespace Go.AI
variable {α ε σ ρ ζ β:Type}
theorem Le.dem {S:α->Prop} {k k':α->Option ζ} (h:∀ a,Le (k a) (k' a)):Le (dem S k) (dem S k'):=by
 intro z hz
 have h1:=JaU hz
 have h0:∃ a,S a:=by
  unfold Go.AI.dem at hz
  split at hz
  ·rename_i hx;exact hx.choose_spec.1
  ·cases hz
 exact JaV h0 λ a ha=>h a _ (h1 a ha)
theorem Le.sortC {c c':β->β->Option Int} (h:∀ x y,Le (c x y) (c' x y)) {xs:List β}:Le (sortC c xs) (sortC c' xs):=by
 intro z hz
 obtain ⟨hc,hz⟩:=Q2 hz
 have e:c'=c:=by
  funext x y
  have:=hc.tot x y
  rw [Option.isSome_iff_exists] at this
  obtain ⟨n,hn⟩:=this
  rw [hn,h x y _ hn]
 rw [e]
 unfold Go.AI.sortC
 rw [if_pos hc];exact hz
end Go.AI
end
section
namespace Go.AI
theorem lr {α:Type} {x:Option α}:Le x x:=Le.refl x
theorem BY {n m} (_:n<=m):Le (Bj n) (Bj m):=lr
theorem FS {n m} (h:n<=m) (a b):Le (Cm n a b) (Cm m a b):=.ite (.ite lr (BY h)) (.ite (.ite lr (BY h)) (.ite (.ite lr (BY h)) (BY h)))
theorem BZ {n m} (h:n<=m) (a b):Le (Bk n a b) (Bk m a b):=.ite (.ite lr (BY h)) (.ite (FS h _ _) (.ite (FS h _ _) (FS h _ _)))
theorem Jl {n m} (h:n<=m) (a):Le (Cf n a) (Cf m a):=.ite (.ite lr (BY h)) (.ite (.ite lr (BY h)) (.ite (BZ h _ _) (.ite (BZ h _ _) (.ite (BZ h _ _) (.ite (BZ h _ _) (.ite (BZ h _ _) (.ite (BZ h _ _) (BZ h _ _))))))))
theorem Sx {n m} (h:n<=m) (a b c):Le (GK n a b c) (GK m a b c):=.ite (.bind (Le.ite (lr) (lr)) λ _=>.bind (Le.ite (Jl h _) (lr)) λ _=>.ite lr (.bind lr λ _=>.bind (Jl h _) λ _=>lr)) lr
theorem Xe {n m} (h:n<=m) (a b):Le (K6 n a b) (K6 m a b):=.bind (Le.whl (λ _=>Sx h _ _ _) h _) λ y49=>by rcases y49 with _|_;exact lr;exact lr
theorem MF {n m} (h:n<=m) (a b c d e):Le (Cg n a b c d e) (Cg m a b c d e):=.bind lr λ _=>.bind (Jl h _) λ _=>.ite (.bind lr λ _=>.bind (Xe h _ _) λ _=>lr) lr
theorem PS {n m} (h:n<=m) (a b):Le (Dh n a b) (Dh m a b):=.bind (Le.whl (λ _=>MF h _ _ _ _ _) h _) λ _=>lr
theorem PT {n m} (_:n<=m) {r r':((List Al)->Int->Option Int)} (hrec101_:∀ a0 a1,Le (r a0 a1) (r' a0 a1)) (a b c d):Le (CJ n r a b c d) (CJ m r' a b c d):=.ite (.bind lr λ _=>.bind (hrec101_ _ _) λ _=>lr) lr
theorem RO {n m} (h:n<=m) {r r':((List Al)->Int->Option Int)} (hrec101_:∀ a0 a1,Le (r a0 a1) (r' a0 a1)) (a b):Le (BE n r a b) (BE m r' a b):=.bind (PS h _ _) λ _=>.bind (Le.whl (λ _=>PT h hrec101_ _ _ _ _) h _) λ _=>lr
theorem Pp {n m} (_:n<=m) (a):Le (Ih n a) (Ih m a):=lr
theorem VT {n m} (h:n<=m) (a b):Le (GL n a b) (GL m a b):=.bind (Pp h _) λ _=>.bind (Pp h _) λ _=>lr
theorem F6 {n m} (_:n<=m) (a b):Le (Cy n a b) (Cy m a b):=lr
theorem LB {n m} (h:n<=m) (a b c d e):Le (B5 n a b c d e) (B5 m a b c d e):=.ite (.bind lr λ _=>.bind lr λ _=>.bind (VT h _ _) λ _=>.ite (F6 h _ _) (F6 h _ _)) lr
theorem LC {n m} (h:n<=m) (a b c d):Le (B6 n a b c d) (B6 m a b c d):=.ite (.bind (Le.whl (λ _=>LB h _ _ _ _ _) h _) λ _=>lr) lr
theorem OK {n m} (h:n<=m) (a b):Le (BB n a b) (BB m a b):=.bind (Le.whl (λ _=>LC h _ _ _ _) h _) λ _=>lr
theorem Sy {n m} (_:n<=m) (a):Le (E9 n a) (E9 m a):=.bind lr λ _=>lr
theorem HL {n m} (_:n<=m) (a b):Le (C8 n a b) (C8 m a b):=lr
theorem NE {n m} (h:n<=m) (a b c d e):Le (Cz n a b c d e) (Cz m a b c d e):=.ite (.bind lr λ _=>.bind lr λ _=>.ite (.bind lr λ _=>HL h _ _) (HL h _ _)) lr
theorem NF {n m} (h:n<=m) (a b c d):Le (CA n a b c d) (CA m a b c d):=.ite (.bind (Le.whl (λ _=>NE h _ _ _ _ _) h _) λ _=>lr) lr
theorem KP {n m} (h:n<=m) (a b):Le (Cn n a b) (Cn m a b):=.bind (Sy h _) λ _=>.bind (Le.whl (λ _=>NF h _ _ _ _) h _) λ _=>lr
theorem F7 {n m} (_:n<=m) (a):Le (CB n a) (CB m a):=lr
theorem LD {n m} (h:n<=m) (a b c d e f):Le (B7 n a b c d e f) (B7 m a b c d e f):=.ite (.bind (Le.ite (lr) (lr)) λ _=>.bind (Le.ite (lr) (lr)) λ _=>.bind (Le.ite (KP h _ _) (lr)) λ _=>.bind (Le.ite (lr) (lr)) λ _=>.bind (Le.ite (KP h _ _) (lr)) λ _=>.bind (Le.ite (OK h _ _) (lr)) λ _=>lr) lr
theorem LE {n m} (h:n<=m) {r r':(Af->(List Aa)->(List (List Aa))->Option (List Aa))} (hrec98k1_:∀ a0 a1 a2,Le (r a0 a1 a2) (r' a0 a1 a2)) (a b c d):Le (BL n r a b c d) (BL m r' a b c d):=.bind lr λ _=>.ite (.bind (Le.whl (λ _=>LD h _ _ _ _ _ _) h _) λ _=>.ite (F7 h _) (.bind lr λ _=>.bind lr λ _=>.bind lr λ _=>.bind lr λ _=>.bind (hrec98k1_ _ _ _) λ _=>.ite lr (F7 h _))) lr
theorem MG {n m} (h:n<=m) {r r':(Af->(List Aa)->(List (List Aa))->Option (List Aa))} (hrec98k1_:∀ a0 a1 a2,Le (r a0 a1 a2) (r' a0 a1 a2)) (a b c):Le (A5 n r a b c) (A5 m r' a b c):=.ite lr (.bind (Le.whl (λ _=>LE h hrec98k1_ _ _ _ _) h _) λ y120=>by rcases y120 with _|_;exact lr;exact lr)
end Go.AI
end
section
namespace Go.AI
def DS (x:Al):Int:=(Cf 0 x).getD 0
theorem ar3 (x:Al) (b:Bool):∃ a,Cm 0 x b=some a/\-1<=a/\a<=16:=by
 unfold Cm Bj
 split
 ·split
  ·exact ⟨1,rfl,by decide⟩
  ·exact ⟨-1,rfl,by decide⟩
 ·split
  ·split
   ·rename_i h
    rw [JlZ,decide_eq_true_eq,decide_eq_true_eq] at h
    refine ⟨_,rfl,?_⟩
    rw [EG (by omega) (by omega)];omega
   ·exact ⟨-1,rfl,by decide⟩
  ·split
   ·split
    ·rename_i h
     simp only [JlZ,decide_eq_true_eq] at h
     obtain ⟨⟨⟨⟨h0,h1⟩,h2⟩,h3⟩,h4⟩:=h
     refine ⟨_,rfl,?_⟩
     generalize Du .i64 x.N 8=q at *
     generalize Ak x.N 8=r at *
     have hq:q=1\/q=2\/q=3\/q=4:=by omega
     have hr:r=1\/r=2\/r=3\/r=4:=by omega
     rcases hq with rfl|rfl|rfl|rfl<;>rcases hr with rfl|rfl|rfl|rfl<;>decide
    ·exact ⟨-1,rfl,by decide⟩
   ·exact ⟨-1,rfl,by decide⟩
theorem ar2 (x:Al) (b:Bool):∃ a,Bk 0 x b=some a/\(-1<=a/\a<=16)/\(b=true->a=-1\/a=2):=by
 unfold Bk Bj
 split
 ·split
  ·exact ⟨2,rfl,by decide,λ _=>.inr rfl⟩
  ·exact ⟨-1,rfl,by decide,λ _=>.inl rfl⟩
 ·rename_i h
  split
  ·obtain ⟨a,h1,h2⟩:=ar3 x (x.Op==9);exact ⟨a,h1,h2,λ hb=>absurd hb h⟩
  ·split
   ·obtain ⟨a,h1,h2⟩:=ar3 x (x.Op==10);exact ⟨a,h1,h2,λ hb=>absurd hb h⟩
   ·obtain ⟨a,h1,h2⟩:=ar3 x (x.Op==11);exact ⟨a,h1,h2,λ hb=>absurd hb h⟩
theorem ar1 (x:Al):∃ a,Cf 0 x=some a/\(-1<=a/\a<=16)/\((x.Op=2\/x.Op=3\/x.Op=4\/x.Op=5)->a=-1\/a=2):=by
 have step:∀ k:Int,x.Op≠0->x.Op≠1->(x.Op=k\/¬(x.Op=2\/x.Op=3\/x.Op=4\/x.Op=5))->∃ a,Bk 0 x (x.Op==k)=some a/\(-1<=a/\a<=16)/\((x.Op=2\/x.Op=3\/x.Op=4\/x.Op=5)->a=-1\/a=2):=λ k _ _ hk=>by
  obtain ⟨a,h1,h2,h3⟩:=ar2 x (x.Op==k)
  refine ⟨a,h1,h2,λ h=>?_⟩
  rcases hk with hk|hk
  ·exact h3 (by simpa using hk)
  ·exact absurd h hk
 unfold Cf Bj
 by_cases h0:x.Op=0
 ·rw [if_pos (by simpa using h0)]
  split
  ·exact ⟨0,rfl,by decide,λ h=>by omega⟩
  ·exact ⟨-1,rfl,by decide,λ _=>.inl rfl⟩
 ·rw [if_neg (by simpa using h0)]
  by_cases h1:x.Op=1
  ·rw [if_pos (by simpa using h1)]
   split
   ·exact ⟨0,rfl,by decide,λ h=>by omega⟩
   ·exact ⟨-1,rfl,by decide,λ _=>.inl rfl⟩
  ·rw [if_neg (by simpa using h1)]
   by_cases h2:x.Op=2
   ·rw [if_pos (by simpa using h2)];exact step 2 h0 h1 (.inl h2)
   ·rw [if_neg (by simpa using h2)]
    by_cases h3:x.Op=3
    ·rw [if_pos (by simpa using h3)];exact step 3 h0 h1 (.inl h3)
    ·rw [if_neg (by simpa using h3)]
     by_cases h4:x.Op=4
     ·rw [if_pos (by simpa using h4)];exact step 4 h0 h1 (.inl h4)
     ·rw [if_neg (by simpa using h4)]
      by_cases h5:x.Op=5
      ·rw [if_pos (by simpa using h5)];exact step 5 h0 h1 (.inl h5)
      ·rw [if_neg (by simpa using h5)]
       have hn:¬(x.Op=2\/x.Op=3\/x.Op=4\/x.Op=5):=by omega
       split
       ·exact step 6 h0 h1 (.inr hn)
       ·split
        ·exact step 7 h0 h1 (.inr hn)
        ·exact step 8 h0 h1 (.inr hn)
theorem X4 (n:Nat) (x:Al):Cf n x=some (DS x):=by
 obtain ⟨a,h1,_⟩:=ar1 x
 have e:Cf n x=Cf 0 x:=rfl
 unfold DS
 rw [e,h1];rfl
theorem X5 (x:Al):-1<=DS x/\DS x<=16:=by
 obtain ⟨a,h1,h2,_⟩:=ar1 x
 unfold DS
 rw [h1];exact h2
theorem Ji4 {x:Al} (h:x.Op=2\/x.Op=3\/x.Op=4\/x.Op=5) (h0:0<=DS x):DS x=2:=by
 obtain ⟨a,h1,_,h3⟩:=ar1 x
 unfold DS at h0 ⊢
 rw [h1] at h0 ⊢
 rcases h3 h with rfl|rfl
 ·exact absurd h0 (by decide)
 ·rfl
def enS:Nat->List Al->Option Nat
 | 0,_=>some 0
 | _+1,[]=>none
 | o+1,x::l=>if DS x<0 then none else (enS (o+(DS x).toNat) l).map (·+1)
theorem Ld (o:Nat) (x:Al) (l:List Al):enS (o+1) (x::l)=if DS x<0 then none else (enS (o+(DS x).toNat) l).map (·+1):=rfl
theorem NG (l:List Al):enS 0 l=some 0:=by cases l<;>rfl
theorem JkD {o:Nat} {l:List Al} {k:Nat} (h:enS o l=some k):k<=l.length:=by
 induction l generalizing o k with
 | nil=>
  cases o with
  | zero=>rw [NG] at h;cases h;exact JlP _
  | succ o=>cases h
 | cons x l ih=>
  cases o with
  | zero=>rw [NG] at h;cases h;exact Nat.zero_le _
  | succ o=>
   rw [Ld] at h
   split at h
   ·cases h
   ·rw [Jl1] at h
    obtain ⟨j,hj,rfl⟩:=h
    have:=ih hj
    simp only [List.length_cons];omega
theorem VU {a b:Nat} {l:List Al} {k:Nat} (h:enS (a+b) l=some k):∃ j,enS a l=some j/\(j<=k/\(0<a->0<j))/\enS b (l.drop j)=some (k-j):=by
 induction l generalizing a b k with
 | nil=>
  cases a with
  | zero=>exact ⟨0,rfl,⟨Nat.zero_le _,λ h=>h⟩,by simpa using h⟩
  | succ a=>rw [Nat.succ_add] at h;cases h
 | cons x l ih=>
  cases a with
  | zero=>exact ⟨0,NG _,⟨Nat.zero_le _,λ h=>h⟩,by simpa using h⟩
  | succ a=>
   rw [Nat.succ_add,Ld] at h
   split at h
   ·cases h
   ·rename_i hx
    rw [Jl1] at h
    obtain ⟨m,hm,rfl⟩:=h
    rw [show a+b+(DS x).toNat=(a+(DS x).toNat)+b by omega] at hm
    obtain ⟨j,h1,h2,h3⟩:=ih hm
    refine ⟨j+1,?_,⟨by omega,λ _=>by omega⟩,?_⟩
    ·rw [Ld,if_neg hx,h1];rfl
    ·rw [List.drop_succ_cons,h3];congr 1;omega
theorem NH {f:List Al} {i:Nat} (h:i<f.length):idx f (i:Int)=some (f.getD i default):=Da h
theorem JbN {f:List Al} (hf:f.length<=1000000) {i:Nat} (hi:i<=f.length):Ev (λ n=>K6 n f (i:Int)) (match enS 1 (f.drop i) with|some k=>((i+k:Nat):Int)|none=>-1):=by
 refine Tot.ev (Tot.bind (R:=λ y=>(match y with | .inl a=>a | .inr a=>a)=(match enS 1 (f.drop i) with|some k=>((i+k:Nat):Int)|none=>-1)) ?_ λ y hy=>by
  cases y with
  | inl a=>exact Tot.pure hy
  | inr a=>exact Tot.pure hy)
 refine Tot.whl (λ q (x:Int×Int)=>∃ j o:Nat,(x.1=(j:Int)/\x.2=(o:Int))/\(j<=f.length/\q=f.length-j)/\o<=1+16*j/\(match enS o (f.drop j) with|some k=>((j+k:Nat):Int)|none=>-1)=(match enS 1 (f.drop i) with|some k=>((i+k:Nat):Int)|none=>-1)) ?_ (f.length-i) _ ⟨i,1,⟨rfl,rfl⟩,⟨hi,rfl⟩,by omega,rfl⟩
 rintro q ⟨a,b⟩ ⟨j,o,⟨h1,h2⟩,⟨h3,rfl⟩,h4,h5⟩
 simp only at h1 h2
 subst h1 h2
 unfold GK
 cases o with
 | zero=>
  refine Tot.iteF rfl (Tot.pure ?_)
  rw [NG] at h5
  exact h5
 | succ o=>
  refine Tot.iteT (decide_eq_true (by omega)) ?_
  have e1:decide ((j:Int)<0)=false:=decide_eq_false (by omega)
  rcases JlQ j f.length with hj|hj
  ·have e2:decide ((j:Int)>=((f.length:Nat):Int))=false:=decide_eq_false (by omega)
   rw [e1,e2]
   have hb:=X5 (f.getD j default)
   refine Tot.gE rfl (Ev.all λ n=>NH hj) (Tot.gE rfl (Ev.all λ n=>X4 n _) ?_)
   rw [List.drop_eq_getElem_cons hj,Ld,← BT (d:=default) hj] at h5
   refine Tot.ite (λ h=>Tot.pure ?_) λ h=>?_
   ·have h:DS (f.getD j default)<0:=by simpa using h
    rw [if_pos h] at h5
    exact h5
   ·have h:0<=DS (f.getD j default):=by simpa using h
    rw [if_neg (by omega)] at h5
    refine Tot.bindC (NH hj) (Tot.bindA (λ n=>X4 n _) (Tot.pure ⟨f.length-(j+1),by omega,j+1,o+(DS (f.getD j default)).toNat,⟨Aq (by omega),?_⟩,⟨by omega,rfl⟩,by omega,?_⟩))
    ·show Aj .i64 ((o+1:Nat):Int) (AT .i64 (DS (f.getD j default)) 1)=_
     rw [CC (by omega) (by omega),EG (by omega) (by omega)];omega
    ·rw [← h5]
     cases enS (o+(DS (f.getD j default)).toNat) (f.drop (j+1)) with
     | none=>rfl
     | some k=>simp only [Option.map_some];congr 1;omega
  ·have e2:decide ((j:Int)>=((f.length:Nat):Int))=true:=decide_eq_true (by omega)
   rw [e1,e2]
   refine Tot.gF rfl (Tot.gF rfl (Tot.iteT rfl (Tot.pure ?_)))
   rw [List.drop_of_length_le hj] at h5
   exact h5
theorem X6 {f:List Al} (h:enS 1 f=some f.length):∀ i,i<f.length->∃ o,enS (o+1) (f.drop i)=some (f.length-i)
 | 0,_=>⟨0,by simpa using h⟩
 | i+1,hi=>by
  obtain ⟨o,ho⟩:=X6 h i (by omega)
  rw [List.drop_eq_getElem_cons (by omega),Ld] at ho
  split at ho
  ·cases ho
  ·rw [Jl1] at ho
   obtain ⟨m,hm,he⟩:=ho
   generalize ho':o+(DS f[i]).toNat=o' at hm
   cases o' with
   | zero=>rw [NG] at hm;cases hm;omega
   | succ o'=>exact ⟨o',by rw [hm];congr 1;omega⟩
theorem X7 {f:List Al} (h:enS 1 f=some f.length) {i:Nat} (hi:i<f.length):0<=DS (f.getD i default)/\∃ k,enS (DS (f.getD i default)).toNat (f.drop (i+1))=some k:=by
 obtain ⟨o,ho⟩:=X6 h i hi
 rw [List.drop_eq_getElem_cons hi,Ld,← BT (d:=default) hi] at ho
 split at ho
 ·cases ho
 ·rw [Jl1] at ho
  obtain ⟨m,hm,_⟩:=ho
  rw [Nat.add_comm] at hm
  obtain ⟨j,hj,_⟩:=VU hm
  exact ⟨by omega,j,hj⟩
theorem JbO {f:List Al} (hf:f.length<=1000000) (h:enS 1 f=some f.length) {i:Nat} (hi:i<f.length):Tot (λ n=>Dh n f (i:Int)) (λ l=>(l.length:Int)=DS (f.getD i default)/\∀ v∈l,∃ j:Nat,v=(j:Int)/\i<j/\j<f.length):=by
 obtain ⟨h0,k0,hk0⟩:=X7 h hi
 have hb:=X5 (f.getD i default)
 refine Tot.bind (R:=λ l=>(l.length:Int)=DS (f.getD i default)/\∀ v∈l,∃ j:Nat,v=(j:Int)/\i<j/\j<f.length) ?_ λ l hl=>Tot.pure hl
 refine Tot.upto (DS (f.getD i default)).toNat (λ m (x:List Int×Int×Int)=>(x.2.2=(m:Int)/\x.1.length=m)/\(∀ v∈x.1,∃ j:Nat,v=(j:Int)/\i<j/\j<f.length)/\∃ j k:Nat,x.2.1=(j:Int)/\(i<j/\j<=f.length)/\enS ((DS (f.getD i default)).toNat-m) (f.drop j)=some k) ?_ ?_ _ ⟨⟨rfl,rfl⟩,by simp,i+1,k0,Aq (by omega),by omega,hk0⟩
 ·rintro m ⟨l,a,b⟩ hm ⟨⟨h1,h2⟩,h3,j,k,h4,h5,h6⟩
  simp only at h1 h2 h3 h4
  subst h1 h4
  unfold Cg
  have hs:(DS (f.getD i default)).toNat-m=1+((DS (f.getD i default)).toNat-(m+1)):=by omega
  rw [hs] at h6
  obtain ⟨q,q1,q2,q3⟩:=VU h6
  have hlt:j<f.length:=by
   rcases JlQ j f.length with h|h
   ·exact h
   ·rw [List.drop_of_length_le h] at q1;cases q1
  have hle:=JkD q1
  rw [List.length_drop] at hle
  have he:=JbN hf (i:=j) (by omega)
  rw [q1] at he
  refine Tot.bindC (NH hi) (Tot.bindA (λ n=>X4 n _) (Tot.iteT (decide_eq_true (show (m:Int)<DS (f.getD i default) by omega)) (Tot.bindC (Bf (by simp;omega)) (Tot.bindE he (Tot.pure ⟨⟨Aq (by omega),by simp;exact h2⟩,λ v hv=>?_,j+q,k-q,rfl,by omega,?_⟩)))))
  ·rw [List.mem_append,List.mem_singleton] at hv
   rcases hv with hv|rfl
   ·exact h3 v hv
   ·exact ⟨j,rfl,h5.1,hlt⟩
  ·rw [← List.drop_drop];exact q3
 ·rintro ⟨l,a,b⟩ ⟨⟨h1,h2⟩,h3,j,k,h4,h5,h6⟩
  simp only at h1 h2 h3 h4
  subst h1 h4
  unfold Cg
  refine Tot.bindC (NH hi) (Tot.bindA (λ n=>X4 n _) (Tot.iteF (decide_eq_false (show ¬(((DS (f.getD i default)).toNat:Nat):Int)<DS (f.getD i default) by omega)) (Tot.pure ⟨by show (l.length:Int)=_;omega,h3⟩)))
theorem Ue (p:Int):Tot (λ n=>Cw n p) (λ _=>True):=by
 unfold Cw CY
 refine Tot.ite (λ _=>Tot.pure trivial) λ _=>Tot.ite (λ _=>Tot.ite (λ _=>Tot.pure trivial) λ _=>Tot.ite (λ _=>Tot.pure trivial) λ _=>Tot.pure trivial) λ _=>Tot.ite (λ _=>Tot.pure trivial) λ _=>Tot.ite (λ _=>Tot.pure trivial) λ _=>Tot.pure trivial
theorem JbP {f:List Al} (hf:f.length<=1000000) (h:enS 1 f=some f.length) {i:Nat} (hi:i<f.length):Tot (λ n=>N3 n f (i:Int)) (λ _=>True):=by
 refine Tot.bind (JbO hf h hi) λ l hl=>Tot.bindC (NH hi) ?_
 have h0:=(X7 h hi).1
 generalize hx:f.getD i default=x at *
 have gd:∀ k:Nat,k<l.length->∃ j:Nat,idx l (k:Int)=some (j:Int)/\j<f.length:=λ k hk=>by
  obtain ⟨j,h1,h2,h3⟩:=hl.2 _ (JlN hk)
  exact ⟨j,by rw [AF hk,h1],h3⟩
 have key:∀ b:Bool,(b=true->x.Op=2\/x.Op=3\/x.Op=4\/x.Op=5)->Tot (λ n=>CI n f (i:Int) l x b) (λ _=>True):=λ b hb=>by
  unfold CI Gg
  refine Tot.ite (λ h1=>?_) λ _=>Tot.ite (λ h1=>?_) λ _=>Tot.pure trivial
  ·have ha:=Ji4 (hb h1) h0
   have hll:l.length=2:=by omega
   obtain ⟨j0,g0,g0'⟩:=gd 0 (by omega)
   obtain ⟨j1,g1,g1'⟩:=gd 1 (by omega)
   refine Tot.bindC (NH hi) (Tot.bind (Ue _) λ r72 _=>Tot.bindC g0 (Tot.bindC (NH g0') (Tot.bind (Ue _) λ r73 _=>?_)))
   cases hd:decide (r73>=r72) with
   | false=>exact Tot.gF rfl (Tot.gF rfl (Tot.gF rfl (Tot.pure trivial)))
   | true=>exact Tot.gE rfl (Ev.all λ n=>g1) (Tot.gE rfl (Ev.all λ n=>NH g1') (Tot.guard (R:=λ _=>True) (λ _=>Ue _) λ _ _=>Tot.pure trivial))
  ·refine Tot.bind (R:=λ _=>True) ?_ λ y _=>by
    cases y with
    | inl _=>exact Tot.pure trivial
    | inr _=>exact Tot.pure trivial
   refine Tot.upto l.length (λ k (x:Int)=>x=(k:Int)) (λ k x hk hx=>?_) (λ x hx=>?_) _ rfl
   ·subst hx
    unfold Gh
    obtain ⟨j,g,g'⟩:=gd k hk
    refine Tot.iteT (decide_eq_true (by omega)) (Tot.bindC g (Tot.bindC (NH g') (Tot.ite (λ _=>Tot.pure trivial) λ _=>Tot.pure (Aq ?_))))
    have:=X5 x
    omega
   ·subst hx
    unfold Gh
    exact Tot.iteF (decide_eq_false (by omega)) (Tot.pure trivial)
 refine Tot.ite (λ h1=>key _ λ _=>?_) λ _=>Tot.ite (λ h1=>key _ λ _=>?_) λ _=>Tot.ite (λ h1=>key _ λ _=>?_) λ _=>key _ λ h1=>?_
 ·left;simpa using h1
 ·right;left;simpa using h1
 ·right;right;left;simpa using h1
 ·right;right;right;simpa using h1
theorem JbQ {f:List Al}:Tot (λ n=>Nc n f) (λ b=>b=true->f.length<=200/\(0<f.length/\enS 1 f=some f.length)):=by
 unfold Nc
 by_cases h0:f.length=0\/200<f.length
 ·have e:((((f.length:Nat):Int)==0)||(decide (((f.length:Nat):Int)>200)))=true:=by
   rw [Jmg,beq_iff_eq,decide_eq_true_eq];omega
  rw [e]
  exact Tot.gF rfl (Tot.iteT rfl (Tot.pure λ h=>by cases h))
 ·have e:((((f.length:Nat):Int)==0)||(decide (((f.length:Nat):Int)>200)))=false:=by
   rw [JlX,beq_eq_false_iff_ne,decide_eq_false_iff_not];omega
  rw [e]
  refine Tot.gE rfl (JbN (f:=f) (i:=0) (by omega) (by omega)) (Tot.ite (λ _=>Tot.pure λ h=>by cases h) λ hb=>?_)
  rw [List.drop_zero,Bool.false_or,bne_eq_false_iff_eq] at hb
  have ht:enS 1 f=some f.length:=by
   cases he:enS 1 f with
   | none=>rw [he] at hb;simp only at hb;omega
   | some k=>rw [he] at hb;simp only at hb;congr 1;omega
  refine Tot.bind (R:=λ _=>True) ?_ λ y _=>by
   cases y with
   | inl _=>exact Tot.pure λ _=>⟨by omega,by omega,ht⟩
   | inr _=>exact Tot.pure λ _=>⟨by omega,by omega,ht⟩
  refine Tot.upto f.length (λ k (x:Int)=>x=(k:Int)) (λ k x hk hx=>?_) (λ x hx=>?_) _ rfl
  ·subst hx
   unfold Hr
   exact Tot.iteT (decide_eq_true (by omega)) (Tot.bind (JbP (by omega) ht hk) λ b _=>Tot.ite (λ _=>Tot.pure trivial) λ _=>Tot.pure (Aq (by omega)))
  ·subst hx
   unfold Hr
   exact Tot.iteF (decide_eq_false (by omega)) (Tot.pure trivial)
theorem JeJ {f:List Al} (hf:f.length<=200) (h:enS 1 f=some f.length):∀ (d i:Nat),i<f.length->f.length-i<=d->Tot (λ n=>JP (λ _ _=>none) (BE n) d f (i:Int)) (λ _=>True):=by
 intro d
 induction d with
 | zero=>intro i hi hd;omega
 | succ d ih=>
  intro i hi hd
  show Tot (λ n=>BE n (JP (λ _ _=>none) (BE n) d) f (i:Int)) _
  unfold BE
  refine Tot.bind (JbO (by omega) h hi) λ l hl=>Tot.bind (R:=λ _=>True) ?_ λ _ _=>Tot.pure trivial
  have hb:=X5 (f.getD i default)
  refine Tot.upto (body:=λ n (x:Int×Int)=>CJ n (JP (λ _ _=>none) (BE n) d) f l x.1 x.2) l.length (λ k (x:Int×Int)=>x.2=(k:Int)) ?_ ?_ _ rfl
  ·rintro k ⟨a,b⟩ hk hx
   simp only at hx
   subst hx
   obtain ⟨j,h1,h2,h3⟩:=hl.2 _ (JlN hk)
   unfold CJ
   refine Tot.iteT (decide_eq_true (by omega)) (Tot.bindC (AF hk) ?_)
   rw [h1]
   exact Tot.bind (ih j h3 (by omega)) λ r _=>Tot.pure (Aq (by omega))
  ·rintro ⟨a,b⟩ hx
   simp only at hx
   subst hx
   unfold CJ
   exact Tot.iteF (decide_eq_false (by omega)) (Tot.pure trivial)
theorem JbR (n:Nat):∀ (x y:Nat),x<=y->∀ a b,Le (JP (λ _ _=>none) (BE n) x a b) (JP (λ _ _=>none) (BE n) y a b):=by
 intro x
 induction x with
 | zero=>intro y _ _ _ z hz;cases hz
 | succ x ih=>
  intro y hy _ _
  cases y with
  | zero=>omega
  | succ y=>exact RO (JlP n) (ih y (by omega)) _ _
theorem S6 (f:List Al):Tot (λ n=>E3 n f) (λ _=>True):=by
 unfold E3
 refine Tot.guard (R:=λ b=>b=true->f.length<=200/\(0<f.length/\enS 1 f=some f.length)) (λ _=>JbQ) λ b hb=>?_
 refine Tot.guard (R:=λ _=>True) (λ hc=>?_) λ _ _=>Tot.pure trivial
 rw [JlZ] at hc
 obtain ⟨h1,h2,h3⟩:=hb hc.1 hc.2
 obtain ⟨z,hz,N,hN⟩:=JeJ h1 h3 f.length 0 h2 (by omega)
 have hd:Tot (λ n=>N4 n f ((0:Nat):Int)) (λ _=>True):=⟨z,hz,max N f.length,λ m hm=>JbR m f.length m (by omega) _ _ _ (hN m (by omega))⟩
 exact Tot.bind hd λ _ _=>Tot.pure trivial
end Go.AI
end
