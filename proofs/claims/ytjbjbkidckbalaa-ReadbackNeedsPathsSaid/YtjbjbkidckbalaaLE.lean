/- Part 5 of 6 of the proof: lemmas about the model and the program's functions, with no condition beyond those that each states. -/
import Derived.Test.YtjbjbkidckbalaaLD
import Derived.ChangeArms
import Derived.WalkKit
import Derived.ProofKit
import Derived.OpenShut
import Derived.Carry
import Derived.WideKeyArgs
import Derived.ChangeSame
import Derived.KernelRfl
section
namespace Go.AI
open Go.Proofs
set_option maxRecDepth 10000
variable {n:Nat}
section
variable (b2_:Ae) (b4_:Ae) (b5_1_:(List Int)) (b6_:Am) (o7_:(List (Ae×Bool))) (j_1:Nat) (x_25:(List (Ae×Bool))) (x38:(List J8)) (x_26:(List (Ae×Bool))) (x_27:Int) (x_28:(List (Ae×Bool))) (x_29:(List (Ae×Bool)))
noncomputable def Z2:St:=⟨(0,.yld 0)::(1,.ptr 1 0)::(2,.ptr 2 0)::[],[some (.lp Ah [6,12] [.ptr 3 0,.ptr 4 0] 0),some (.box [.ptr 5 0]),some (.box [.d (.int .i64 b2_.At),.d (.int .i64 b2_.State)]),some (.box [.ptr 5 0]),some (.box [.d (.int .i64 b4_.At),.d (.int .i64 b4_.State)]),some (.box [.ptr 6 0,.d (.sl (b5_1_.map eU8)),.mp 7]),some (.box (Ai b6_ (.osl 8 1 0 (b6_.Accepts.length)))),some (.map true false (AB An eB o7_)),some (.arr 1 (b6_.Accepts.map eB))]⟩
noncomputable def Qd:St:=⟨[],[some (.lp Ah [6,12] [.ptr 3 0,.ptr 4 0] j_1),some (.box [.ptr 5 0]),some (.box [.d (.int .i64 b2_.At),.d (.int .i64 b2_.State)]),some (.box [.ptr 5 0]),some (.box [.d (.int .i64 b4_.At),.d (.int .i64 b4_.State)]),some (.box [.ptr 6 0,.d (.sl (b5_1_.map eU8)),.mp 7]),some (.box (Ai b6_ (.osl 8 1 0 (b6_.Accepts.length)))),some (.map true false (AB An eB x_25)),some (.arr 1 (b6_.Accepts.map eB))]⟩
noncomputable def Z3:St:=⟨(0,.yld 0)::(1,.ptr 1 0)::(2,.ptr 2 0)::(16,.d (.sl (x38.map BH)))::(17,.d (.int .i64 ((x38.length:Nat):Int)))::(18,.d (.int .i64 x_27))::[],[some (.lp Ah [6,12] [.ptr 3 0,.ptr 4 0] 0),some (.box [.ptr 5 0]),some (.box [.d (.int .i64 b2_.At),.d (.int .i64 b2_.State)]),some (.box [.ptr 5 0]),some (.box [.d (.int .i64 b4_.At),.d (.int .i64 b4_.State)]),some (.box [.ptr 6 0,.d (.sl (b5_1_.map eU8)),.mp 7]),some (.box (Ai b6_ (.osl 8 1 0 (b6_.Accepts.length)))),some (.map true false (AB An eB x_26)),some (.arr 1 (b6_.Accepts.map eB))]⟩
noncomputable def Z4:St:=⟨[],[some (.lp Ah [6,12] [.ptr 3 0,.ptr 4 0] 0),some (.box [.ptr 5 0]),some (.box [.d (.int .i64 b2_.At),.d (.int .i64 b2_.State)]),some (.box [.ptr 5 0]),some (.box [.d (.int .i64 b4_.At),.d (.int .i64 b4_.State)]),some (.box [.ptr 6 0,.d (.sl (b5_1_.map eU8)),.mp 7]),some (.box (Ai b6_ (.osl 8 1 0 (b6_.Accepts.length)))),some (.map true false (AB An eB x_28)),some (.arr 1 (b6_.Accepts.map eB))]⟩
noncomputable def Z5:St:=⟨(0,.yld 0)::(1,.ptr 1 0)::(2,.ptr 2 0)::(16,.d (.sl (x38.map BH)))::(17,.d (.int .i64 ((x38.length:Nat):Int)))::(18,.d (.int .i64 x_27))::[],[some (.lp Ah [6,12] [.ptr 3 0,.ptr 4 0] 0),some (.box [.ptr 5 0]),some (.box [.d (.int .i64 b2_.At),.d (.int .i64 b2_.State)]),some (.box [.ptr 5 0]),some (.box [.d (.int .i64 b4_.At),.d (.int .i64 b4_.State)]),some (.box [.ptr 6 0,.d (.sl (b5_1_.map eU8)),.mp 7]),some (.box (Ai b6_ (.osl 8 1 0 (b6_.Accepts.length)))),some (.map true false (AB An eB x_29)),some (.arr 1 (b6_.Accepts.map eB))]⟩
noncomputable def II:((List (Ae×Bool))⊕(Nat×(List (Ae×Bool))))->Ex->St->Prop:=xS (xX 9 0 (λ (y:(List (Ae×Bool)))=>Z4 b2_ b4_ b5_1_ b6_ y)) (xL 9 ty Try.f85 (λ (y:(Nat×(List (Ae×Bool))))=>.tup []) (λ (y:(Nat×(List (Ae×Bool))))=>[some (.lp Ah [6,12] [.ptr 3 0,.ptr 4 0] y.1),some (.box [.ptr 5 0]),some (.box [.d (.int .i64 b2_.At),.d (.int .i64 b2_.State)]),some (.box [.ptr 5 0]),some (.box [.d (.int .i64 b4_.At),.d (.int .i64 b4_.State)]),some (.box [.ptr 6 0,.d (.sl (b5_1_.map eU8)),.mp 7]),some (.box (Ai b6_ (.osl 8 1 0 (b6_.Accepts.length)))),some (.map true false (AB An eB y.2)),some (.arr 1 (b6_.Accepts.map eB))]))
noncomputable def E8:((List (Ae×Bool))×Int)->St:=(λ (x:((List (Ae×Bool))×Int))=>Z3 b2_ b4_ b5_1_ b6_ x38 x.1 x.2)
variable {b2_ b4_ b5_1_ b6_ o7_ j_1 x_25 x38 x_26 x_27 x_28 x_29}
theorem Ez (x:((List (Ae×Bool))×Int)) (z:(((List (Ae×Bool))×Int)⊕((List (Ae×Bool))⊕(Nat×(List (Ae×Bool)))))) (H:Bj n b2_ b4_ b5_1_ b6_ x38 x.1 x.2=some z):WP (cxk 53 9) (AD Try.f85) [1,0,0] (AG 9 (E8 b2_ b4_ b5_1_ b6_ x38) (II b2_ b4_ b5_1_ b6_) z) (E8 b2_ b4_ b5_1_ b6_ x38 x):=by
 obtain ⟨x_26,x_27⟩:=x
 refine sr (ck 1 (en (sq (cn H (λ H=>?_) (λ H=>?_)))))
 ·refine sk (qz (sj (λ (x:(List (Ae×Bool)))=>Z5 b2_ b4_ b5_1_ b6_ x38 x_27 x) (λ (x:(List (Ae×Bool)))=>BG n x_27 x) z ?_ (λ hFRb_reading_fits_1_J1=>?_)))
  ·intro x_29 H
   exact rz (ck 2 (ae (by cases H;exact og (sg [0,1,2,16,17,18]))))
  refine bk 1 (sr (bx H λ x39 h117 H=>sp (AJ BH h117) (ck 3 (en (sq (rx 9 27 (.refl _) (ck 8 (bx H λ l21 h118 H=>sp (SM eU8 1 h118) (bx H λ r31 h119 H=>xs (xok _ _) (g:=true) rfl (Fd) [] ((H8 h119).lent rfl) rfl (ck 2 (sp (AC eU8 x39.Cells) (ck 4 (gc 1 (r31==((x39.Cells.length:Nat):Int)) (ck 1 (gc 1 (r31==((x39.Cells.length:Nat):Int)) (ck 1 (gc 1 (r31==((x39.Cells.length:Nat):Int)) (sE (g:=(r31==((x39.Cells.length:Nat):Int))) (λ hg=>AC eU8 x39.Cells) (gc 1 (r31==((x39.Cells.length:Nat):Int)) (ck 1 (gc 2 (r31==((x39.Cells.length:Nat):Int)) (mx (gsp (r31==((x39.Cells.length:Nat):Int)) H (λ hg H=>?_) (λ hg H=>?_))))))))))))))))))))))))
  ·refine bx H λ r32 h120 H=>xy (xok _ _) hg (CL (λ hh=>hh) (CL (λ hh=>hh) (CL (λ hh=>hh) (Fd)))) [0,3,4,5,6,7,8] (Lx h120) rfl (nx 30 29 (gc 1 (r31==((x39.Cells.length:Nat):Int)) (mx (pA (nz (qz (cnh H (λ hc59 H=>?_) (λ hc59 H=>?_))))))))
   ·exact re (qR (qr (by cases H;exact lo rfl (rl (s':=Qd b2_ b4_ b5_1_ b6_ r32.1 r32.2) (sg [])))))
   ·exact sk (qN (qs (tr (Uu 0 (jb1 hg hc59) (by kernel_rfl)) (sg [0,1,2,16,17,18])) (hFRb_reading_fits_1_J1 r32.2 H)))
  ·refine gsk hg (.d (.bool false)) (nx 30 29 (gc 1 (r31==((x39.Cells.length:Nat):Int)) (mx (pA (nz (qz (cn H (λ H=>?_) (λ H=>?_))))))))
   ·exact re (qR (qr (by cases H;exact lo rfl (rl (s':=Qd b2_ b4_ b5_1_ b6_ 0 x_26) (sg [])))))
   ·exact sk (qN (qs (sg [0,1,2,16,17,18]) (hFRb_reading_fits_1_J1 x_26 H)))
 ·exact ex 0 (qx (by cases H;exact xo rfl (sg [])))
theorem Kc {z} (H:Cb n b2_ b4_ b5_1_ b6_ o7_=some z):BT Try.prog 85 [.yld 0,.ptr 1 0,.ptr 2 0] [some (.lp Ah [6,12] [.ptr 3 0,.ptr 4 0] 0),some (.box [.ptr 5 0]),some (.box [.d (.int .i64 b2_.At),.d (.int .i64 b2_.State)]),some (.box [.ptr 5 0]),some (.box [.d (.int .i64 b4_.At),.d (.int .i64 b4_.State)]),some (.box [.ptr 6 0,.d (.sl (b5_1_.map eU8)),.mp 7]),some (.box (Ai b6_ (.osl 8 1 0 (b6_.Accepts.length)))),some (.map true false (AB An eB o7_)),some (.arr 1 (b6_.Accepts.map eB))] 9 (.tup []) [some (.lp Ah [6,12] [.ptr 3 0,.ptr 4 0] z.1),some (.box [.ptr 5 0]),some (.box [.d (.int .i64 b2_.At),.d (.int .i64 b2_.State)]),some (.box [.ptr 5 0]),some (.box [.d (.int .i64 b4_.At),.d (.int .i64 b4_.State)]),some (.box [.ptr 6 0,.d (.sl (b5_1_.map eU8)),.mp 7]),some (.box (Ai b6_ (.osl 8 1 0 (b6_.Accepts.length)))),some (.map true false (AB An eB z.2)),some (.arr 1 (b6_.Accepts.map eB))]:=by
 refine fL 53 9 (Z2 b2_ b4_ b5_1_ b6_ o7_) Try.func85 (sr (ck 9 (bx H λ x38 h116 H=>sp (AJ (eL BH) h116) (ck 1 (sp (AC BH x38) (ck 1 (en (bk 0 (bx H λ y35 h121 H=>?_)))))))))
 rcases y35 with y36|y37
 ·exact lX Ez h121 (sg [0,1,2,16,17,18]) rfl λ s hE29=>qH (by cases H;exact pL' (rl (s':=Qd b2_ b4_ b5_1_ b6_ 0 y36) (tr (hE29) (sg []))))
 ·exact lL Ez h121 (sg [0,1,2,16,17,18]) rfl λ s hE30=>qR (by cases H;exact pL hE30)
end
section
variable (p0_:AW) (least_1:Int) (x_30:Int) (least_2:Int) (least_3:Int)
def JeP:St:=⟨(0,.dptr (A5 p0_) 0)::[],[]⟩
def JeQ:St:=⟨(0,.dptr (A5 p0_) 0)::(3,.d (.int .i64 least_1))::(10,.d (.sl (p0_.Heads.map Ag)))::(11,.d (.int .i64 ((p0_.Heads.length:Nat):Int)))::(12,.d (.int .i64 x_30))::[],[]⟩
def JeR:St:=⟨(3,.d (.int .i64 least_2))::[],[]⟩
def JeS:St:=⟨(0,.dptr (A5 p0_) 0)::(3,.d (.int .i64 least_3))::(10,.d (.sl (p0_.Heads.map Ag)))::(11,.d (.int .i64 ((p0_.Heads.length:Nat):Int)))::(12,.d (.int .i64 x_30))::[],[]⟩
def Kd:Int->Ex->St->Prop:=xX 0 0 (λ (y:Int)=>JeR y)
def FB:(Int×Int)->St:=(λ (x:(Int×Int))=>JeQ p0_ x.1 x.2)
variable {p0_ least_1 x_30 least_2 least_3}
theorem Jr (x:(Int×Int)) (z:((Int×Int)⊕Int)) (H:BB n p0_ x.1 x.2=some z):WP (cxk 38 0) (AD Try.f76) [1,1,0,1,0,0] (AG 0 (FB p0_) (Kd) z) (FB p0_ x):=by
 obtain ⟨least_1,x_30⟩:=x
 refine sr (ck 1 (en (sq (cn H (λ H=>?_) (λ H=>?_)))))
 ·refine sk (qz (sj (λ (x:Int)=>JeS p0_ x_30 x) (λ (x:Int)=>B0 n x_30 x) z ?_ (λ hFRb_branch_least_J1=>?_)))
  ·intro least_3 H
   exact rz (ck 2 (ae (by cases H;exact og (sg [0,3,10,11,12]))))
  refine bk 1 (sr (bx H λ x40 h122 H=>sp (AJ Ag h122) (ck 3 (en (sr (ck 2 (bx H λ b5 h123 H=>sp (FY h123) (ck 2 (en (sr (ck 8 (gc 2 (decide (IntKind.i64.wrap b5>=p0_.Next)) (ck 2 (gc 1 ((decide (IntKind.i64.wrap b5>=p0_.Next))&&!(decide (least_1<0))) (pG (g:=decide (IntKind.i64.wrap b5>=p0_.Next)) (v:=.d (.bool ((decide (least_1<0))||(decide (IntKind.i64.wrap b5<least_1))))) (λ hg=>RZ (c:=.gv (decide (IntKind.i64.wrap b5>=p0_.Next)) (.d (.bool (decide (least_1<0))))) (a:=.d (.bool true)) (b:=.gv ((decide (IntKind.i64.wrap b5>=p0_.Next))&&!(decide (least_1<0))) (.d (.bool (decide (IntKind.i64.wrap b5<least_1))))) rfl rfl rfl ((λ hh=>hh) hg) trivial (λ ht=>by rw [(λ hh=>hh) hg,ht];rfl)) (pA (en (cn H (λ H=>?_) (λ H=>?_)))))))))))))))))))
  ·exact rz (ck 2 (ae (qN (qs (sg [0,3,10,11,12]) (hFRb_branch_least_J1 (IntKind.i64.wrap b5) H)))))
  ·exact sk (qN (qs (sg [0,3,10,11,12]) (hFRb_branch_least_J1 least_1 H)))
 ·exact ex 0 (qx (by cases H;exact xo rfl (sg [3])))
theorem GD {z} (H:Cc n p0_=some z):AN Try.prog 76 [.dptr (A5 p0_) 0] (.d (.int .i64 z)):=by
 exact fO 38 (JeP p0_) Try.func76 (sr (ck 1 (en (sr (ck 1 (en (sq (sr (ck 4 (sp (AC Ag p0_.Heads) (ck 1 (en (bk 0 (bx H λ y38 h124 H=>lX Jr h124 (sg [0,3,10,11,12]) rfl λ s hE31=>qH (qs (hE31) (sr (ck 2 (en (re (by cases H;exact pr rd))))))))))))))))))))
end
section
variable (p0_:Ab) (p1_:(List Int)) (x_32:Am) (x_33:(List (Ae×Bool))) (x_34:Int) (r33:Am) (r34:((List (Bool×(List Int)))×Int)) (reached_15:(List (Bool×(List Int)))) (r_1:(List (Ae×Bool))) (i_2:Int) (r_2:(List (Ae×Bool))) (x42:(Bool×(List Int))) (r_3:(List (Ae×Bool))) (x_35:Int) (r_4:(List (Ae×Bool))) (r_5:(List (Ae×Bool))) (x43:Int) (r_6:(List (Ae×Bool)))
def Z6:St:=⟨(0,.agg [.d (.int .i64 p0_.Modes),.d (.int .u8 p0_.Accept),.d (.sl (p0_.Rules.map Aq))])::(1,.d (.sl (p1_.map eU8)))::[],[]⟩
def Z7:St:=⟨(4,.ptr 0 0)::(5,.d (.int .i64 x_34))::[],[some (.box [.ptr 1 0,.d (.sl (p1_.map eU8)),.mp 2]),some (.box (Ai x_32 (.osl 3 1 0 (x_32.Accepts.length)))),some (.map true false (AB An eB x_33)),some (.arr 1 (x_32.Accepts.map eB))]⟩
def Z8:St:=⟨(1,.d (.sl (p1_.map eU8)))::(6,.ptr 0 0)::(7,.osl 1 1 0 (reached_15.length))::(8,.d (.int .i64 r34.2))::(9,.d (.int .i64 i_2))::[],[some (.box [.ptr 2 0]),some (.narr 1 (reached_15.map (eTg 1 Av))),some (.box [.ptr 3 0,.d (.sl (p1_.map eU8)),.mp 4]),some (.box (Ai r33 (.osl 5 1 0 (r33.Accepts.length)))),some (.map true false (AB An eB r_1)),some (.arr 1 (r33.Accepts.map eB))]⟩
def Z9:St:=⟨(6,.ptr 0 0)::(8,.d (.int .i64 r34.2))::[],[some (.box [.ptr 1 0]),some (.box [.ptr 2 0,.d (.sl (p1_.map eU8)),.mp 3]),some (.box (Ai r33 (.osl 4 1 0 (r33.Accepts.length)))),some (.map true false (AB An eB r_2)),some (.arr 1 (r33.Accepts.map eB))]⟩
def Jaa:St:=⟨(1,.d (.sl (p1_.map eU8)))::(6,.ptr 0 0)::(7,.osl 1 1 0 (List.length (List.set reached_15 i_2.toNat (true,x42.2))))::(8,.d (.int .i64 r34.2))::(9,.d (.int .i64 i_2))::(39,.d (.sl (x42.2.map Av)))::(40,.d (.int .i64 ((x42.2.length:Nat):Int)))::(41,.d (.int .i64 x_35))::[],[some (.box [.ptr 2 0]),some (.narr 1 (List.map (eTg 1 Av) (List.set reached_15 i_2.toNat (true,x42.2)))),some (.box [.ptr 3 0,.d (.sl (p1_.map eU8)),.mp 4]),some (.box (Ai r33 (.osl 5 1 0 (r33.Accepts.length)))),some (.map true false (AB An eB r_3)),some (.arr 1 (r33.Accepts.map eB))]⟩
def Jab:St:=⟨(1,.d (.sl (p1_.map eU8)))::(6,.ptr 0 0)::(7,.osl 1 1 0 (List.length (List.set reached_15 i_2.toNat (true,x42.2))))::(8,.d (.int .i64 r34.2))::(9,.d (.int .i64 i_2))::[],[some (.box [.ptr 2 0]),some (.narr 1 (List.map (eTg 1 Av) (List.set reached_15 i_2.toNat (true,x42.2)))),some (.box [.ptr 3 0,.d (.sl (p1_.map eU8)),.mp 4]),some (.box (Ai r33 (.osl 5 1 0 (r33.Accepts.length)))),some (.map true false (AB An eB r_4)),some (.arr 1 (r33.Accepts.map eB))]⟩
def Jac:St:=⟨(1,.d (.sl (p1_.map eU8)))::(6,.ptr 0 0)::(7,.osl 1 1 0 (List.length (List.set reached_15 i_2.toNat (true,x42.2))))::(8,.d (.int .i64 r34.2))::(9,.d (.int .i64 i_2))::(39,.d (.sl (x42.2.map Av)))::(40,.d (.int .i64 ((x42.2.length:Nat):Int)))::(41,.d (.int .i64 x_35))::[],[some (.box [.ptr 2 0]),some (.narr 1 (List.map (eTg 1 Av) (List.set reached_15 i_2.toNat (true,x42.2)))),some (.box [.ptr 3 0,.d (.sl (p1_.map eU8)),.mp 4]),some (.box (Ai r33 (.osl 5 1 0 (r33.Accepts.length)))),some (.map true false (AB An eB r_5)),some (.arr 1 (r33.Accepts.map eB))]⟩
def Jad:St:=⟨(1,.d (.sl (p1_.map eU8)))::(6,.ptr 0 0)::(7,.osl 1 1 0 (List.length (List.set reached_15 i_2.toNat (true,x42.2))))::(8,.d (.int .i64 r34.2))::(9,.d (.int .i64 i_2))::(12,.ptr 2 0)::(39,.d (.sl (x42.2.map Av)))::(40,.d (.int .i64 ((x42.2.length:Nat):Int)))::(41,.d (.int .i64 x_35))::[],[some (.box [.ptr 3 0]),some (.narr 1 (List.map (eTg 1 Av) (List.set reached_15 i_2.toNat (true,x42.2)))),some (.box [.d (.int .i64 i_2),.d (.int .i64 x43)]),some (.box [.ptr 4 0,.d (.sl (p1_.map eU8)),.mp 5]),some (.box (Ai r33 (.osl 6 1 0 (r33.Accepts.length)))),some (.map true false (AB An eB r_6)),some (.arr 1 (r33.Accepts.map eB))]⟩
def Ly:(List (Ae×Bool))->Ex->St->Prop:=xX 0 2 (λ (y:(List (Ae×Bool)))=>Jab p1_ r33 r34 reached_15 i_2 x42 y)
def GE:((List (Ae×Bool))×Int)->St:=(λ (x:((List (Ae×Bool))×Int))=>Jaa p1_ r33 r34 reached_15 i_2 x42 x.1 x.2)
def Lz:(List (Ae×Bool))->Ex->St->Prop:=xX 0 0 (λ (y:(List (Ae×Bool)))=>Z9 p1_ r33 r34 y)
def GG:((List (Bool×(List Int)))×(List (Ae×Bool))×Int)->St:=(λ (x:((List (Bool×(List Int)))×(List (Ae×Bool))×Int))=>Z8 p1_ r33 r34 x.1 x.2.1 x.2.2)
variable {p0_ p1_ x_32 x_33 x_34 r33 r34 reached_15 r_1 i_2 r_2 x42 r_3 x_35 r_4 r_5 x43 r_6}
theorem KO (x:((List (Ae×Bool))×Int)) (z:(((List (Ae×Bool))×Int)⊕(List (Ae×Bool)))) (H:BF n p1_ r33 r34 reached_15 i_2 x42 x.1 x.2=some z):WP (cxk 88 0) (AD Try.f60) [1,1,1,0,1,0,0,1,0,0,1,0,0] (AG 0 (GE p1_ r33 r34 reached_15 i_2 x42) (Ly p1_ r33 r34 reached_15 i_2 x42) z) (GE p1_ r33 r34 reached_15 i_2 x42 x):=by
 obtain ⟨r_3,x_35⟩:=x
 refine sr (ck 1 (en (sq (cn H (λ H=>?_) (λ H=>?_)))))
 ·refine sk (qz (sj (λ (x:(List (Ae×Bool)))=>Jac p1_ r33 r34 reached_15 i_2 x42 x_35 x) (λ (x:(List (Ae×Bool)))=>C1 n x_35 x) z ?_ (λ hFRb_newReading_J1=>?_)))
  ·intro r_5 H
   exact rz (ck 2 (ae (by cases H;exact og (gP [1,6,7,8,9,39,40,41] [0,1,2,3,4,5] (po1 (pn1 (eTg 1 Av) (List.set reached_15 i_2.toNat (true,x42.2)) (po1 (po1 (po1 (po1 (Pl.z)))))))))))
  refine bk 3 (sr (bx H λ x43 h133 H=>sp (AJ Av h133) (ck 2 (en (sr (ck 5 (en (sj (λ (x:(List (Ae×Bool)))=>Jad p1_ r33 r34 reached_15 i_2 x42 x_35 x43 x) (λ (x:(List (Ae×Bool)))=>BY n p1_ r33 i_2 x_35 x43 x) z ?_ (λ hFRb_newReading_J2=>?_)))))))))
  ·intro r_6 H
   refine sr (ck 2 (bx H λ r35 h134 H=>lt [3,4,5,6] (Ep h134) (en (bk 4 (bx H λ r36 h135 H=>rf [.exit 4] [6,12] [9,7,8,0,2,3,4,5,6] r36.1 (Kc h135) rfl (jn H (λ H=>?_) (λ H=>?_)))))))
   ·exact qN (qN (qs (gP [1,6,7,8,9,39,40,41] [0,1,3,4,5,6] (po1 (pn1 (eTg 1 Av) (List.set reached_15 i_2.toNat (true,x42.2)) (po1 (po1 (po1 (po1 (Pl.z)))))))) (hFRb_newReading_J1 r36.2 H)))
   ·refine jx 0 4 H (λ H=>?_) (λ H=>?_)
    ·exact qH (qN (qs (gP [1,6,7,8,9,39,40,41] [0,1,3,4,5,6] (po1 (pn1 (eTg 1 Av) (List.set reached_15 i_2.toNat (true,x42.2)) (po1 (po1 (po1 (po1 (Pl.z)))))))) (hFRb_newReading_J1 r36.2 H)))
    ·cases H
  refine sr (ck 2 (sp (AC eU8 p1_) (ck 3 (gc 6 (i_2==((p1_.length:Nat):Int)) (ck 1 (bx H λ x44 h136 H=>sE (λ hg=>A9 5 1 (DH h136 hg)) (sE (g:=(i_2==((p1_.length:Nat):Int))) (λ hg=>Da eB 5 0 (ty 4) (DH h136 hg)) (pA (en (cn H (λ H=>?_) (λ H=>?_)))))))))))
  ·exact rz (ck 5 (sp (Jj (enc:=eB) (encK:=An) (k:=4) (e1:=λ x=>.bool x) (m:=r_3) (l:=[.d (.int .i64 i_2),.d (.int .i64 x43)]) (key:=({ At:=i_2,State:=x43 }:Ae)) (y:=true) (v:=.d (.bool true)) (vz:=[.bool false]) KA) (ae (qs (gP [1,6,7,8,9,12,39,40,41] [0,1,6,2,3,4,5] (po1 (pn1 (eTg 1 Av) (List.set reached_15 i_2.toNat (true,x42.2)) (po1 (po1 (po1 (po1 (po1 (Pl.z))))))))) (hFRb_newReading_J2 (DR ({ At:=i_2,State:=x43 }:Ae) true r_3) H)))))
  ·exact sk (qs (gP [1,6,7,8,9,12,39,40,41] [0,1,6,2,3,4,5] (po1 (pn1 (eTg 1 Av) (List.set reached_15 i_2.toNat (true,x42.2)) (po1 (po1 (po1 (po1 (po1 (Pl.z))))))))) (hFRb_newReading_J2 r_3 H))
 ·exact ex 2 (qx (by cases H;exact xo rfl (gP [1,6,7,8,9] [0,1,2,3,4,5] (po1 (pn1 (eTg 1 Av) (List.set reached_15 i_2.toNat (true,x42.2)) (po1 (po1 (po1 (po1 (Pl.z))))))))))
theorem KP (x:((List (Bool×(List Int)))×(List (Ae×Bool))×Int)) (z:(((List (Bool×(List Int)))×(List (Ae×Bool))×Int)⊕(List (Ae×Bool)))) (H:BZ n p1_ r33 r34 x.1 x.2.1 x.2.2=some z):WP (cxk 88 0) (AD Try.f60) [1,1,1,0,1,0,0] (AG 0 (GG p1_ r33 r34) (Lz p1_ r33 r34) z) (GG p1_ r33 r34 x):=by
 obtain ⟨reached_15,r_1,i_2⟩:=x
 refine sq (sr (ck 2 (en (cn H (λ H=>?_) (λ H=>?_)))))
 ·exact sk (qz (sq (bk 1 (sq (bx H λ x42 h132 H=>rg (WF (enc:=Av) (xss:=reached_15) (sz:=1) (isz:=1) 1 (by kernel_rfl) h132) (ck 2 (sp (A9 1 1 h132) (sp (P1 (encN:=(eTg 1 Av)) (row:=[.d (.sl (x42.2.map Av))]) (k:=1) (sz:=1) (off:=0) (t:=ty 33) (v:=.d (.sl (x42.2.map Av))) h132) (sp (AC Av x42.2) (ck 1 (en (bk 2 (bx H λ y40 h137 H=>lX KO h137 (tr (tr (tr (scl (encN:=(eTg 1 Av)) (xss:=reached_15) i_2 [.d (.sl (x42.2.map Av))] 1 1 (true,x42.2)) (sn 7 1 1 (lsS reached_15 i_2.toNat (true,x42.2)))) (sn 36 1 1 (lsS reached_15 i_2.toNat (true,x42.2)))) (gP [1,6,7,8,9,39,40,41] [0,1,2,3,4,5] (po1 (pn1 (eTg 1 Av) (List.set reached_15 i_2.toNat (true,x42.2)) (po1 (po1 (po1 (po1 (Pl.z))))))))) rfl λ s hE33=>qH (qN (qs (hE33) (rz (ck 3 (ae (by cases H;exact og (gP [1,6,7,8,9] [0,1,2,3,4,5] (po1 (pn1 (eTg 1 Av) (List.set reached_15 i_2.toNat (true,x42.2)) (po1 (po1 (po1 (po1 (Pl.z)))))))))))))))))))))))))))
 ·exact ex 0 (qx (by cases H;exact xo rfl (sg [6,8])))
theorem HS {z} (H:CG n p0_ p1_=some z):BT Try.prog 60 [.agg (AU p0_),.d (.sl (p1_.map eU8))] [] 0 (.tup [.ptr 0 0,.d (.int .i64 z.2.2)]) [some (.box [.ptr 1 0,.d (.sl (p1_.map eU8)),.mp 2]),some (.box (Ai z.1 (.osl 3 1 0 (z.1.Accepts.length)))),some (.map true false (AB An eB z.2.1)),some (.arr 1 (z.1.Accepts.map eB))]:=by
 exact fL 88 0 (Z6 p0_ p1_) Try.func60 (sr (ck 3 (en (sr (ck 1 (bx H λ r33 h130 H=>lt [] (JV h130) (ck 6 (en (sr (ck 5 (bx H λ r34 h131 H=>lt [1,2] (Hi h131) (tb (f:=G7 (DL [1,2] 6 2)) [some (.box (AU p0_)),some (.box (Ai r33 (.osl 2 1 0 (r33.Accepts.length)))),some (.arr 1 (r33.Accepts.map eB)),some (.map true false (AB An eB [])),some (.box [.ptr 1 0,.d (.sl (p1_.map eU8)),.mp 3]),some (.box [.ptr 4 0]),some (.narr 1 (r34.1.map (eTg 1 Av)))] (po1 (po1 (po1 (po1 (po1 (po1 (pn1 (eTg 1 Av) r34.1 (Pl.z)))))))) (ck 5 (en (sq (sr (ck 1 (sp (AC eU8 p1_) (ck 1 (en (bk 0 (bx H λ y41 h138 H=>lX KP h138 (gP [1,6,7,8,9] [5,6,4,1,3,2] (po1 (pn1 (eTg 1 Av) r34.1 (po1 (po1 (po1 (po1 (Pl.z)))))))) rfl λ s hE34=>qH (qs (hE34) (sr (ck 4 (en (re (by cases H;exact pL (rl (s':=Z7 p1_ r33 y41 r34.2) (sg [4,5]))))))))))))))))))))))))))))))
end
section
variable (b0_1_:(List Int)) (b1_:Am) (o2_:(List (Ae×Bool)))
def Jae:St:=⟨(0,.ptr 0 0)::[],[some (.box [.ptr 1 0,.d (.sl (b0_1_.map eU8)),.mp 2]),some (.box (Ai b1_ (.osl 3 1 0 (b1_.Accepts.length)))),some (.map true false (AB An eB o2_)),some (.arr 1 (b1_.Accepts.map eB))]⟩
def Jaf:St:=⟨(2,.clo 74 [.ptr 4 0])::[],[some (.box [.ptr 1 0,.d (.sl (b0_1_.map eU8)),.mp 2]),some (.box (Ai b1_ (.osl 3 1 0 (b1_.Accepts.length)))),some (.map true false (AB An eB o2_)),some (.arr 1 (b1_.Accepts.map eB)),some (.box [.ptr 0 0])]⟩
variable {b0_1_ b1_ o2_}
theorem Gl {z} (H:C2 n b0_1_ b1_ o2_=some z):BT Try.prog 61 [.ptr 0 0] [some (.box [.ptr 1 0,.d (.sl (b0_1_.map eU8)),.mp 2]),some (.box (Ai b1_ (.osl 3 1 0 (b1_.Accepts.length)))),some (.map true false (AB An eB o2_)),some (.arr 1 (b1_.Accepts.map eB))] 4 (.clo 74 [.ptr 4 0]) [some (.box [.ptr 1 0,.d (.sl (b0_1_.map eU8)),.mp 2]),some (.box (Ai b1_ (.osl 3 1 0 (b1_.Accepts.length)))),some (.map true false (AB An eB o2_)),some (.arr 1 (b1_.Accepts.map eB)),some (.box [.ptr 0 0])]:=by
 exact fL 4 4 (Jae b0_1_ b1_ o2_) Try.func61 (sr (ck 2 (en (sr (xm (xok _ _) (ck 1 (en (re (by cases H;exact pL (rl (s':=Jaf b0_1_ b1_ o2_) (sg [2])))))))))))
end
section
variable (p0_:Ac) (o3_:(List (Ac×Bool))) (o4_:(List Ac)) (o5_:(List Ac)) (x_36:(List (Ac×Bool))) (x_37:(List Ac)) (x_38:(List Ac))
def Jag:St:=⟨(0,.agg [.d (.int .i64 p0_.Spot.At),.d (.int .i64 p0_.Spot.State),.d (.str p0_.Rest)])::(1,.ptr 0 0)::(2,.ptr 1 0)::(3,.ptr 2 0)::[],[some (.box [.mp 3]),some (.box [.osl 4 3 0 (o4_.length)]),some (.box [.osl 5 3 0 (o5_.length)]),some (.map true false (AB Ag eB o3_)),some (.arr 3 (o4_.map Ag)),some (.arr 3 (o5_.map Ag))]⟩
def Qe:St:=⟨[],[some (.box [.mp 3]),some (.box [.osl 6 3 0 (x_37.length)]),some (.box [.osl 7 3 0 (x_38.length)]),some (.map true false (AB Ag eB x_36)),none,none,some (.arr 3 (x_37.map Ag)),some (.arr 3 (x_38.map Ag))]⟩
variable {p0_ o3_ o4_ o5_ x_36 x_37 x_38}
theorem Dc {z} (H:A0 n p0_ o3_ o4_ o5_=some z):BT Try.prog 86 [.agg (ZF p0_),.ptr 0 0,.ptr 1 0,.ptr 2 0] [some (.box [.mp 3]),some (.box [.osl 4 3 0 (o4_.length)]),some (.box [.osl 5 3 0 (o5_.length)]),some (.map true false (AB Ag eB o3_)),some (.arr 3 (o4_.map Ag)),some (.arr 3 (o5_.map Ag))] 6 (.tup []) [some (.box [.mp 3]),some (.box [.osl 6 3 0 (z.2.1.length)]),some (.box [.osl 7 3 0 (z.2.2.length)]),some (.map true false (AB Ag eB z.1)),none,none,some (.arr 3 (z.2.1.map Ag)),some (.arr 3 (z.2.2.map Ag))]:=by
 refine fL 21 6 (Jag p0_ o3_ o4_ o5_) Try.func86 (sr (ck 1 (en (sq (sr (ck 2 (sp (Fj (enc:=eB) (encK:=Ag) (k:=3) (e1:=λ x=>.bool x) (m:=o3_) (l:=[.d (.int .i64 p0_.Spot.At),.d (.int .i64 p0_.Spot.State),.d (.str p0_.Rest)]) (key:=p0_) (z:=false) (vz:=[.bool false]) ZG false) (en (cn H (λ H=>?_) (λ H=>?_))))))))))
 ·exact re (qr (by cases H;exact pL (rl (s':=Qe o3_ o4_ o5_) (tr (tr (BI (k:=4) (sz:=3) 1 0 (o4_.map Ag) (o4_.length) (by kernel_rfl) Bd leM rfl) (BI (k:=5) (sz:=3) 2 0 (o5_.map Ag) (o5_.length) (by kernel_rfl) Bd leM rfl)) (sg [])))))
 ·refine sk (qz (sr (ck 2 (sp (Jj (enc:=eB) (encK:=Ag) (k:=3) (e1:=λ x=>.bool x) (m:=o3_) (l:=[.d (.int .i64 p0_.Spot.At),.d (.int .i64 p0_.Spot.State),.d (.str p0_.Rest)]) (key:=p0_) (y:=true) (v:=.d (.bool true)) (vz:=[.bool false]) ZG) (en (sr (ck 3 (en (cn H (λ H=>?_) (λ H=>?_))))))))))
  ·exact rz (ck 3 (bx H λ l23 h139 H=>sp (Bn Ag 4 3 h139) (ck 1 (ae (by cases H;exact pL' (rl (s':=Qe (DR p0_ true o3_) l23 o5_) (tr (BI (k:=5) (sz:=3) 2 0 (o5_.map Ag) (o5_.length) (by kernel_rfl) Bd leM rfl) (sg []))))))))
  ·exact rz (ck 3 (bx H λ l24 h140 H=>sp (Bn Ag 5 3 h140) (ck 1 (ae (by cases H;exact pL' (rl (s':=Qe (DR p0_ true o3_) o4_ l24) (tr (BI (k:=4) (sz:=3) 1 0 (o4_.map Ag) (o4_.length) (by kernel_rfl) Bd leM rfl) (sg []))))))))
end
noncomputable def Jah (p1_:(List UInt8)) (p2_:Ae) (b3_1_:(List Int)) (b7_:Am) (o8_:(List (Ae×Bool))) (o9_:(List (Ac×Bool))) (o10_:(List Ac)) (o11_:(List Ac)):St:=⟨(77,.agg [.d (.int .i64 p2_.At),.d (.int .i64 p2_.State)])::(76,.d (.str p1_))::(2,.ptr 1 0)::(9,.ptr 2 0)::[],[some (.lp Ak [2,9] [.ptr 1 0,.ptr 2 0] 0),some (.box [.ptr 3 0]),some (.box [.clo 86 [.ptr 4 0,.ptr 5 0,.ptr 6 0]]),some (.box [.ptr 7 0,.d (.sl (b3_1_.map eU8)),.mp 8]),some (.box [.mp 9]),some (.box [.osl 10 3 0 (o10_.length)]),some (.box [.osl 11 3 0 (o11_.length)]),some (.box (Ai b7_ (.osl 12 1 0 (b7_.Accepts.length)))),some (.map true false (AB An eB o8_)),some (.map true false (AB Ag eB o9_)),some (.arr 3 (o10_.map Ag)),some (.arr 3 (o11_.map Ag)),some (.arr 1 (b7_.Accepts.map eB))]⟩
noncomputable def UA (b3_1_:(List Int)) (b7_:Am) (o8_:(List (Ae×Bool))) (x_39:(List (Ac×Bool))) (x_40:(List Ac)) (x_41:(List Ac)):St:=⟨[],[some (.lp Ak [2,9] [.ptr 1 0,.ptr 2 0] 1),some (.box [.ptr 3 0]),some (.box [.clo 86 [.ptr 4 0,.ptr 5 0,.ptr 6 0]]),some (.box [.ptr 7 0,.d (.sl (b3_1_.map eU8)),.mp 8]),some (.box [.mp 9]),some (.box [.osl 13 3 0 (x_40.length)]),some (.box [.osl 14 3 0 (x_41.length)]),some (.box (Ai b7_ (.osl 15 1 0 (b7_.Accepts.length)))),some (.map true false (AB An eB o8_)),some (.map true false (AB Ag eB x_39)),none,none,none,some (.arr 3 (x_40.map Ag)),some (.arr 3 (x_41.map Ag)),some (.arr 1 (b7_.Accepts.map eB))]⟩
section
variable (p1_:(List UInt8)) (p2_:Ae) (b3_1_:(List Int)) (b7_:Am) (o8_:(List (Ae×Bool))) (o9_:(List (Ac×Bool))) (o10_:(List Ac)) (o11_:(List Ac))
variable {p1_ p2_ b3_1_ b7_ o8_ o9_ o10_ o11_}
theorem IJ {z} (H:BN n p1_ p2_ b3_1_ b7_ o8_ o9_ o10_ o11_=some z):N5 Try.prog [.d (.str p1_),.agg [.d (.int .i64 p2_.At),.d (.int .i64 p2_.State)]] [some (.lp Ak [2,9] [.ptr 1 0,.ptr 2 0] 0),some (.box [.ptr 3 0]),some (.box [.clo 86 [.ptr 4 0,.ptr 5 0,.ptr 6 0]]),some (.box [.ptr 7 0,.d (.sl (b3_1_.map eU8)),.mp 8]),some (.box [.mp 9]),some (.box [.osl 10 3 0 (o10_.length)]),some (.box [.osl 11 3 0 (o11_.length)]),some (.box (Ai b7_ (.osl 12 1 0 (b7_.Accepts.length)))),some (.map true false (AB An eB o8_)),some (.map true false (AB Ag eB o9_)),some (.arr 3 (o10_.map Ag)),some (.arr 3 (o11_.map Ag)),some (.arr 1 (b7_.Accepts.map eB))] 13 0 [some (.lp Ak [2,9] [.ptr 1 0,.ptr 2 0] 0),some (.box [.ptr 3 0]),some (.box [.clo 86 [.ptr 4 0,.ptr 5 0,.ptr 6 0]]),some (.box [.ptr 7 0,.d (.sl (b3_1_.map eU8)),.mp 8]),some (.box [.mp 9]),some (.box [.osl 13 3 0 (z.2.1.length)]),some (.box [.osl 14 3 0 (z.2.2.length)]),some (.box (Ai b7_ (.osl 15 1 0 (b7_.Accepts.length)))),some (.map true false (AB An eB o8_)),some (.map true false (AB Ag eB z.1)),none,none,none,some (.arr 3 (z.2.1.map Ag)),some (.arr 3 (z.2.2.map Ag)),some (.arr 1 (b7_.Accepts.map eB))]:=by
 refine fk (C:=AD Try.f75) (p:=[1,1,1,1,1,1,0,0,0,1,0,1,1,1,1,0]) 92 [76,77] [] (ts:=[2,9]) (vs:=[.ptr 1 0,.ptr 2 0]) (Jah p1_ p2_ b3_1_ b7_ o8_ o9_ o10_ o11_) follows (WG 92 13) (sr (ck 1 (en (rz (ck 2 (ae (aq (js:=[]) (bk 5 (sr (ck 5 (sp (Fj (enc:=eB) (encK:=An) (k:=8) (e1:=λ x=>.bool x) (m:=o8_) (l:=[.d (.int .i64 p2_.At),.d (.int .i64 p2_.State)]) (key:=p2_) (z:=false) (vz:=[.bool false]) KA false) (en (cn H (λ H=>?_) (λ H=>?_))))))))))))))
 ·exact rz (ck 4 (bx H λ r37 h141 H=>xc (JhL _ _) [4,5,6,9,10,11] (Dc h141) (ae (qN (by cases H;exact rq (s':=UA b3_1_ b7_ o8_ r37.1 r37.2.1 r37.2.2) (tr (BI (k:=12) (sz:=1) 7 1 (b7_.Accepts.map eB) (b7_.Accepts.length) (by kernel_rfl) Bd leM rfl) (sg [])))))))
 ·exact sk (qN (by cases H;exact rq (s':=UA b3_1_ b7_ o8_ o9_ o10_ o11_) (tr (tr (tr (BI (k:=10) (sz:=3) 5 0 (o10_.map Ag) (o10_.length) (by kernel_rfl) Bd leM rfl) (BI (k:=11) (sz:=3) 6 0 (o11_.map Ag) (o11_.length) (by kernel_rfl) Bd leM rfl)) (BI (k:=12) (sz:=1) 7 1 (b7_.Accepts.map eB) (b7_.Accepts.length) (by kernel_rfl) Bd leM rfl)) (sg []))))
end
section
variable (b2_:Ae) (b5_1_:(List Int)) (b9_:Am) (o10_:(List (Ae×Bool))) (o11_:(List (Ac×Bool))) (o12_:(List Ac)) (o13_:(List Ac)) (x_42:(List (Ac×Bool))) (x_43:(List Ac)) (x_44:(List Ac)) (x45:(List J8)) (x_45:(List (Ac×Bool))) (x_46:(List Ac)) (x_47:(List Ac)) (x_48:Int) (x_49:(List (Ac×Bool))) (x_50:(List Ac)) (x_51:(List Ac)) (x_52:(List (Ac×Bool))) (x_53:(List Ac)) (x_54:(List Ac))
noncomputable def Jai:St:=⟨(0,.yld 0)::(1,.ptr 1 0)::(2,.ptr 2 0)::[],[some (.lp Ak [2,9] [.ptr 3 0,.ptr 4 0] 0),some (.box [.ptr 5 0]),some (.box [.d (.int .i64 b2_.At),.d (.int .i64 b2_.State)]),some (.box [.ptr 5 0]),some (.box [.clo 86 [.ptr 6 0,.ptr 7 0,.ptr 8 0]]),some (.box [.ptr 9 0,.d (.sl (b5_1_.map eU8)),.mp 10]),some (.box [.mp 11]),some (.box [.osl 12 3 0 (o12_.length)]),some (.box [.osl 13 3 0 (o13_.length)]),some (.box (Ai b9_ (.osl 14 1 0 (b9_.Accepts.length)))),some (.map true false (AB An eB o10_)),some (.map true false (AB Ag eB o11_)),some (.arr 3 (o12_.map Ag)),some (.arr 3 (o13_.map Ag)),some (.arr 1 (b9_.Accepts.map eB))]⟩
noncomputable def Qf:St:=⟨[],[some (.lp Ak [2,9] [.ptr 3 0,.ptr 4 0] 0),some (.box [.ptr 5 0]),some (.box [.d (.int .i64 b2_.At),.d (.int .i64 b2_.State)]),some (.box [.ptr 5 0]),some (.box [.clo 86 [.ptr 6 0,.ptr 7 0,.ptr 8 0]]),some (.box [.ptr 9 0,.d (.sl (b5_1_.map eU8)),.mp 10]),some (.box [.mp 11]),some (.box [.osl 15 3 0 (x_43.length)]),some (.box [.osl 16 3 0 (x_44.length)]),some (.box (Ai b9_ (.osl 17 1 0 (b9_.Accepts.length)))),some (.map true false (AB An eB o10_)),some (.map true false (AB Ag eB x_42)),none,none,none,some (.arr 3 (x_43.map Ag)),some (.arr 3 (x_44.map Ag)),some (.arr 1 (b9_.Accepts.map eB))]⟩
noncomputable def Jaj:St:=⟨(0,.yld 0)::(1,.ptr 1 0)::(2,.ptr 2 0)::(16,.d (.sl (x45.map BH)))::(17,.d (.int .i64 ((x45.length:Nat):Int)))::(18,.d (.int .i64 x_48))::[],[some (.lp Ak [2,9] [.ptr 3 0,.ptr 4 0] 0),some (.box [.ptr 5 0]),some (.box [.d (.int .i64 b2_.At),.d (.int .i64 b2_.State)]),some (.box [.ptr 5 0]),some (.box [.clo 86 [.ptr 6 0,.ptr 7 0,.ptr 8 0]]),some (.box [.ptr 9 0,.d (.sl (b5_1_.map eU8)),.mp 10]),some (.box [.mp 11]),some (.box [.osl 15 3 0 (x_46.length)]),some (.box [.osl 16 3 0 (x_47.length)]),some (.box (Ai b9_ (.osl 17 1 0 (b9_.Accepts.length)))),some (.map true false (AB An eB o10_)),some (.map true false (AB Ag eB x_45)),none,none,none,some (.arr 3 (x_46.map Ag)),some (.arr 3 (x_47.map Ag)),some (.arr 1 (b9_.Accepts.map eB))]⟩
noncomputable def Jak:St:=⟨[],[some (.lp Ak [2,9] [.ptr 3 0,.ptr 4 0] 0),some (.box [.ptr 5 0]),some (.box [.d (.int .i64 b2_.At),.d (.int .i64 b2_.State)]),some (.box [.ptr 5 0]),some (.box [.clo 86 [.ptr 6 0,.ptr 7 0,.ptr 8 0]]),some (.box [.ptr 9 0,.d (.sl (b5_1_.map eU8)),.mp 10]),some (.box [.mp 11]),some (.box [.osl 15 3 0 (x_50.length)]),some (.box [.osl 16 3 0 (x_51.length)]),some (.box (Ai b9_ (.osl 17 1 0 (b9_.Accepts.length)))),some (.map true false (AB An eB o10_)),some (.map true false (AB Ag eB x_49)),none,none,none,some (.arr 3 (x_50.map Ag)),some (.arr 3 (x_51.map Ag)),some (.arr 1 (b9_.Accepts.map eB))]⟩
noncomputable def Jal:St:=⟨(0,.yld 0)::(1,.ptr 1 0)::(2,.ptr 2 0)::(16,.d (.sl (x45.map BH)))::(17,.d (.int .i64 ((x45.length:Nat):Int)))::(18,.d (.int .i64 x_48))::[],[some (.lp Ak [2,9] [.ptr 3 0,.ptr 4 0] 0),some (.box [.ptr 5 0]),some (.box [.d (.int .i64 b2_.At),.d (.int .i64 b2_.State)]),some (.box [.ptr 5 0]),some (.box [.clo 86 [.ptr 6 0,.ptr 7 0,.ptr 8 0]]),some (.box [.ptr 9 0,.d (.sl (b5_1_.map eU8)),.mp 10]),some (.box [.mp 11]),some (.box [.osl 15 3 0 (x_53.length)]),some (.box [.osl 16 3 0 (x_54.length)]),some (.box (Ai b9_ (.osl 17 1 0 (b9_.Accepts.length)))),some (.map true false (AB An eB o10_)),some (.map true false (AB Ag eB x_52)),none,none,none,some (.arr 3 (x_53.map Ag)),some (.arr 3 (x_54.map Ag)),some (.arr 1 (b9_.Accepts.map eB))]⟩
noncomputable def H9:(((List (Ac×Bool))×(List Ac)×(List Ac))⊕((List (Ac×Bool))×(List Ac)×(List Ac)))->Ex->St->Prop:=xS (xX 15 0 (λ (y:((List (Ac×Bool))×(List Ac)×(List Ac)))=>Jak b2_ b5_1_ b9_ o10_ y.1 y.2.1 y.2.2)) (xL 15 ty Try.f85 (λ (y:((List (Ac×Bool))×(List Ac)×(List Ac)))=>.tup []) (λ (y:((List (Ac×Bool))×(List Ac)×(List Ac)))=>[some (.lp Ak [2,9] [.ptr 3 0,.ptr 4 0] 0),some (.box [.ptr 5 0]),some (.box [.d (.int .i64 b2_.At),.d (.int .i64 b2_.State)]),some (.box [.ptr 5 0]),some (.box [.clo 86 [.ptr 6 0,.ptr 7 0,.ptr 8 0]]),some (.box [.ptr 9 0,.d (.sl (b5_1_.map eU8)),.mp 10]),some (.box [.mp 11]),some (.box [.osl 15 3 0 (y.2.1.length)]),some (.box [.osl 16 3 0 (y.2.2.length)]),some (.box (Ai b9_ (.osl 17 1 0 (b9_.Accepts.length)))),some (.map true false (AB An eB o10_)),some (.map true false (AB Ag eB y.1)),none,none,none,some (.arr 3 (y.2.1.map Ag)),some (.arr 3 (y.2.2.map Ag)),some (.arr 1 (b9_.Accepts.map eB))]))
noncomputable def EA:((List (Ac×Bool))×(List Ac)×(List Ac)×Int)->St:=(λ (x:((List (Ac×Bool))×(List Ac)×(List Ac)×Int))=>Jaj b2_ b5_1_ b9_ o10_ x45 x.1 x.2.1 x.2.2.1 x.2.2.2)
variable {b2_ b5_1_ b9_ o10_ o11_ o12_ o13_ x_42 x_43 x_44 x45 x_45 x_46 x_47 x_48 x_49 x_50 x_51 x_52 x_53 x_54}
theorem Ee (x:((List (Ac×Bool))×(List Ac)×(List Ac)×Int)) (z:(((List (Ac×Bool))×(List Ac)×(List Ac)×Int)⊕(((List (Ac×Bool))×(List Ac)×(List Ac))⊕((List (Ac×Bool))×(List Ac)×(List Ac))))) (H:Be n b2_ b5_1_ b9_ o10_ x45 x.1 x.2.1 x.2.2.1 x.2.2.2=some z):WP (cxk 53 15) (AD Try.f85) [1,0,0] (AG 15 (EA b2_ b5_1_ b9_ o10_ x45) (H9 b2_ b5_1_ b9_ o10_) z) (EA b2_ b5_1_ b9_ o10_ x45 x):=by
 obtain ⟨x_45,x_46,x_47,x_48⟩:=x
 refine sr (ck 1 (en (sq (cn H (λ H=>?_) (λ H=>?_)))))
 ·refine sk (qz (sj (λ (x:((List (Ac×Bool))×(List Ac)×(List Ac)))=>Jal b2_ b5_1_ b9_ o10_ x45 x_48 x.1 x.2.1 x.2.2) (λ (x:((List (Ac×Bool))×(List Ac)×(List Ac)))=>Bt n x_48 x.1 x.2.1 x.2.2) z ?_ (λ hFRb_reading_fits_1x_J1=>?_)))
  ·rintro ⟨x_52,x_53,x_54⟩ H
   exact rz (ck 2 (ae (by cases H;exact og (sg [0,1,2,16,17,18]))))
  refine bk 1 (sr (bx H λ x46 h143 H=>sp (AJ BH h143) (ck 3 (en (sq (rx 9 27 (.refl _) (ck 8 (bx H λ l25 h144 H=>sp (SM eU8 1 h144) (bx H λ r38 h145 H=>xs (xok _ _) (g:=true) rfl (Fd) [] ((H8 h145).lent rfl) rfl (ck 2 (sp (AC eU8 x46.Cells) (ck 4 (gc 1 (r38==((x46.Cells.length:Nat):Int)) (ck 1 (gc 1 (r38==((x46.Cells.length:Nat):Int)) (ck 1 (gc 1 (r38==((x46.Cells.length:Nat):Int)) (sE (g:=(r38==((x46.Cells.length:Nat):Int))) (λ hg=>AC eU8 x46.Cells) (gc 1 (r38==((x46.Cells.length:Nat):Int)) (ck 1 (gc 2 (r38==((x46.Cells.length:Nat):Int)) (mx (gsp (r38==((x46.Cells.length:Nat):Int)) H (λ hg H=>?_) (λ hg H=>?_))))))))))))))))))))))))
  ·refine bx H λ r39 h146 H=>xy (xok _ _) hg (CL (λ hh=>hh) (CL (λ hh=>hh) (CL (λ hh=>hh) (Fd)))) [0,3,4,5,6,7,8,9,10,11,15,16,17] (IJ h146) rfl (nx 30 29 (gc 1 (r38==((x46.Cells.length:Nat):Int)) (mx (pA (nz (qz (cn H (λ H=>?_) (λ H=>?_))))))))
   ·exact re (qR (qr (by cases H;exact lo rfl (rl (s':=Qf b2_ b5_1_ b9_ o10_ r39.1 r39.2.1 r39.2.2) (sg [])))))
   ·exact sk (qN (qs (sg [0,1,2,16,17,18]) (hFRb_reading_fits_1x_J1 (r39.1,r39.2.1,r39.2.2) H)))
  ·refine gsk hg (.d (.bool false)) (nx 30 29 (gc 1 (r38==((x46.Cells.length:Nat):Int)) (mx (pA (nz (qz (cn H (λ H=>?_) (λ H=>?_))))))))
   ·exact re (qR (qr (by cases H;exact lo rfl (rl (s':=Qf b2_ b5_1_ b9_ o10_ x_45 x_46 x_47) (sg [])))))
   ·exact sk (qN (qs (sg [0,1,2,16,17,18]) (hFRb_reading_fits_1x_J1 (x_45,x_46,x_47) H)))
 ·exact ex 0 (qx (by cases H;exact xo rfl (sg [])))
theorem Fr {z} (H:BC n b2_ b5_1_ b9_ o10_ o11_ o12_ o13_=some z):BT Try.prog 85 [.yld 0,.ptr 1 0,.ptr 2 0] [some (.lp Ak [2,9] [.ptr 3 0,.ptr 4 0] 0),some (.box [.ptr 5 0]),some (.box [.d (.int .i64 b2_.At),.d (.int .i64 b2_.State)]),some (.box [.ptr 5 0]),some (.box [.clo 86 [.ptr 6 0,.ptr 7 0,.ptr 8 0]]),some (.box [.ptr 9 0,.d (.sl (b5_1_.map eU8)),.mp 10]),some (.box [.mp 11]),some (.box [.osl 12 3 0 (o12_.length)]),some (.box [.osl 13 3 0 (o13_.length)]),some (.box (Ai b9_ (.osl 14 1 0 (b9_.Accepts.length)))),some (.map true false (AB An eB o10_)),some (.map true false (AB Ag eB o11_)),some (.arr 3 (o12_.map Ag)),some (.arr 3 (o13_.map Ag)),some (.arr 1 (b9_.Accepts.map eB))] 15 (.tup []) [some (.lp Ak [2,9] [.ptr 3 0,.ptr 4 0] 0),some (.box [.ptr 5 0]),some (.box [.d (.int .i64 b2_.At),.d (.int .i64 b2_.State)]),some (.box [.ptr 5 0]),some (.box [.clo 86 [.ptr 6 0,.ptr 7 0,.ptr 8 0]]),some (.box [.ptr 9 0,.d (.sl (b5_1_.map eU8)),.mp 10]),some (.box [.mp 11]),some (.box [.osl 15 3 0 (z.2.1.length)]),some (.box [.osl 16 3 0 (z.2.2.length)]),some (.box (Ai b9_ (.osl 17 1 0 (b9_.Accepts.length)))),some (.map true false (AB An eB o10_)),some (.map true false (AB Ag eB z.1)),none,none,none,some (.arr 3 (z.2.1.map Ag)),some (.arr 3 (z.2.2.map Ag)),some (.arr 1 (b9_.Accepts.map eB))]:=by
 refine fL 53 15 (Jai b2_ b5_1_ b9_ o10_ o11_ o12_ o13_) Try.func85 (sr (ck 9 (bx H λ x45 h142 H=>sp (AJ (eL BH) h142) (ck 1 (sp (AC BH x45) (ck 1 (en (bk 0 (bx H λ y42 h147 H=>?_)))))))))
 rcases y42 with y43|y44
 ·exact lX Ee h147 (tr (tr (tr (BI (k:=12) (sz:=3) 7 0 (o12_.map Ag) (o12_.length) (by kernel_rfl) Bd leM rfl) (BI (k:=13) (sz:=3) 8 0 (o13_.map Ag) (o13_.length) (by kernel_rfl) Bd leM rfl)) (BI (k:=14) (sz:=1) 9 1 (b9_.Accepts.map eB) (b9_.Accepts.length) (by kernel_rfl) Bd leM rfl)) (sg [0,1,2,16,17,18])) rfl λ s hE35=>qH (by cases H;exact pL' (rl (s':=Qf b2_ b5_1_ b9_ o10_ y43.1 y43.2.1 y43.2.2) (tr (hE35) (sg []))))
 ·exact lL Ee h147 (tr (tr (tr (BI (k:=12) (sz:=3) 7 0 (o12_.map Ag) (o12_.length) (by kernel_rfl) Bd leM rfl) (BI (k:=13) (sz:=3) 8 0 (o13_.map Ag) (o13_.length) (by kernel_rfl) Bd leM rfl)) (BI (k:=14) (sz:=1) 9 1 (b9_.Accepts.map eB) (b9_.Accepts.length) (by kernel_rfl) Bd leM rfl)) (sg [0,1,2,16,17,18])) rfl λ s hE36=>qR (by cases H;exact pL hE36)
end
section
variable (o0_:(List Ac)) (x_55:(List Ac))
def Jam:St:=⟨(0,.osl 0 3 0 (o0_.length))::[],[some (.arr 3 (o0_.map Ag))]⟩
def Jan:St:=⟨(2,.osl 1 3 0 (x_55.length))::[],[none,some (.arr 3 (x_55.map Ag))]⟩
variable {o0_ x_55}
theorem N8 {z} (H:IC n o0_=some z):BT Try.prog 87 [.osl 0 3 0 (o0_.length)] [some (.arr 3 (o0_.map Ag))] 1 (.osl 1 3 0 (z.length)) [none,some (.arr 3 (z.map Ag))]:=by
 exact fL 9 1 (Jam o0_) Try.func87 (sr (ck 1 (en (sr (ck 5 (bx H λ l26 h148 H=>sp (Jcq 0 3 h148) (ck 1 (en (re (by cases H;exact pL (rl (s':=Jan z) (tr (LY (k:=0) (sz:=3) 2 (z.map Ag) (z.length) (by kernel_rfl) (FW h148) (H4 (enc:=Ag) h148) (FX h148)) (sg [2])))))))))))))
end
section
variable (p1_:(List Ac)) (b0_1_:(List Int)) (b1_:Am) (o2_:(List (Ae×Bool))) (x_56:(List Ac)) (x_57:Bool) (open_8:(List Ac)) (found_1:(List Ac)) (add_13:(List (Ac×Bool))) (x_58:Int) (open_9:(List Ac)) (found_2:(List Ac)) (add_14:(List (Ac×Bool))) (open_10:(List Ac)) (found_3:(List Ac)) (add_15:(List (Ac×Bool))) (open_11:(List Ac)) (found_4:(List Ac)) (add_16:(List (Ac×Bool))) (ends_1:Bool) (found_5:(List Ac)) (ends_2:Bool) (x48:Ac) (l27:(List Ac)) (ends_3:Bool)
def Jao:St:=⟨(0,.ptr 0 0)::(1,.d (.sl (p1_.map Ag)))::[],[some (.box [.ptr 1 0,.d (.sl (b0_1_.map eU8)),.mp 2]),some (.box (Ai b1_ (.osl 3 1 0 (b1_.Accepts.length)))),some (.map true false (AB An eB o2_)),some (.arr 1 (b1_.Accepts.map eB))]⟩
def Jap:St:=⟨(4,.d (.sl (x_56.map Ag)))::(5,.d (.bool x_57))::[],[some (.box [.ptr 1 0,.d (.sl (b0_1_.map eU8)),.mp 2]),some (.box (Ai b1_ (.osl 4 1 0 (b1_.Accepts.length)))),some (.map true false (AB An eB o2_)),none,some (.arr 1 (b1_.Accepts.map eB))]⟩
def Jaq:St:=⟨(2,.ptr 4 0)::(7,.ptr 5 0)::(8,.ptr 6 0)::(9,.ptr 7 0)::(10,.d (.bool false))::(18,.d (.sl (p1_.map Ag)))::(19,.d (.int .i64 ((p1_.length:Nat):Int)))::(20,.d (.int .i64 x_58))::[],[some (.box [.ptr 1 0,.d (.sl (b0_1_.map eU8)),.mp 2]),some (.box (Ai b1_ (.osl 3 1 0 (b1_.Accepts.length)))),some (.map true false (AB An eB o2_)),some (.arr 1 (b1_.Accepts.map eB)),some (.box [.ptr 0 0]),some (.box [.osl 8 3 0 (open_8.length)]),some (.box [.osl 9 3 0 (found_1.length)]),some (.box [.clo 86 [.ptr 10 0,.ptr 5 0,.ptr 6 0]]),some (.arr 3 (open_8.map Ag)),some (.arr 3 (found_1.map Ag)),some (.box [.mp 11]),some (.map true false (AB Ag eB add_13))]⟩
def Jar:St:=⟨(2,.ptr 4 0)::(7,.ptr 5 0)::(8,.ptr 6 0)::(9,.ptr 7 0)::(10,.d (.bool false))::[],[some (.box [.ptr 1 0,.d (.sl (b0_1_.map eU8)),.mp 2]),some (.box (Ai b1_ (.osl 3 1 0 (b1_.Accepts.length)))),some (.map true false (AB An eB o2_)),some (.arr 1 (b1_.Accepts.map eB)),some (.box [.ptr 0 0]),some (.box [.osl 8 3 0 (open_9.length)]),some (.box [.osl 9 3 0 (found_2.length)]),some (.box [.clo 86 [.ptr 10 0,.ptr 5 0,.ptr 6 0]]),some (.arr 3 (open_9.map Ag)),some (.arr 3 (found_2.map Ag)),some (.box [.mp 11]),some (.map true false (AB Ag eB add_14))]⟩
def Jas:St:=⟨(2,.ptr 4 0)::(7,.ptr 5 0)::(8,.ptr 6 0)::(9,.ptr 7 0)::(10,.d (.bool false))::(18,.d (.sl (p1_.map Ag)))::(19,.d (.int .i64 ((p1_.length:Nat):Int)))::(20,.d (.int .i64 x_58))::[],[some (.box [.ptr 1 0,.d (.sl (b0_1_.map eU8)),.mp 2]),some (.box (Ai b1_ (.osl 3 1 0 (b1_.Accepts.length)))),some (.map true false (AB An eB o2_)),some (.arr 1 (b1_.Accepts.map eB)),some (.box [.ptr 0 0]),some (.box [.osl 8 3 0 (open_10.length)]),some (.box [.osl 9 3 0 (found_3.length)]),some (.box [.clo 86 [.ptr 10 0,.ptr 5 0,.ptr 6 0]]),some (.arr 3 (open_10.map Ag)),some (.arr 3 (found_3.map Ag)),some (.box [.mp 11]),some (.map true false (AB Ag eB add_15))]⟩
def IK:((List Ac)×(List Ac)×(List (Ac×Bool)))->Ex->St->Prop:=xX 4 0 (λ (y:((List Ac)×(List Ac)×(List (Ac×Bool))))=>Jar b0_1_ b1_ o2_ y.1 y.2.1 y.2.2)
def E9:((List Ac)×(List Ac)×(List (Ac×Bool))×Int)->St:=(λ (x:((List Ac)×(List Ac)×(List (Ac×Bool))×Int))=>Jaq p1_ b0_1_ b1_ o2_ x.1 x.2.1 x.2.2.1 x.2.2.2)
def Jat:St:=⟨(2,.ptr 4 0)::(7,.ptr 5 0)::(8,.ptr 6 0)::(9,.ptr 7 0)::(10,.d (.bool ends_1))::[],[some (.box [.ptr 1 0,.d (.sl (b0_1_.map eU8)),.mp 2]),some (.box (Ai b1_ (.osl 8 1 0 (b1_.Accepts.length)))),some (.map true false (AB An eB o2_)),none,some (.box [.ptr 0 0]),some (.box [.osl 9 3 0 (open_11.length)]),some (.box [.osl 10 3 0 (found_4.length)]),some (.box [.clo 86 [.ptr 11 0,.ptr 5 0,.ptr 6 0]]),some (.arr 1 (b1_.Accepts.map eB)),some (.arr 3 (open_11.map Ag)),some (.arr 3 (found_4.map Ag)),some (.box [.mp 12]),some (.map true false (AB Ag eB add_16))]⟩
def Jau:St:=⟨(8,.ptr 4 0)::(10,.d (.bool ends_2))::[],[some (.box [.ptr 1 0,.d (.sl (b0_1_.map eU8)),.mp 2]),some (.box (Ai b1_ (.osl 5 1 0 (b1_.Accepts.length)))),some (.map true false (AB An eB o2_)),none,some (.box [.osl 6 3 0 (found_5.length)]),some (.arr 1 (b1_.Accepts.map eB)),some (.arr 3 (found_5.map Ag))]⟩
def Jav:St:=⟨(2,.ptr 4 0)::(7,.ptr 5 0)::(8,.ptr 6 0)::(9,.ptr 7 0)::(10,.d (.bool ends_3))::(13,.ptr 8 0)::[],[some (.box [.ptr 1 0,.d (.sl (b0_1_.map eU8)),.mp 2]),some (.box (Ai b1_ (.osl 9 1 0 (b1_.Accepts.length)))),some (.map true false (AB An eB o2_)),none,some (.box [.ptr 0 0]),some (.box [.osl 10 3 0 (l27.length)]),some (.box [.osl 11 3 0 (found_4.length)]),some (.box [.clo 86 [.ptr 12 0,.ptr 5 0,.ptr 6 0]]),some (.box (ZF x48)),some (.arr 1 (b1_.Accepts.map eB)),some (.arr 3 (l27.map Ag)),some (.arr 3 (found_4.map Ag)),some (.box [.mp 13]),some (.map true false (AB Ag eB add_16))]⟩
def IL:((List Ac)×Bool)->Ex->St->Prop:=xX 4 2 (λ (y:((List Ac)×Bool))=>Jau b0_1_ b1_ o2_ y.1 y.2)
def Fa:((List Ac)×(List Ac)×(List (Ac×Bool))×Bool)->St:=(λ (x:((List Ac)×(List Ac)×(List (Ac×Bool))×Bool))=>Jat b0_1_ b1_ o2_ x.1 x.2.1 x.2.2.1 x.2.2.2)
variable {p1_ b0_1_ b1_ o2_ x_56 x_57 open_8 found_1 add_13 x_58 open_9 found_2 add_14 open_10 found_3 add_15 open_11 found_4 add_16 ends_1 found_5 ends_2 x48 l27 ends_3}
theorem Ia (x:((List Ac)×(List Ac)×(List (Ac×Bool))×Int)) (z:(((List Ac)×(List Ac)×(List (Ac×Bool))×Int)⊕((List Ac)×(List Ac)×(List (Ac×Bool))))) (H:CH n p1_ b0_1_ b1_ o2_ x.1 x.2.1 x.2.2.1 x.2.2.2=some z):WP (cxk 92 4) (AD Try.f75) [1,1,1,1,1,0,1,0,0] (AG 4 (E9 p1_ b0_1_ b1_ o2_) (IK b0_1_ b1_ o2_) z) (E9 p1_ b0_1_ b1_ o2_ x):=by
 obtain ⟨open_8,found_1,add_13,x_58⟩:=x
 refine sr (ck 1 (en (sq (cn H (λ H=>?_) (λ H=>?_)))))
 ·refine sk (qz (sj (λ (x:((List Ac)×(List Ac)×(List (Ac×Bool))))=>Jas p1_ b0_1_ b1_ o2_ x_58 x.1 x.2.1 x.2.2) (λ (x:((List Ac)×(List Ac)×(List (Ac×Bool))))=>B8 n x_58 x.1 x.2.1 x.2.2) z ?_ (λ hFRb_reading_spread_J1=>?_)))
  ·rintro ⟨open_10,found_3,add_15⟩ H
   exact rz (ck 2 (ae (by cases H;exact og (sg [2,7,8,9,10,18,19,20]))))
  refine bk 1 (sr (bx H λ x47 h149 H=>sp (AJ Ag h149) (ck 3 (en (sr (ck 6 (sp (Fj (enc:=eB) (encK:=An) (k:=2) (e1:=λ x=>.bool x) (m:=o2_) (l:=[.d (.int .i64 x47.Spot.At),.d (.int .i64 x47.Spot.State)]) (key:=x47.Spot) (z:=false) (vz:=[.bool false]) KA false) (en (cn H (λ H=>?_) (λ H=>?_))))))))))
  ·exact rz (ck 2 (bx H λ r40 h150 H=>xc (xok _ _) [10,5,6,11,8,9] (Dc h150) (ae (qN (qs (sg [2,7,8,9,10,18,19,20]) (hFRb_reading_spread_J1 (r40.2.1,r40.2.2,r40.1) H))))))
  ·exact sk (qN (qs (sg [2,7,8,9,10,18,19,20]) (hFRb_reading_spread_J1 (open_8,found_1,add_13) H)))
 ·exact ex 0 (qx (by cases H;exact xo rfl (sg [2,7,8,9,10])))
theorem Ib (x:((List Ac)×(List Ac)×(List (Ac×Bool))×Bool)) (z:(((List Ac)×(List Ac)×(List (Ac×Bool))×Bool)⊕((List Ac)×Bool))) (H:CI n b0_1_ b1_ o2_ x.1 x.2.1 x.2.2.1 x.2.2.2=some z):WP (cxk 92 4) (AD Try.f75) [1,1,1,1,1,1,0,0,0] (AG 4 (Fa b0_1_ b1_ o2_) (IL b0_1_ b1_ o2_) z) (Fa b0_1_ b1_ o2_ x):=by
 obtain ⟨open_11,found_4,add_16,ends_1⟩:=x
 refine sq (sr (ck 3 (en (cn H (λ H=>?_) (λ H=>?_)))))
 ·refine sk (qz (bk 3 (sr (ck 4 (bx H λ x48 h152 H=>sp (A9 9 3 h152) (sp (Da Ag 9 0 (ty 128) h152) (ck 2 (en (sr (ck 4 (bx H λ l27 h153 H=>sp (H5 9 3 h153) (ck 1 (en (sj (λ (x:Bool)=>Jav b0_1_ b1_ o2_ found_4 add_16 x48 l27 x) (λ (x:Bool)=>B9 n b0_1_ b1_ o2_ found_4 add_16 x48 l27 x) z ?_ (λ hFRb_reading_spread_J2=>?_)))))))))))))))
  ·intro ends_3 H
   refine sr (ck 3 (bx H λ r41 h154 H=>lt [0,1,2,9] (Ep h154) (en (bk 4 (bx H λ r42 h155 H=>rf [] [2,9] [16,14,15,4,7,0,12,5,6,1,2,13,10,11,9] 0 (Fr h155) rfl (jn H (λ H=>?_) (λ H=>?_)))))))
   ·exact qN (qN (by cases H;exact og (sg [2,7,8,9,10])))
   ·cases H
  refine sq (rg (BI (k:=9) (sz:=3) 5 0 (l27.map Ag) (l27.length) (by kernel_rfl) (FW h153) (H4 (enc:=Ag) h153) (FX h153)) (ck 7 (sp (AC eU8 b0_1_) (ck 3 (gc 6 (x48.Spot.At==((b0_1_.length:Nat):Int)) (ck 1 (gc 2 (x48.Spot.At==((b0_1_.length:Nat):Int)) (bx H λ x49 h156 H=>sE (λ hg=>A9 8 1 (DH h156 hg)) (sE (g:=(x48.Spot.At==((b0_1_.length:Nat):Int))) (λ hg=>Da eB 8 0 (ty 4) (DH h156 hg)) (pA (en (cn H (λ H=>?_) (λ H=>?_)))))))))))))
  ·exact rz (ck 1 (ae (qs (sg [2,7,8,9,10,13]) (hFRb_reading_spread_J2 true H))))
  ·exact sk (qs (sg [2,7,8,9,10,13]) (hFRb_reading_spread_J2 ends_1 H))
 ·exact ex 2 (qx (by cases H;exact xo rfl (sg [8,10])))
theorem FC {z} (H:BL n p1_ b0_1_ b1_ o2_=some z):BT Try.prog 75 [.ptr 0 0,.d (.sl (p1_.map Ag))] [some (.box [.ptr 1 0,.d (.sl (b0_1_.map eU8)),.mp 2]),some (.box (Ai b1_ (.osl 3 1 0 (b1_.Accepts.length)))),some (.map true false (AB An eB o2_)),some (.arr 1 (b1_.Accepts.map eB))] 4 (.tup [.d (.sl (z.1.map Ag)),.d (.bool z.2)]) [some (.box [.ptr 1 0,.d (.sl (b0_1_.map eU8)),.mp 2]),some (.box (Ai b1_ (.osl 4 1 0 (b1_.Accepts.length)))),some (.map true false (AB An eB o2_)),none,some (.arr 1 (b1_.Accepts.map eB))]:=by
 exact fL 92 4 (Jao p1_ b0_1_ b1_ o2_) Try.func75 (sr (ck 3 (en (sr (ck 3 (en (sr (ck 2 (en (sr (xm (xok _ _) (ck 2 (en (sr (ck 1 (en (sq (sr (ck 1 (sp (AC Ag p1_) (ck 1 (en (bk 0 (bx H λ y45 h151 H=>lX Ia h151 (tr (tr (CX 7 0 3 (by kernel_rfl)) (CX 8 0 3 (by kernel_rfl))) (sg [2,7,8,9,10,18,19,20])) rfl λ s hE37=>qH (qs (hE37) (sq (bk 2 (bx H λ y46 h157 H=>lX Ib h157 (tr (BI (k:=3) (sz:=1) 1 1 (b1_.Accepts.map eB) (b1_.Accepts.length) (by kernel_rfl) Bd leM rfl) (sg [2,7,8,9,10])) rfl λ s hE38=>qH (qs (hE38) (sr (ck 1 (bx H λ r43 h158 H=>lt [6] (N8 h158) (ck 3 (en (re (by cases H;exact pL (rl (s':=Jap b0_1_ b1_ o2_ r43 y46.2) (tr (fz (enc:=Ag) (xs:=r43) 4 7 3) (sg [4,5])))))))))))))))))))))))))))))))))))))))
end
noncomputable def Jaw (p1_:(List UInt8)) (b1_0_:(List Int)) (b2_0_:(List UInt8)) (b3_0_:Int) (b4_0_:Int):St:=⟨(21,.d (.str p1_))::(3,.ptr 1 0)::(4,.ptr 2 0)::(5,.ptr 3 0)::(6,.ptr 4 0)::[],[some (.lp A1 [3,4,5,6] [.ptr 1 0,.ptr 2 0,.ptr 3 0,.ptr 4 0] 0),some (.box [.d (.sl (b1_0_.map eU8))]),some (.box [.d (.str b2_0_)]),some (.box [.d (.int .i64 b3_0_)]),some (.box [.d (.int .i64 b4_0_)])]⟩
noncomputable def Jax (p1_:(List UInt8)) (b1_0_:(List Int)):St:=⟨[],[some (.lp A1 [3,4,5,6] [.ptr 1 0,.ptr 2 0,.ptr 3 0,.ptr 4 0] 1),some (.box [.d (.sl (b1_0_.map eU8))]),some (.box [.d (.str p1_)]),some (.box [.d (.int .i64 ((b1_0_.length:Nat):Int))]),some (.box [.d (.int .i64 0)])]⟩
section
variable (p1_:(List UInt8)) (b1_0_:(List Int)) (b2_0_:(List UInt8)) (b3_0_:Int) (b4_0_:Int)
variable {p1_ b1_0_ b2_0_ b3_0_ b4_0_}
theorem LH {z} (H:He n p1_ b1_0_ b2_0_ b3_0_ b4_0_=some z):N5 Try.prog [.d (.str p1_)] [some (.lp A1 [3,4,5,6] [.ptr 1 0,.ptr 2 0,.ptr 3 0,.ptr 4 0] 0),some (.box [.d (.sl (b1_0_.map eU8))]),some (.box [.d (.str b2_0_)]),some (.box [.d (.int .i64 b3_0_)]),some (.box [.d (.int .i64 b4_0_)])] 5 2 [some (.lp A1 [3,4,5,6] [.ptr 1 0,.ptr 2 0,.ptr 3 0,.ptr 4 0] 2),some (.box [.d (.sl (b1_0_.map eU8))]),some (.box [.d (.str p1_)]),some (.box [.d (.int .i64 ((b1_0_.length:Nat):Int))]),some (.box [.d (.int .i64 0)])]:=by
 exact fk (C:=AD Try.f41) (p:=[1,1,1,0,1,0]) 27 [21] [.ret] (ts:=[3,4,5,6]) (vs:=[.ptr 1 0,.ptr 2 0,.ptr 3 0,.ptr 4 0]) (Jaw p1_ b1_0_ b2_0_ b3_0_ b4_0_) follows (WG 27 5) (rz (ck 1 (ae (aq (js:=[.ret]) (bk 1 (sr (ck 2 (sp (AC eU8 b1_0_) (ck 3 (en (re (qR (by cases H;exact rq (s':=Jax p1_ b1_0_) (sg []))))))))))))))
end
section
variable (p0_:Int) (p1_:Int) (o0_:(List AW)) (x_59:(List Ac)) (x50:AW) (l_4:(List Ac)) (x_60:Int) (l_5:(List Ac)) (l_6:(List Ac))
def Jay:St:=⟨(0,.eptr 0 2 (0+Int.toNat p0_) 0)::(1,.d (.int .u8 p1_))::[],[some (.arr 2 (o0_.map A5))]⟩
def Jaz:St:=⟨(4,.osl 1 3 0 (x_59.length))::[],[some (.arr 2 (o0_.map A5)),some (.arr 3 (x_59.map Ag))]⟩
def JaA:St:=⟨(1,.d (.int .u8 p1_))::(5,.osl 1 3 0 (l_4.length))::(11,.d (.sl (x50.Heads.map Ag)))::(12,.d (.int .i64 ((x50.Heads.length:Nat):Int)))::(13,.d (.int .i64 x_60))::[],[some (.arr 2 (o0_.map A5)),some (.arr 3 (l_4.map Ag))]⟩
def JaB:St:=⟨(5,.osl 1 3 0 (l_5.length))::[],[some (.arr 2 (o0_.map A5)),some (.arr 3 (l_5.map Ag))]⟩
def JaC:St:=⟨(1,.d (.int .u8 p1_))::(5,.osl 1 3 0 (l_6.length))::(11,.d (.sl (x50.Heads.map Ag)))::(12,.d (.int .i64 ((x50.Heads.length:Nat):Int)))::(13,.d (.int .i64 x_60))::[],[some (.arr 2 (o0_.map A5)),some (.arr 3 (l_6.map Ag))]⟩
def IM:(List Ac)->Ex->St->Prop:=xX 1 0 (λ (y:(List Ac))=>JaB o0_ y)
def Fb:((List Ac)×Int)->St:=(λ (x:((List Ac)×Int))=>JaA p1_ o0_ x50 x.1 x.2)
variable {p0_ p1_ o0_ x_59 x50 l_4 x_60 l_5 l_6}
theorem Ic (x:((List Ac)×Int)) (z:(((List Ac)×Int)⊕(List Ac))) (H:Bk n p1_ o0_ x50 x.1 x.2=some z):WP (cxk 33 1) (AD Try.f77) [1,1,0,1,0,0] (AG 1 (Fb p1_ o0_ x50) (IM o0_) z) (Fb p1_ o0_ x50 x):=by
 obtain ⟨l_4,x_60⟩:=x
 refine sr (ck 1 (en (sq (cn H (λ H=>?_) (λ H=>?_)))))
 ·refine sk (qz (sj (λ (x:(List Ac))=>JaC p1_ o0_ x50 x_60 x) (λ (x:(List Ac))=>Ca n x_60 x) z ?_ (λ hFRb_branch_behindx_J1=>?_)))
  ·intro l_6 H
   exact rz (ck 2 (ae (by cases H;exact og (sg [1,5,11,12,13]))))
  refine bk 1 (sr (bx H λ x51 h160 H=>sp (AJ Ag h160) (ck 3 (en (sr (ck 2 (bx H λ b7 h161 H=>sp (FY h161) (ck 2 (en (cn H (λ H=>?_) (λ H=>?_)))))))))))
  ·exact rz (ck 5 (bx H λ s2 h162 H=>sp (WC h162) (ck 2 (bx H λ l28 h163 H=>sp (Bn Ag 1 3 h163) (ck 1 (ae (qN (qs (sg [1,5,11,12,13]) (hFRb_branch_behindx_J1 l28 H)))))))))
  ·exact sk (qN (qs (sg [1,5,11,12,13]) (hFRb_branch_behindx_J1 l_4 H)))
 ·exact ex 0 (qx (by cases H;exact xo rfl (sg [5])))
theorem FD {z} (H:BM n p0_ p1_ o0_=some z):BT Try.prog 77 [.eptr 0 2 (0+Int.toNat p0_) 0,.d (.int .u8 p1_)] [some (.arr 2 (o0_.map A5))] 1 (.osl 1 3 0 (z.length)) [some (.arr 2 (o0_.map A5)),some (.arr 3 (z.map Ag))]:=by
 exact fL 33 1 (Jay p0_ p1_ o0_) Try.func77 (sr (ck 1 (en (sr (ck 1 (en (sq (sr (ck 3 (bx H λ x50 h159 H=>sp (Da A5 0 0 (ty 124) h159) (sp (AC Ag x50.Heads) (ck 1 (en (bk 0 (bx H λ y47 h164 H=>lX Ic h164 (tr (Au.nilo 5 3 (by kernel_rfl)) (sg [1,5,11,12,13])) rfl λ s hE39=>qH (qs (hE39) (sr (ck 2 (en (re (by cases H;exact pL (rl (s':=Jaz o0_ z) (sg [4])))))))))))))))))))))))
end
section
variable (b0_1_:(List Int)) (b2_:Am) (o1_:(List Ac)) (o3_:(List (Ae×Bool))) (x_61:(List Ac)) (x_62:Bool) (open_12:(List Ac)) (found_6:(List Ac)) (add_17:(List (Ac×Bool))) (x_63:Int) (open_13:(List Ac)) (found_7:(List Ac)) (add_18:(List (Ac×Bool))) (open_14:(List Ac)) (found_8:(List Ac)) (add_19:(List (Ac×Bool))) (open_15:(List Ac)) (found_9:(List Ac)) (add_20:(List (Ac×Bool))) (ends_4:Bool) (found_10:(List Ac)) (ends_5:Bool) (x53:Ac) (l29:(List Ac)) (ends_6:Bool)
def JaD:St:=⟨(0,.ptr 0 0)::(1,.osl 1 3 0 (o1_.length))::[],[some (.box [.ptr 2 0,.d (.sl (b0_1_.map eU8)),.mp 3]),some (.arr 3 (o1_.map Ag)),some (.box (Ai b2_ (.osl 4 1 0 (b2_.Accepts.length)))),some (.map true false (AB An eB o3_)),some (.arr 1 (b2_.Accepts.map eB))]⟩
def JaE:St:=⟨(4,.d (.sl (x_61.map Ag)))::(5,.d (.bool x_62))::[],[some (.box [.ptr 2 0,.d (.sl (b0_1_.map eU8)),.mp 3]),some (.arr 3 (o1_.map Ag)),some (.box (Ai b2_ (.osl 5 1 0 (b2_.Accepts.length)))),some (.map true false (AB An eB o3_)),none,some (.arr 1 (b2_.Accepts.map eB))]⟩
def JaF:St:=⟨(2,.ptr 5 0)::(7,.ptr 6 0)::(8,.ptr 7 0)::(9,.ptr 8 0)::(10,.d (.bool false))::(18,.osl 1 3 0 (o1_.length))::(19,.d (.int .i64 ((o1_.length:Nat):Int)))::(20,.d (.int .i64 x_63))::[],[some (.box [.ptr 2 0,.d (.sl (b0_1_.map eU8)),.mp 3]),some (.arr 3 (o1_.map Ag)),some (.box (Ai b2_ (.osl 4 1 0 (b2_.Accepts.length)))),some (.map true false (AB An eB o3_)),some (.arr 1 (b2_.Accepts.map eB)),some (.box [.ptr 0 0]),some (.box [.osl 9 3 0 (open_12.length)]),some (.box [.osl 10 3 0 (found_6.length)]),some (.box [.clo 86 [.ptr 11 0,.ptr 6 0,.ptr 7 0]]),some (.arr 3 (open_12.map Ag)),some (.arr 3 (found_6.map Ag)),some (.box [.mp 12]),some (.map true false (AB Ag eB add_17))]⟩
def JaG:St:=⟨(2,.ptr 5 0)::(7,.ptr 6 0)::(8,.ptr 7 0)::(9,.ptr 8 0)::(10,.d (.bool false))::[],[some (.box [.ptr 2 0,.d (.sl (b0_1_.map eU8)),.mp 3]),some (.arr 3 (o1_.map Ag)),some (.box (Ai b2_ (.osl 4 1 0 (b2_.Accepts.length)))),some (.map true false (AB An eB o3_)),some (.arr 1 (b2_.Accepts.map eB)),some (.box [.ptr 0 0]),some (.box [.osl 9 3 0 (open_13.length)]),some (.box [.osl 10 3 0 (found_7.length)]),some (.box [.clo 86 [.ptr 11 0,.ptr 6 0,.ptr 7 0]]),some (.arr 3 (open_13.map Ag)),some (.arr 3 (found_7.map Ag)),some (.box [.mp 12]),some (.map true false (AB Ag eB add_18))]⟩
def JaH:St:=⟨(2,.ptr 5 0)::(7,.ptr 6 0)::(8,.ptr 7 0)::(9,.ptr 8 0)::(10,.d (.bool false))::(18,.osl 1 3 0 (o1_.length))::(19,.d (.int .i64 ((o1_.length:Nat):Int)))::(20,.d (.int .i64 x_63))::[],[some (.box [.ptr 2 0,.d (.sl (b0_1_.map eU8)),.mp 3]),some (.arr 3 (o1_.map Ag)),some (.box (Ai b2_ (.osl 4 1 0 (b2_.Accepts.length)))),some (.map true false (AB An eB o3_)),some (.arr 1 (b2_.Accepts.map eB)),some (.box [.ptr 0 0]),some (.box [.osl 9 3 0 (open_14.length)]),some (.box [.osl 10 3 0 (found_8.length)]),some (.box [.clo 86 [.ptr 11 0,.ptr 6 0,.ptr 7 0]]),some (.arr 3 (open_14.map Ag)),some (.arr 3 (found_8.map Ag)),some (.box [.mp 12]),some (.map true false (AB Ag eB add_19))]⟩
def Id:((List Ac)×(List Ac)×(List (Ac×Bool)))->Ex->St->Prop:=xX 5 0 (λ (y:((List Ac)×(List Ac)×(List (Ac×Bool))))=>JaG b0_1_ b2_ o1_ o3_ y.1 y.2.1 y.2.2)
def EB:((List Ac)×(List Ac)×(List (Ac×Bool))×Int)->St:=(λ (x:((List Ac)×(List Ac)×(List (Ac×Bool))×Int))=>JaF b0_1_ b2_ o1_ o3_ x.1 x.2.1 x.2.2.1 x.2.2.2)
def JaI:St:=⟨(2,.ptr 5 0)::(7,.ptr 6 0)::(8,.ptr 7 0)::(9,.ptr 8 0)::(10,.d (.bool ends_4))::[],[some (.box [.ptr 2 0,.d (.sl (b0_1_.map eU8)),.mp 3]),some (.arr 3 (o1_.map Ag)),some (.box (Ai b2_ (.osl 9 1 0 (b2_.Accepts.length)))),some (.map true false (AB An eB o3_)),none,some (.box [.ptr 0 0]),some (.box [.osl 10 3 0 (open_15.length)]),some (.box [.osl 11 3 0 (found_9.length)]),some (.box [.clo 86 [.ptr 12 0,.ptr 6 0,.ptr 7 0]]),some (.arr 1 (b2_.Accepts.map eB)),some (.arr 3 (open_15.map Ag)),some (.arr 3 (found_9.map Ag)),some (.box [.mp 13]),some (.map true false (AB Ag eB add_20))]⟩
def JaJ:St:=⟨(8,.ptr 5 0)::(10,.d (.bool ends_5))::[],[some (.box [.ptr 2 0,.d (.sl (b0_1_.map eU8)),.mp 3]),some (.arr 3 (o1_.map Ag)),some (.box (Ai b2_ (.osl 6 1 0 (b2_.Accepts.length)))),some (.map true false (AB An eB o3_)),none,some (.box [.osl 7 3 0 (found_10.length)]),some (.arr 1 (b2_.Accepts.map eB)),some (.arr 3 (found_10.map Ag))]⟩
def JaK:St:=⟨(2,.ptr 5 0)::(7,.ptr 6 0)::(8,.ptr 7 0)::(9,.ptr 8 0)::(10,.d (.bool ends_6))::(13,.ptr 9 0)::[],[some (.box [.ptr 2 0,.d (.sl (b0_1_.map eU8)),.mp 3]),some (.arr 3 (o1_.map Ag)),some (.box (Ai b2_ (.osl 10 1 0 (b2_.Accepts.length)))),some (.map true false (AB An eB o3_)),none,some (.box [.ptr 0 0]),some (.box [.osl 11 3 0 (l29.length)]),some (.box [.osl 12 3 0 (found_9.length)]),some (.box [.clo 86 [.ptr 13 0,.ptr 6 0,.ptr 7 0]]),some (.box (ZF x53)),some (.arr 1 (b2_.Accepts.map eB)),some (.arr 3 (l29.map Ag)),some (.arr 3 (found_9.map Ag)),some (.box [.mp 14]),some (.map true false (AB Ag eB add_20))]⟩
def Ie:((List Ac)×Bool)->Ex->St->Prop:=xX 5 2 (λ (y:((List Ac)×Bool))=>JaJ b0_1_ b2_ o1_ o3_ y.1 y.2)
def EC:((List Ac)×(List Ac)×(List (Ac×Bool))×Bool)->St:=(λ (x:((List Ac)×(List Ac)×(List (Ac×Bool))×Bool))=>JaI b0_1_ b2_ o1_ o3_ x.1 x.2.1 x.2.2.1 x.2.2.2)
variable {b0_1_ b2_ o1_ o3_ x_61 x_62 open_12 found_6 add_17 x_63 open_13 found_7 add_18 open_14 found_8 add_19 open_15 found_9 add_20 ends_4 found_10 ends_5 x53 l29 ends_6}
theorem Hu (x:((List Ac)×(List Ac)×(List (Ac×Bool))×Int)) (z:(((List Ac)×(List Ac)×(List (Ac×Bool))×Int)⊕((List Ac)×(List Ac)×(List (Ac×Bool))))) (H:Bf n b0_1_ b2_ o1_ o3_ x.1 x.2.1 x.2.2.1 x.2.2.2=some z):WP (cxk 92 5) (AD Try.f75) [1,1,1,1,1,0,1,0,0] (AG 5 (EB b0_1_ b2_ o1_ o3_) (Id b0_1_ b2_ o1_ o3_) z) (EB b0_1_ b2_ o1_ o3_ x):=by
 obtain ⟨open_12,found_6,add_17,x_63⟩:=x
 refine sr (ck 1 (en (sq (cn H (λ H=>?_) (λ H=>?_)))))
 ·refine sk (qz (sj (λ (x:((List Ac)×(List Ac)×(List (Ac×Bool))))=>JaH b0_1_ b2_ o1_ o3_ x_63 x.1 x.2.1 x.2.2) (λ (x:((List Ac)×(List Ac)×(List (Ac×Bool))))=>Bu n x_63 x.1 x.2.1 x.2.2) z ?_ (λ hFRb_reading_spreadx_J1=>?_)))
  ·rintro ⟨open_14,found_8,add_19⟩ H
   exact rz (ck 2 (ae (by cases H;exact og (sg [2,7,8,9,10,18,19,20]))))
  refine bk 1 (sr (bx H λ x52 h165 H=>sp (A9 1 3 h165) (sp (Da Ag 1 0 (ty 128) h165) (ck 2 (en (sr (ck 6 (sp (Fj (enc:=eB) (encK:=An) (k:=3) (e1:=λ x=>.bool x) (m:=o3_) (l:=[.d (.int .i64 x52.Spot.At),.d (.int .i64 x52.Spot.State)]) (key:=x52.Spot) (z:=false) (vz:=[.bool false]) KA false) (en (cn H (λ H=>?_) (λ H=>?_)))))))))))
  ·exact rz (ck 2 (bx H λ r44 h166 H=>xc (xok _ _) [11,6,7,12,9,10] (Dc h166) (ae (qN (qs (sg [2,7,8,9,10,18,19,20]) (hFRb_reading_spreadx_J1 (r44.2.1,r44.2.2,r44.1) H))))))
  ·exact sk (qN (qs (sg [2,7,8,9,10,18,19,20]) (hFRb_reading_spreadx_J1 (open_12,found_6,add_17) H)))
 ·exact ex 0 (qx (by cases H;exact xo rfl (sg [2,7,8,9,10])))
theorem Hv (x:((List Ac)×(List Ac)×(List (Ac×Bool))×Bool)) (z:(((List Ac)×(List Ac)×(List (Ac×Bool))×Bool)⊕((List Ac)×Bool))) (H:Bv n b0_1_ b2_ o1_ o3_ x.1 x.2.1 x.2.2.1 x.2.2.2=some z):WP (cxk 92 5) (AD Try.f75) [1,1,1,1,1,1,0,0,0] (AG 5 (EC b0_1_ b2_ o1_ o3_) (Ie b0_1_ b2_ o1_ o3_) z) (EC b0_1_ b2_ o1_ o3_ x):=by
 obtain ⟨open_15,found_9,add_20,ends_4⟩:=x
 refine sq (sr (ck 3 (en (cn H (λ H=>?_) (λ H=>?_)))))
 ·refine sk (qz (bk 3 (sr (ck 4 (bx H λ x53 h168 H=>sp (A9 10 3 h168) (sp (Da Ag 10 0 (ty 128) h168) (ck 2 (en (sr (ck 4 (bx H λ l29 h169 H=>sp (H5 10 3 h169) (ck 1 (en (sj (λ (x:Bool)=>JaK b0_1_ b2_ o1_ o3_ found_9 add_20 x53 l29 x) (λ (x:Bool)=>Bg n b0_1_ b2_ o3_ found_9 add_20 x53 l29 x) z ?_ (λ hFRb_reading_spreadx_J2=>?_)))))))))))))))
  ·intro ends_6 H
   refine sr (ck 3 (bx H λ r45 h170 H=>lt [0,2,3,10] (Ep h170) (en (bk 4 (bx H λ r46 h171 H=>rf [] [2,9] [17,15,16,5,8,0,13,6,7,2,3,14,11,12,10] 0 (Fr h171) rfl (jn H (λ H=>?_) (λ H=>?_)))))))
   ·exact qN (qN (by cases H;exact og (sg [2,7,8,9,10])))
   ·cases H
  refine sq (rg (BI (k:=10) (sz:=3) 6 0 (l29.map Ag) (l29.length) (by kernel_rfl) (FW h169) (H4 (enc:=Ag) h169) (FX h169)) (ck 7 (sp (AC eU8 b0_1_) (ck 3 (gc 6 (x53.Spot.At==((b0_1_.length:Nat):Int)) (ck 1 (gc 2 (x53.Spot.At==((b0_1_.length:Nat):Int)) (bx H λ x54 h172 H=>sE (λ hg=>A9 9 1 (DH h172 hg)) (sE (g:=(x53.Spot.At==((b0_1_.length:Nat):Int))) (λ hg=>Da eB 9 0 (ty 4) (DH h172 hg)) (pA (en (cn H (λ H=>?_) (λ H=>?_)))))))))))))
  ·exact rz (ck 1 (ae (qs (sg [2,7,8,9,10,13]) (hFRb_reading_spreadx_J2 true H))))
  ·exact sk (qs (sg [2,7,8,9,10,13]) (hFRb_reading_spreadx_J2 ends_4 H))
 ·exact ex 2 (qx (by cases H;exact xo rfl (sg [8,10])))
theorem Fs {z} (H:Ba n b0_1_ b2_ o1_ o3_=some z):BT Try.prog 75 [.ptr 0 0,.osl 1 3 0 (o1_.length)] [some (.box [.ptr 2 0,.d (.sl (b0_1_.map eU8)),.mp 3]),some (.arr 3 (o1_.map Ag)),some (.box (Ai b2_ (.osl 4 1 0 (b2_.Accepts.length)))),some (.map true false (AB An eB o3_)),some (.arr 1 (b2_.Accepts.map eB))] 5 (.tup [.d (.sl (z.1.map Ag)),.d (.bool z.2)]) [some (.box [.ptr 2 0,.d (.sl (b0_1_.map eU8)),.mp 3]),some (.arr 3 (o1_.map Ag)),some (.box (Ai b2_ (.osl 5 1 0 (b2_.Accepts.length)))),some (.map true false (AB An eB o3_)),none,some (.arr 1 (b2_.Accepts.map eB))]:=by
 exact fL 92 5 (JaD b0_1_ b2_ o1_ o3_) Try.func75 (sr (ck 3 (en (sr (ck 3 (en (sr (ck 2 (en (sr (xm (xok _ _) (ck 2 (en (sr (ck 1 (en (sq (sr (ck 3 (en (bk 0 (bx H λ y48 h167 H=>lX Hu h167 (tr (tr (CX 8 0 3 (by kernel_rfl)) (CX 9 0 3 (by kernel_rfl))) (sg [2,7,8,9,10,18,19,20])) rfl λ s hE40=>qH (qs (hE40) (sq (bk 2 (bx H λ y49 h173 H=>lX Hv h173 (tr (BI (k:=4) (sz:=1) 2 1 (b2_.Accepts.map eB) (b2_.Accepts.length) (by kernel_rfl) Bd leM rfl) (sg [2,7,8,9,10])) rfl λ s hE41=>qH (qs (hE41) (sr (ck 1 (bx H λ r47 h174 H=>lt [7] (N8 h174) (ck 3 (en (re (by cases H;exact pL (rl (s':=JaE b0_1_ b2_ o1_ o3_ r47 y49.2) (tr (fz (enc:=Ag) (xs:=r47) 4 8 3) (sg [4,5])))))))))))))))))))))))))))))))))))))
end
section
variable (b2_0_:(List Int)) (b3_0_:(List UInt8)) (b4_0_:Int) (b5_0_:Int) (b6_1_:(List Int)) (b7_:Am) (o8_:(List (Ae×Bool))) (j_2:Nat) (x_64:(List UInt8)) (x_65:Int) (x_66:Int) (r48:((List Ac)×Bool)) (x_67:(List UInt8)) (x_68:Int) (x_69:Int) (x_70:(List UInt8)) (x_71:Int) (x_72:Int) (text_1:(List Int)) (stack_1:(List AW)) (x_73:(List UInt8)) (x_74:Int) (x_75:Int) (l32:(List AW)) (l33:(List Int)) (r51:((List Ac)×Bool)) (x_76:(List UInt8)) (x_77:Int) (x_78:Int)
noncomputable def JaL:St:=⟨(0,.yld 0)::(1,.ptr 1 0)::[],[some (.lp A1 [3,4,5,6] [.ptr 2 0,.ptr 3 0,.ptr 4 0,.ptr 5 0] 0),some (.box [.ptr 6 0]),some (.box [.d (.sl (b2_0_.map eU8))]),some (.box [.d (.str b3_0_)]),some (.box [.d (.int .i64 b4_0_)]),some (.box [.d (.int .i64 b5_0_)]),some (.box [.ptr 7 0,.d (.sl (b6_1_.map eU8)),.mp 8]),some (.box (Ai b7_ (.osl 9 1 0 (b7_.Accepts.length)))),some (.map true false (AB An eB o8_)),some (.arr 1 (b7_.Accepts.map eB))]⟩
noncomputable def KQ:St:=⟨[],[some (.lp A1 [3,4,5,6] [.ptr 2 0,.ptr 3 0,.ptr 4 0,.ptr 5 0] j_2),some (.box [.ptr 6 0]),some (.box [.d (.sl (b2_0_.map eU8))]),some (.box [.d (.str x_64)]),some (.box [.d (.int .i64 x_65)]),some (.box [.d (.int .i64 x_66)]),some (.box [.ptr 7 0,.d (.sl (b6_1_.map eU8)),.mp 8]),some (.box (Ai b7_ (.osl 10 1 0 (b7_.Accepts.length)))),some (.map true false (AB An eB o8_)),none,some (.arr 1 (b7_.Accepts.map eB))]⟩
noncomputable def JaM:St:=⟨(0,.yld 0)::(1,.ptr 1 0)::(3,.osl 10 1 0 (List.length ([]:List Int)))::(4,.d (.sl (r48.1.map Ag)))::[],[some (.lp A1 [3,4,5,6] [.ptr 2 0,.ptr 3 0,.ptr 4 0,.ptr 5 0] 0),some (.box [.ptr 6 0]),some (.box [.d (.sl (b2_0_.map eU8))]),some (.box [.d (.str x_67)]),some (.box [.d (.int .i64 x_68)]),some (.box [.d (.int .i64 x_69)]),some (.box [.ptr 7 0,.d (.sl (b6_1_.map eU8)),.mp 8]),some (.box (Ai b7_ (.osl 11 1 0 (b7_.Accepts.length)))),some (.map true false (AB An eB o8_)),none,some (.arr 1 (List.map eU8 ([]:List Int))),some (.arr 1 (b7_.Accepts.map eB))]⟩
noncomputable def JaN:St:=⟨(0,.yld 0)::(1,.ptr 1 0)::(3,.osl 10 1 0 (text_1.length))::(6,.osl 11 2 0 (stack_1.length))::[],[some (.lp A1 [3,4,5,6] [.ptr 2 0,.ptr 3 0,.ptr 4 0,.ptr 5 0] 0),some (.box [.ptr 6 0]),some (.box [.d (.sl (b2_0_.map eU8))]),some (.box [.d (.str x_70)]),some (.box [.d (.int .i64 x_71)]),some (.box [.d (.int .i64 x_72)]),some (.box [.ptr 7 0,.d (.sl (b6_1_.map eU8)),.mp 8]),some (.box (Ai b7_ (.osl 12 1 0 (b7_.Accepts.length)))),some (.map true false (AB An eB o8_)),none,some (.arr 1 (text_1.map eU8)),some (.arr 2 (stack_1.map A5)),some (.arr 1 (b7_.Accepts.map eB))]⟩
noncomputable def JaO:St:=⟨[],[some (.lp A1 [3,4,5,6] [.ptr 2 0,.ptr 3 0,.ptr 4 0,.ptr 5 0] 0),some (.box [.ptr 6 0]),some (.box [.d (.sl (b2_0_.map eU8))]),some (.box [.d (.str x_73)]),some (.box [.d (.int .i64 x_74)]),some (.box [.d (.int .i64 x_75)]),some (.box [.ptr 7 0,.d (.sl (b6_1_.map eU8)),.mp 8]),some (.box (Ai b7_ (.osl 10 1 0 (b7_.Accepts.length)))),some (.map true false (AB An eB o8_)),none,some (.arr 1 (b7_.Accepts.map eB))]⟩
noncomputable def JaP:St:=⟨(0,.yld 0)::(1,.ptr 1 0)::(3,.osl 10 1 0 (l33.length))::(4,.d (.sl (r51.1.map Ag)))::(6,.osl 11 2 0 (l32.length))::[],[some (.lp A1 [3,4,5,6] [.ptr 2 0,.ptr 3 0,.ptr 4 0,.ptr 5 0] 0),some (.box [.ptr 6 0]),some (.box [.d (.sl (b2_0_.map eU8))]),some (.box [.d (.str x_76)]),some (.box [.d (.int .i64 x_77)]),some (.box [.d (.int .i64 x_78)]),some (.box [.ptr 7 0,.d (.sl (b6_1_.map eU8)),.mp 8]),some (.box (Ai b7_ (.osl 12 1 0 (b7_.Accepts.length)))),some (.map true false (AB An eB o8_)),none,some (.arr 1 (l33.map eU8)),some (.arr 2 (l32.map A5)),some (.arr 1 (b7_.Accepts.map eB))]⟩
noncomputable def If:(((List UInt8)×Int×Int)⊕(Nat×(List UInt8)×Int×Int))->Ex->St->Prop:=xS (xX 10 0 (λ (y:((List UInt8)×Int×Int))=>JaO b2_0_ b6_1_ b7_ o8_ y.1 y.2.1 y.2.2)) (xL 10 ty Try.f74 (λ (y:(Nat×(List UInt8)×Int×Int))=>.tup []) (λ (y:(Nat×(List UInt8)×Int×Int))=>[some (.lp A1 [3,4,5,6] [.ptr 2 0,.ptr 3 0,.ptr 4 0,.ptr 5 0] y.1),some (.box [.ptr 6 0]),some (.box [.d (.sl (b2_0_.map eU8))]),some (.box [.d (.str y.2.1)]),some (.box [.d (.int .i64 y.2.2.1)]),some (.box [.d (.int .i64 y.2.2.2)]),some (.box [.ptr 7 0,.d (.sl (b6_1_.map eU8)),.mp 8]),some (.box (Ai b7_ (.osl 10 1 0 (b7_.Accepts.length)))),some (.map true false (AB An eB o8_)),none,some (.arr 1 (b7_.Accepts.map eB))]))
noncomputable def ED:((List UInt8)×Int×Int×(List Int)×(List AW))->St:=(λ (x:((List UInt8)×Int×Int×(List Int)×(List AW)))=>JaN b2_0_ b6_1_ b7_ o8_ x.1 x.2.1 x.2.2.1 x.2.2.2.1 x.2.2.2.2)
variable {b2_0_ b3_0_ b4_0_ b5_0_ b6_1_ b7_ o8_ j_2 x_64 x_65 x_66 r48 x_67 x_68 x_69 x_70 x_71 x_72 text_1 stack_1 x_73 x_74 x_75 l32 l33 r51 x_76 x_77 x_78}
theorem Ef (x:((List UInt8)×Int×Int×(List Int)×(List AW))) (z:(((List UInt8)×Int×Int×(List Int)×(List AW))⊕(((List UInt8)×Int×Int)⊕(Nat×(List UInt8)×Int×Int)))) (H:A3 n b2_0_ b6_1_ b7_ o8_ x.1 x.2.1 x.2.2.1 x.2.2.2.1 x.2.2.2.2=some z):WP (cxk 81 10) (AD Try.f74) [1,1,1,1,0,0] (AG 10 (ED b2_0_ b6_1_ b7_ o8_) (If b2_0_ b6_1_ b7_ o8_) z) (ED b2_0_ b6_1_ b7_ o8_ x):=by
 obtain ⟨x_70,x_71,x_72,text_1,stack_1⟩:=x
 refine sq (sr (ck 3 (en (cn H (λ H=>?_) (λ H=>?_)))))
 ·refine sk (qz (bk 1 (sr (ck 4 (bx H λ x55 h176 H=>sp (A9 11 2 h176) (ck 1 (en (sr (ck 1 (bx H λ r49 h177 H=>cb (ks:=[11]) (obl:=[(0+Int.toNat (DG .i64 ((stack_1.length:Nat):Int) 1)+1,List.length (stack_1.map A5))]) false (leK (JgG (enc:=A5) h176) (leZ)) (DF (JcS h176) rfl) (GD h177) (Or.inr trivial) rfl (ck 1 (en (sq (sr (ck 2 (en (cn H (λ H=>?_) (λ H=>?_))))))))))))))))))
  ·exact sr (ck 4 (bx H λ l30 h178 H=>sp (H5 11 2 h178) (ck 1 (en (sq (rg (LY (k:=11) (sz:=2) 6 (l30.map A5) (l30.length) (by kernel_rfl) (FW h178) (H4 (enc:=A5) h178) (FX h178)) (ck 5 (bx H λ l31 h179 H=>sp (H5 10 1 h179) (ck 1 (en (ex 1 (qx (qH (by cases H;exact og (tr (LY (k:=10) (sz:=1) 3 (l31.map eU8) (l31.length) (by kernel_rfl) (FW h179) (H4 (enc:=eU8) h179) (FX h179)) (sg [0,1,3,6]))))))))))))))))
  ·refine sk (qz (sr (ck 5 (bx H λ l32 h180 H=>stA A5 11 1 (ty 3) h176 h180 (en (sq (rg (tr (tr (tr (sn 6 11 2 (CY h180)) (sn 26 11 2 (CY h180))) (sn 29 11 2 (CY h180))) (sn 30 11 2 (CY h180))) (ck 4 (bx H λ l33 h181 H=>sp (Bn eU8 10 1 h181) (ck 1 (en (sq (rx 4 5 (.refl _) (ck 4 (bx H λ r50 h182 H=>xs (xok _ _) (g:=true) rfl (Fd) [11] (FD h182) rfl (mx (bx H λ r51 h183 H=>lt [6,15,7,8,12] (Fs h183) (nx 11 10 (ck 4 (mx (ck 1 (nz (qz (sj (λ (x:((List UInt8)×Int×Int))=>JaP b2_0_ b6_1_ b7_ o8_ l32 l33 r51 x.1 x.2.1 x.2.2) (λ (x:((List UInt8)×Int×Int))=>Bw n l32 l33 r51 x.1 x.2.1 x.2.2) z ?_ (λ hFRb_reading_texts_1_J2=>?_)))))))))))))))))))))))))
   ·rintro ⟨x_76,x_77,x_78⟩ H
    exact rz (ck 4 (bx H λ l34 h184 H=>sp (Bn A5 11 2 h184) (ck 1 (ae (qN (by cases H;exact og (sg [0,1,3,6])))))))
   refine sr (ck 4 (gsp r51.2 H (λ hg H=>?_) (λ hg H=>?_)))
   ·refine bx H λ s3 h185 H=>xv (xok _ _) hg (CL (λ hh=>hh) (Fd)) 14 h185 (bx H λ r52 h186 H=>xy (xok _ _) hg (CL (λ hh=>hh) (CL (λ hh=>hh) (Fd))) [0,2,3,4,5] (LH h186) rfl (gc 1 r51.2 (pA (en (cnh H (λ hc86 H=>?_) (λ hc86 H=>?_))))))
    ·exact re (qr (qR (by cases H;exact lo rfl (rl (s':=KQ b2_0_ b6_1_ b7_ o8_ 2 s3 ((b2_0_.length:Nat):Int) 0) (sg [])))))
    ·exact sk (qs (tr (Uu 0 (jb1 hg hc86) (by kernel_rfl)) (sg [0,1,3,4,6])) (hFRb_reading_texts_1_J2 (s3,((b2_0_.length:Nat):Int),0) H))
   ·refine gsk hg (.d (.str [])) (gsk hg (.d (.bool false)) (gc 1 r51.2 (pA (en (cn H (λ H=>?_) (λ H=>?_))))))
    ·exact re (qr (qR (by cases H;exact lo rfl (rl (s':=KQ b2_0_ b6_1_ b7_ o8_ 0 x_70 x_71 x_72) (sg [])))))
    ·exact sk (qs (sg [0,1,3,4,6]) (hFRb_reading_texts_1_J2 (x_70,x_71,x_72) H))
 ·exact ex 0 (qx (by cases H;exact xo rfl (sg [])))
theorem Js {z} (H:B1 n b2_0_ b3_0_ b4_0_ b5_0_ b6_1_ b7_ o8_=some z):BT Try.prog 74 [.yld 0,.ptr 1 0] [some (.lp A1 [3,4,5,6] [.ptr 2 0,.ptr 3 0,.ptr 4 0,.ptr 5 0] 0),some (.box [.ptr 6 0]),some (.box [.d (.sl (b2_0_.map eU8))]),some (.box [.d (.str b3_0_)]),some (.box [.d (.int .i64 b4_0_)]),some (.box [.d (.int .i64 b5_0_)]),some (.box [.ptr 7 0,.d (.sl (b6_1_.map eU8)),.mp 8]),some (.box (Ai b7_ (.osl 9 1 0 (b7_.Accepts.length)))),some (.map true false (AB An eB o8_)),some (.arr 1 (b7_.Accepts.map eB))] 10 (.tup []) [some (.lp A1 [3,4,5,6] [.ptr 2 0,.ptr 3 0,.ptr 4 0,.ptr 5 0] z.1),some (.box [.ptr 6 0]),some (.box [.d (.sl (b2_0_.map eU8))]),some (.box [.d (.str z.2.1)]),some (.box [.d (.int .i64 z.2.2.1)]),some (.box [.d (.int .i64 z.2.2.2)]),some (.box [.ptr 7 0,.d (.sl (b6_1_.map eU8)),.mp 8]),some (.box (Ai b7_ (.osl 10 1 0 (b7_.Accepts.length)))),some (.map true false (AB An eB o8_)),none,some (.arr 1 (b7_.Accepts.map eB))]:=by
 refine fL 81 10 (JaL b2_0_ b3_0_ b4_0_ b5_0_ b6_1_ b7_ o8_) Try.func74 (sr (ck 1 (en (sr (ck 3 (sF (bx H λ r48 h175 H=>lt [6,7,8,9] (FC h175) (ck 5 (en (sj (λ (x:((List UInt8)×Int×Int))=>JaM b2_0_ b6_1_ b7_ o8_ r48 x.1 x.2.1 x.2.2) (λ (x:((List UInt8)×Int×Int))=>Bx n b2_0_ b6_1_ b7_ o8_ r48 x.1 x.2.1 x.2.2) z ?_ (λ hFRb_reading_texts_1_J1=>?_)))))))))))
 ·rintro ⟨x_67,x_68,x_69⟩ H
  refine sr (ck 4 (en (bk 0 (bx H λ y50 h187 H=>?_))))
  rcases y50 with y51|y52
  ·exact lX Ef h187 (sg [0,1,3,6]) rfl λ s hE42=>qH (by cases H;exact pL' (rl (s':=KQ b2_0_ b6_1_ b7_ o8_ 0 y51.1 y51.2.1 y51.2.2) (tr (hE42) (sg []))))
  ·exact lL Ef h187 (sg [0,1,3,6]) rfl λ s hE43=>qR (by cases H;exact pL hE43)
 refine sr (ck 3 (gsp r48.2 H (λ hg H=>?_) (λ hg H=>?_)))
 ·refine bx H λ r53 h188 H=>xy (xok _ _) hg (CL (λ hh=>hh) (Fd)) [0,2,3,4,5] (LH h188) rfl (gc 1 r48.2 (pA (en (cnh H (λ hc88 H=>?_) (λ hc88 H=>?_)))))
  ·exact re (qr (by cases H;exact pL (rl (s':=KQ b2_0_ b6_1_ b7_ o8_ 2 [] ((b2_0_.length:Nat):Int) 0) (sg []))))
  ·exact sk (qs (tr (tr (Uu 0 (jb1 hg hc88) (by kernel_rfl)) (Au.nilo 3 1 (by kernel_rfl))) (sg [0,1,3,4])) (hFRb_reading_texts_1_J1 ([],((b2_0_.length:Nat):Int),0) H))
 ·refine gsk hg (.d (.bool false)) (gc 1 r48.2 (pA (en (cn H (λ H=>?_) (λ H=>?_)))))
  ·exact re (qr (by cases H;exact pL (rl (s':=KQ b2_0_ b6_1_ b7_ o8_ 0 b3_0_ b4_0_ b5_0_) (sg []))))
  ·exact sk (qs (tr (Au.nilo 3 1 (by kernel_rfl)) (sg [0,1,3,4])) (hFRb_reading_texts_1_J1 (b3_0_,b4_0_,b5_0_) H))
end
section
variable (p0_:Ab) (p1_:(List Int))
def JeT:St:=⟨(0,.agg [.d (.int .i64 p0_.Modes),.d (.int .u8 p0_.Accept),.d (.sl (p0_.Rules.map Aq))])::(1,.d (.sl (p1_.map eU8)))::[],[]⟩
variable {p0_ p1_}
theorem HT {z} (H:Fk n p0_ p1_=some z):AN Try.prog 41 [.agg (AU p0_),.d (.sl (p1_.map eU8))] (.tup [.d (.str z.1),.d (.int .i64 z.2.1),.d (.int .i64 z.2.2)]):=by
 refine fO 27 (JeT p0_ p1_) Try.func41 (sr (ck 5 (en (sq (sr (ck 1 (bx H λ r54 h189 H=>ca false (Jp h189) (ck 1 (en (cn H (λ H=>?_) (λ H=>?_)))))))))))
 ·exact sr (ck 3 (en (re (qr (by cases H;exact pr rdT)))))
 ·refine sk (qz (sr (ck 2 (bx H λ r55 h190 H=>lt [] (HS h190) (ck 5 (en (sq (sr (ck 1 (bx H λ r56 h191 H=>lt [5,6,7,8] (Gl h191) (en (bk 0 (bx H λ r57 h192 H=>rf [.ret] [3,4,5,6] [10,9,1,2,3,4,5,6,7,8] r57.1 (Js h192) rfl (jn H (λ H=>?_) (λ H=>?_)))))))))))))))
  ·exact qN (qz (sr (ck 5 (en (re (by cases H;exact pr rdT))))))
  ·refine jr 0 H (λ H=>?_) (λ H=>?_)
   ·exact qR (qr (by cases H;exact pr rdT))
   ·cases H
end
noncomputable def JaQ (p1_:(List UInt8)) (b1_0_:Int) (b3_0_:Int) (o5_:(List (List UInt8))) (o6_:(List (List UInt8))):St:=⟨(25,.d (.str p1_))::(5,.ptr 1 0)::(6,.ptr 2 0)::(7,.ptr 3 0)::(10,.ptr 4 0)::[],[some (.lp AM [5,6,7,10] [.ptr 1 0,.ptr 2 0,.ptr 3 0,.ptr 4 0] 0),some (.box [.d (.int .i64 b1_0_)]),some (.box [.osl 5 1 0 (o5_.length)]),some (.box [.d (.int .i64 b3_0_)]),some (.box [.osl 6 1 0 (o6_.length)]),some (.arr 1 (o5_.map eS)),some (.arr 1 (o6_.map eS))]⟩
noncomputable def UB (b1_0_:Int) (x_79:Int) (x_80:(List (List UInt8))) (x_81:(List (List UInt8))):St:=⟨[],[some (.lp AM [5,6,7,10] [.ptr 1 0,.ptr 2 0,.ptr 3 0,.ptr 4 0] 1),some (.box [.d (.int .i64 b1_0_)]),some (.box [.osl 7 1 0 (x_80.length)]),some (.box [.d (.int .i64 x_79)]),some (.box [.osl 8 1 0 (x_81.length)]),none,none,some (.arr 1 (x_80.map eS)),some (.arr 1 (x_81.map eS))]⟩
section
variable (p1_:(List UInt8)) (b1_0_:Int) (b3_0_:Int) (o5_:(List (List UInt8))) (o6_:(List (List UInt8)))
variable {p1_ b1_0_ b3_0_ o5_ o6_}
theorem KR {z} (H:Gc n p1_ b1_0_ b3_0_ o5_ o6_=some z):N5 Try.prog [.d (.str p1_)] [some (.lp AM [5,6,7,10] [.ptr 1 0,.ptr 2 0,.ptr 3 0,.ptr 4 0] 0),some (.box [.d (.int .i64 b1_0_)]),some (.box [.osl 5 1 0 (o5_.length)]),some (.box [.d (.int .i64 b3_0_)]),some (.box [.osl 6 1 0 (o6_.length)]),some (.arr 1 (o5_.map eS)),some (.arr 1 (o6_.map eS))] 7 z.1 [some (.lp AM [5,6,7,10] [.ptr 1 0,.ptr 2 0,.ptr 3 0,.ptr 4 0] z.1),some (.box [.d (.int .i64 b1_0_)]),some (.box [.osl 7 1 0 (z.2.2.1.length)]),some (.box [.d (.int .i64 z.2.1)]),some (.box [.osl 8 1 0 (z.2.2.2.length)]),none,none,some (.arr 1 (z.2.2.1.map eS)),some (.arr 1 (z.2.2.2.map eS))]:=by
 refine fk (C:=AD Try.f43) (p:=[1,1,1,1,1,0,1,0]) 35 [25] [.ret] (ts:=[5,6,7,10]) (vs:=[.ptr 1 0,.ptr 2 0,.ptr 3 0,.ptr 4 0]) (JaQ p1_ b1_0_ b3_0_ o5_ o6_) follows (WG 35 7) (rz (ck 1 (ae (aq (js:=[.ret]) (bk 1 (sq (sr (ck 4 (en (cn H (λ H=>?_) (λ H=>?_)))))))))))
 ·exact sr (ck 2 (en (re (qr (qR (by cases H;exact rq (s':=UB b1_0_ 2 ([]:List (List UInt8)) o6_) (tr (tr (tr (CX 2 0 1 (by kernel_rfl)) (BI (k:=6) (sz:=1) 4 0 (o6_.map eS) (o6_.length) (by kernel_rfl) Bd leM rfl)) (WA 5 rfl)) (sg []))))))))
 ·exact sk (qz (rz (ck 3 (bx H λ l35 h193 H=>sp (Bn eS 6 1 h193) (ck 1 (ae (qN (by cases H;exact rq (s':=UB b1_0_ b3_0_ o5_ l35) (tr (BI (k:=5) (sz:=1) 2 0 (o5_.map eS) (o5_.length) (by kernel_rfl) Bd leM rfl) (sg []))))))))))
end
end Go.AI
end
section
namespace Go.AI
open Go.Proofs
set_option maxRecDepth 10000
variable {n:Nat}
section
variable (b2_0_:Int) (b4_0_:Int) (b6_1_:(List Int)) (b9_:Am) (o7_:(List (List UInt8))) (o8_:(List (List UInt8))) (o10_:(List (Ae×Bool))) (j_3:Nat) (x_82:Int) (x_83:(List (List UInt8))) (x_84:(List (List UInt8))) (r58:((List Ac)×Bool)) (x_85:Int) (x_86:(List (List UInt8))) (x_87:(List (List UInt8))) (x_88:Int) (text_2:(List Int)) (stack_2:(List AW)) (x_89:(List (List UInt8))) (x_90:(List (List UInt8))) (x_91:Int) (x_92:(List (List UInt8))) (x_93:(List (List UInt8))) (l38:(List AW)) (l39:(List Int)) (r61:((List Ac)×Bool)) (x_94:Int) (x_95:(List (List UInt8))) (x_96:(List (List UInt8)))
noncomputable def JaR:St:=⟨(0,.yld 0)::(1,.ptr 1 0)::[],[some (.lp AM [5,6,7,10] [.ptr 2 0,.ptr 3 0,.ptr 4 0,.ptr 5 0] 0),some (.box [.ptr 6 0]),some (.box [.d (.int .i64 b2_0_)]),some (.box [.osl 7 1 0 (o7_.length)]),some (.box [.d (.int .i64 b4_0_)]),some (.box [.osl 8 1 0 (o8_.length)]),some (.box [.ptr 9 0,.d (.sl (b6_1_.map eU8)),.mp 10]),some (.arr 1 (o7_.map eS)),some (.arr 1 (o8_.map eS)),some (.box (Ai b9_ (.osl 11 1 0 (b9_.Accepts.length)))),some (.map true false (AB An eB o10_)),some (.arr 1 (b9_.Accepts.map eB))]⟩
noncomputable def KS:St:=⟨[],[some (.lp AM [5,6,7,10] [.ptr 2 0,.ptr 3 0,.ptr 4 0,.ptr 5 0] j_3),some (.box [.ptr 6 0]),some (.box [.d (.int .i64 b2_0_)]),some (.box [.osl 12 1 0 (x_83.length)]),some (.box [.d (.int .i64 x_82)]),some (.box [.osl 13 1 0 (x_84.length)]),some (.box [.ptr 9 0,.d (.sl (b6_1_.map eU8)),.mp 10]),none,none,some (.box (Ai b9_ (.osl 14 1 0 (b9_.Accepts.length)))),some (.map true false (AB An eB o10_)),none,some (.arr 1 (x_83.map eS)),some (.arr 1 (x_84.map eS)),some (.arr 1 (b9_.Accepts.map eB))]⟩
noncomputable def JaS:St:=⟨(0,.yld 0)::(1,.ptr 1 0)::(3,.osl 12 1 0 (List.length ([]:List Int)))::(4,.d (.sl (r58.1.map Ag)))::[],[some (.lp AM [5,6,7,10] [.ptr 2 0,.ptr 3 0,.ptr 4 0,.ptr 5 0] 0),some (.box [.ptr 6 0]),some (.box [.d (.int .i64 b2_0_)]),some (.box [.osl 13 1 0 (x_86.length)]),some (.box [.d (.int .i64 x_85)]),some (.box [.osl 14 1 0 (x_87.length)]),some (.box [.ptr 9 0,.d (.sl (b6_1_.map eU8)),.mp 10]),none,none,some (.box (Ai b9_ (.osl 15 1 0 (b9_.Accepts.length)))),some (.map true false (AB An eB o10_)),none,some (.arr 1 (List.map eU8 ([]:List Int))),some (.arr 1 (x_86.map eS)),some (.arr 1 (x_87.map eS)),some (.arr 1 (b9_.Accepts.map eB))]⟩
noncomputable def JaT:St:=⟨(0,.yld 0)::(1,.ptr 1 0)::(3,.osl 12 1 0 (text_2.length))::(6,.osl 13 2 0 (stack_2.length))::[],[some (.lp AM [5,6,7,10] [.ptr 2 0,.ptr 3 0,.ptr 4 0,.ptr 5 0] 0),some (.box [.ptr 6 0]),some (.box [.d (.int .i64 b2_0_)]),some (.box [.osl 14 1 0 (x_89.length)]),some (.box [.d (.int .i64 x_88)]),some (.box [.osl 15 1 0 (x_90.length)]),some (.box [.ptr 9 0,.d (.sl (b6_1_.map eU8)),.mp 10]),none,none,some (.box (Ai b9_ (.osl 16 1 0 (b9_.Accepts.length)))),some (.map true false (AB An eB o10_)),none,some (.arr 1 (text_2.map eU8)),some (.arr 2 (stack_2.map A5)),some (.arr 1 (x_89.map eS)),some (.arr 1 (x_90.map eS)),some (.arr 1 (b9_.Accepts.map eB))]⟩
noncomputable def JaU:St:=⟨[],[some (.lp AM [5,6,7,10] [.ptr 2 0,.ptr 3 0,.ptr 4 0,.ptr 5 0] 0),some (.box [.ptr 6 0]),some (.box [.d (.int .i64 b2_0_)]),some (.box [.osl 12 1 0 (x_92.length)]),some (.box [.d (.int .i64 x_91)]),some (.box [.osl 13 1 0 (x_93.length)]),some (.box [.ptr 9 0,.d (.sl (b6_1_.map eU8)),.mp 10]),none,none,some (.box (Ai b9_ (.osl 14 1 0 (b9_.Accepts.length)))),some (.map true false (AB An eB o10_)),none,some (.arr 1 (x_92.map eS)),some (.arr 1 (x_93.map eS)),some (.arr 1 (b9_.Accepts.map eB))]⟩
noncomputable def JaV:St:=⟨(0,.yld 0)::(1,.ptr 1 0)::(3,.osl 12 1 0 (l39.length))::(4,.d (.sl (r61.1.map Ag)))::(6,.osl 13 2 0 (l38.length))::[],[some (.lp AM [5,6,7,10] [.ptr 2 0,.ptr 3 0,.ptr 4 0,.ptr 5 0] 0),some (.box [.ptr 6 0]),some (.box [.d (.int .i64 b2_0_)]),some (.box [.osl 14 1 0 (x_95.length)]),some (.box [.d (.int .i64 x_94)]),some (.box [.osl 15 1 0 (x_96.length)]),some (.box [.ptr 9 0,.d (.sl (b6_1_.map eU8)),.mp 10]),none,none,some (.box (Ai b9_ (.osl 16 1 0 (b9_.Accepts.length)))),some (.map true false (AB An eB o10_)),none,some (.arr 1 (l39.map eU8)),some (.arr 2 (l38.map A5)),some (.arr 1 (x_95.map eS)),some (.arr 1 (x_96.map eS)),some (.arr 1 (b9_.Accepts.map eB))]⟩
noncomputable def Hw:((Int×(List (List UInt8))×(List (List UInt8)))⊕(Nat×Int×(List (List UInt8))×(List (List UInt8))))->Ex->St->Prop:=xS (xX 12 0 (λ (y:(Int×(List (List UInt8))×(List (List UInt8))))=>JaU b2_0_ b6_1_ b9_ o10_ y.1 y.2.1 y.2.2)) (xL 12 ty Try.f74 (λ (y:(Nat×Int×(List (List UInt8))×(List (List UInt8))))=>.tup []) (λ (y:(Nat×Int×(List (List UInt8))×(List (List UInt8))))=>[some (.lp AM [5,6,7,10] [.ptr 2 0,.ptr 3 0,.ptr 4 0,.ptr 5 0] y.1),some (.box [.ptr 6 0]),some (.box [.d (.int .i64 b2_0_)]),some (.box [.osl 12 1 0 (y.2.2.1.length)]),some (.box [.d (.int .i64 y.2.1)]),some (.box [.osl 13 1 0 (y.2.2.2.length)]),some (.box [.ptr 9 0,.d (.sl (b6_1_.map eU8)),.mp 10]),none,none,some (.box (Ai b9_ (.osl 14 1 0 (b9_.Accepts.length)))),some (.map true false (AB An eB o10_)),none,some (.arr 1 (y.2.2.1.map eS)),some (.arr 1 (y.2.2.2.map eS)),some (.arr 1 (b9_.Accepts.map eB))]))
noncomputable def Eg:(Int×(List Int)×(List AW)×(List (List UInt8))×(List (List UInt8)))->St:=(λ (x:(Int×(List Int)×(List AW)×(List (List UInt8))×(List (List UInt8))))=>JaT b2_0_ b6_1_ b9_ o10_ x.1 x.2.1 x.2.2.1 x.2.2.2.1 x.2.2.2.2)
variable {b2_0_ b4_0_ b6_1_ b9_ o7_ o8_ o10_ j_3 x_82 x_83 x_84 r58 x_85 x_86 x_87 x_88 text_2 stack_2 x_89 x_90 x_91 x_92 x_93 l38 l39 r61 x_94 x_95 x_96}
theorem DW (x:(Int×(List Int)×(List AW)×(List (List UInt8))×(List (List UInt8)))) (z:((Int×(List Int)×(List AW)×(List (List UInt8))×(List (List UInt8)))⊕((Int×(List (List UInt8))×(List (List UInt8)))⊕(Nat×Int×(List (List UInt8))×(List (List UInt8)))))) (H:Cs n b2_0_ b6_1_ b9_ o10_ x.1 x.2.1 x.2.2.1 x.2.2.2.1 x.2.2.2.2=some z):WP (cxk 81 12) (AD Try.f74) [1,1,1,1,0,0] (AG 12 (Eg b2_0_ b6_1_ b9_ o10_) (Hw b2_0_ b6_1_ b9_ o10_) z) (Eg b2_0_ b6_1_ b9_ o10_ x):=by
 obtain ⟨x_88,text_2,stack_2,x_89,x_90⟩:=x
 refine sq (sr (ck 3 (en (cn H (λ H=>?_) (λ H=>?_)))))
 ·refine sk (qz (bk 1 (sr (ck 4 (bx H λ x56 h195 H=>sp (A9 13 2 h195) (ck 1 (en (sr (ck 1 (bx H λ r59 h196 H=>cb (ks:=[13]) (obl:=[(0+Int.toNat (DG .i64 ((stack_2.length:Nat):Int) 1)+1,List.length (stack_2.map A5))]) false (leK (JgG (enc:=A5) h195) (leZ)) (DF (JcS h195) rfl) (GD h196) (Or.inr trivial) rfl (ck 1 (en (sq (sr (ck 2 (en (cn H (λ H=>?_) (λ H=>?_))))))))))))))))))
  ·exact sr (ck 4 (bx H λ l36 h197 H=>sp (H5 13 2 h197) (ck 1 (en (sq (rg (LY (k:=13) (sz:=2) 6 (l36.map A5) (l36.length) (by kernel_rfl) (FW h197) (H4 (enc:=A5) h197) (FX h197)) (ck 5 (bx H λ l37 h198 H=>sp (H5 12 1 h198) (ck 1 (en (ex 1 (qx (qH (by cases H;exact og (tr (LY (k:=12) (sz:=1) 3 (l37.map eU8) (l37.length) (by kernel_rfl) (FW h198) (H4 (enc:=eU8) h198) (FX h198)) (sg [0,1,3,6]))))))))))))))))
  ·refine sk (qz (sr (ck 5 (bx H λ l38 h199 H=>stA A5 13 1 (ty 3) h195 h199 (en (sq (rg (tr (tr (tr (sn 6 13 2 (CY h199)) (sn 26 13 2 (CY h199))) (sn 29 13 2 (CY h199))) (sn 30 13 2 (CY h199))) (ck 4 (bx H λ l39 h200 H=>sp (Bn eU8 12 1 h200) (ck 1 (en (sq (rx 4 5 (.refl _) (ck 4 (bx H λ r60 h201 H=>xs (xok _ _) (g:=true) rfl (Fd) [13] (FD h201) rfl (mx (bx H λ r61 h202 H=>lt [6,19,9,10,16] (Fs h202) (nx 11 10 (ck 4 (mx (ck 1 (nz (qz (sj (λ (x:(Int×(List (List UInt8))×(List (List UInt8))))=>JaV b2_0_ b6_1_ b9_ o10_ l38 l39 r61 x.1 x.2.1 x.2.2) (λ (x:(Int×(List (List UInt8))×(List (List UInt8))))=>BO n l38 l39 r61 x.1 x.2.1 x.2.2) z ?_ (λ hFRb_reading_texts_1x_J2=>?_)))))))))))))))))))))))))
   ·rintro ⟨x_94,x_95,x_96⟩ H
    exact rz (ck 4 (bx H λ l40 h203 H=>sp (Bn A5 13 2 h203) (ck 1 (ae (qN (by cases H;exact og (sg [0,1,3,6])))))))
   refine sr (ck 4 (gsp r61.2 H (λ hg H=>?_) (λ hg H=>?_)))
   ·refine bx H λ s4 h204 H=>xv (xok _ _) hg (CL (λ hh=>hh) (Fd)) 18 h204 (bx H λ r62 h205 H=>xy (xok _ _) hg (CL (λ hh=>hh) (CL (λ hh=>hh) (Fd))) [0,2,3,4,5,14,15] (KR h205) rfl (gc 1 r61.2 (pA (en (cnh H (λ hc94 H=>?_) (λ hc94 H=>?_))))))
    ·exact re (qr (qR (by cases H;exact lo rfl (rl (s':=KS b2_0_ b6_1_ b9_ o10_ r62.1 r62.2.1 r62.2.2.1 r62.2.2.2) (sg [])))))
    ·exact sk (qs (tr (Uu 0 (jb1 hg hc94) (by kernel_rfl)) (sg [0,1,3,4,6])) (hFRb_reading_texts_1x_J2 (r62.2.1,r62.2.2.1,r62.2.2.2) H))
   ·refine gsk hg (.d (.str [])) (gsk hg (.d (.bool false)) (gc 1 r61.2 (pA (en (cn H (λ H=>?_) (λ H=>?_))))))
    ·exact re (qr (qR (by cases H;exact lo rfl (rl (s':=KS b2_0_ b6_1_ b9_ o10_ 0 x_88 x_89 x_90) (sg [])))))
    ·exact sk (qs (sg [0,1,3,4,6]) (hFRb_reading_texts_1x_J2 (x_88,x_89,x_90) H))
 ·exact ex 0 (qx (by cases H;exact xo rfl (sg [])))
theorem IN {z} (H:C3 n b2_0_ b4_0_ b6_1_ b9_ o7_ o8_ o10_=some z):BT Try.prog 74 [.yld 0,.ptr 1 0] [some (.lp AM [5,6,7,10] [.ptr 2 0,.ptr 3 0,.ptr 4 0,.ptr 5 0] 0),some (.box [.ptr 6 0]),some (.box [.d (.int .i64 b2_0_)]),some (.box [.osl 7 1 0 (o7_.length)]),some (.box [.d (.int .i64 b4_0_)]),some (.box [.osl 8 1 0 (o8_.length)]),some (.box [.ptr 9 0,.d (.sl (b6_1_.map eU8)),.mp 10]),some (.arr 1 (o7_.map eS)),some (.arr 1 (o8_.map eS)),some (.box (Ai b9_ (.osl 11 1 0 (b9_.Accepts.length)))),some (.map true false (AB An eB o10_)),some (.arr 1 (b9_.Accepts.map eB))] 12 (.tup []) [some (.lp AM [5,6,7,10] [.ptr 2 0,.ptr 3 0,.ptr 4 0,.ptr 5 0] z.1),some (.box [.ptr 6 0]),some (.box [.d (.int .i64 b2_0_)]),some (.box [.osl 12 1 0 (z.2.2.1.length)]),some (.box [.d (.int .i64 z.2.1)]),some (.box [.osl 13 1 0 (z.2.2.2.length)]),some (.box [.ptr 9 0,.d (.sl (b6_1_.map eU8)),.mp 10]),none,none,some (.box (Ai b9_ (.osl 14 1 0 (b9_.Accepts.length)))),some (.map true false (AB An eB o10_)),none,some (.arr 1 (z.2.2.1.map eS)),some (.arr 1 (z.2.2.2.map eS)),some (.arr 1 (b9_.Accepts.map eB))]:=by
 refine fL 81 12 (JaR b2_0_ b4_0_ b6_1_ b9_ o7_ o8_ o10_) Try.func74 (sr (ck 1 (en (sr (ck 3 (sF (bx H λ r58 h194 H=>lt [6,9,10,11] (FC h194) (ck 5 (en (sj (λ (x:(Int×(List (List UInt8))×(List (List UInt8))))=>JaS b2_0_ b6_1_ b9_ o10_ r58 x.1 x.2.1 x.2.2) (λ (x:(Int×(List (List UInt8))×(List (List UInt8))))=>BP n b2_0_ b6_1_ b9_ o10_ r58 x.1 x.2.1 x.2.2) z ?_ (λ hFRb_reading_texts_1x_J1=>?_)))))))))))
 ·rintro ⟨x_85,x_86,x_87⟩ H
  refine sr (ck 4 (en (bk 0 (bx H λ y53 h206 H=>?_))))
  rcases y53 with y54|y55
  ·exact lX DW h206 (sg [0,1,3,6]) rfl λ s hE44=>qH (by cases H;exact pL' (rl (s':=KS b2_0_ b6_1_ b9_ o10_ 0 y54.1 y54.2.1 y54.2.2) (tr (hE44) (sg []))))
  ·exact lL DW h206 (sg [0,1,3,6]) rfl λ s hE45=>qR (by cases H;exact pL hE45)
 refine sr (ck 3 (gsp r58.2 H (λ hg H=>?_) (λ hg H=>?_)))
 ·refine bx H λ r63 h207 H=>xy (xok _ _) hg (CL (λ hh=>hh) (Fd)) [0,2,3,4,5,7,8] (KR h207) rfl (gc 1 r58.2 (pA (en (cnh H (λ hc96 H=>?_) (λ hc96 H=>?_)))))
  ·exact re (qr (by cases H;exact pL (rl (s':=KS b2_0_ b6_1_ b9_ o10_ r63.1 r63.2.1 r63.2.2.1 r63.2.2.2) (sg []))))
  ·exact sk (qs (tr (tr (Uu 0 (jb1 hg hc96) (by kernel_rfl)) (Au.nilo 3 1 (by kernel_rfl))) (sg [0,1,3,4])) (hFRb_reading_texts_1x_J1 (r63.2.1,r63.2.2.1,r63.2.2.2) H))
 ·refine gsk hg (.d (.bool false)) (gc 1 r58.2 (pA (en (cn H (λ H=>?_) (λ H=>?_)))))
  ·exact re (qr (by cases H;exact pL (rl (s':=KS b2_0_ b6_1_ b9_ o10_ 0 b4_0_ o7_ o8_) (tr (tr (BI (k:=7) (sz:=1) 3 0 (o7_.map eS) (o7_.length) (by kernel_rfl) Bd leM rfl) (BI (k:=8) (sz:=1) 5 0 (o8_.map eS) (o8_.length) (by kernel_rfl) Bd leM rfl)) (sg [])))))
  ·exact sk (qs (tr (tr (tr (Au.nilo 3 1 (by kernel_rfl)) (BI (k:=7) (sz:=1) 3 0 (o7_.map eS) (o7_.length) (by kernel_rfl) Bd leM rfl)) (BI (k:=8) (sz:=1) 5 0 (o8_.map eS) (o8_.length) (by kernel_rfl) Bd leM rfl)) (sg [0,1,3,4])) (hFRb_reading_texts_1x_J1 (b4_0_,o7_,o8_) H))
end
section
variable (p0_:Ab) (p1_:(List Int)) (p2_:Int)
def JeU:St:=⟨(0,.agg [.d (.int .i64 p0_.Modes),.d (.int .u8 p0_.Accept),.d (.sl (p0_.Rules.map Aq))])::(1,.d (.sl (p1_.map eU8)))::(2,.d (.int .i64 p2_))::[],[]⟩
variable {p0_ p1_ p2_}
theorem Jt {z} (H:G3 n p0_ p1_ p2_=some z):AN Try.prog 43 [.agg (AU p0_),.d (.sl (p1_.map eU8)),.d (.int .i64 p2_)] (.tup [.own 1 (z.1.map eS),.d (.int .i64 z.2)]):=by
 refine fO 35 (JeU p0_ p1_ p2_) Try.func43 (sr (ck 4 (en (sq (sr (ck 2 (en (cn H (λ H=>?_) (λ H=>?_)))))))))
 ·exact sr (ck 2 (en (re (qr (by cases H;exact pr (rT (vs:=[.d (.nil),.d (.int .i64 1)]) [] (t1 (ad vz) (t1 (ad vd) (t0)))))))))
 ·refine sk (qz (sq (sr (ck 1 (bx H λ r64 h208 H=>ca false (Jp h208) (ck 1 (en (cn H (λ H=>?_) (λ H=>?_)))))))))
  ·exact sr (ck 2 (en (re (qr (by cases H;exact pr (rT (vs:=[.d (.nil),.d (.int .i64 0)]) [] (t1 (ad vz) (t1 (ad vd) (t0)))))))))
  ·refine sk (qz (sr (ck 2 (bx H λ r65 h209 H=>lt [] (HS h209) (ck 5 (en (sr (ck 1 (en (sq (sr (ck 1 (bx H λ r66 h210 H=>lt [4,5,6,7] (Gl h210) (en (bk 0 (wsh (tr (CX 2 0 1 (by kernel_rfl)) (CX 8 0 1 (by kernel_rfl))) (bx H λ r67 h211 H=>rf [.ret] [5,6,7,10] [12,9,1,2,3,8,4,10,11,5,6,7] r67.1 (IN h211) rfl (jn H (λ H=>?_) (λ H=>?_)))))))))))))))))))
   ·exact qN (qz (sr (ck 3 (en (re (by cases H;exact pr (rT (vs:=[.osl 14 1 0 (r67.2.2.2.length),.d (.int .i64 0)]) [14] (t1 (ao vo) (t1 (ad vd) (t0))))))))))
   ·refine jr 0 H (λ H=>?_) (λ H=>?_)
    ·exact qR (qr (by cases H;exact pr (rT (vs:=[.osl 13 1 0 (r67.2.2.1.length),.d (.int .i64 r67.2.1)]) [13] (t1 (ao vo) (t1 (ad vd) (t0))))))
    ·cases H
end
section
variable (p0_:(List (List UInt8))) (p1_:(List (List UInt8))) (i_3:Int)
def JeV:St:=⟨(0,.d (.sl (p0_.map eS)))::(1,.d (.sl (p1_.map eS)))::[],[]⟩
def JeW:St:=⟨(0,.d (.sl (p0_.map eS)))::(1,.d (.sl (p1_.map eS)))::(5,.d (.int .i64 i_3))::[],[]⟩
def JeX:St:=⟨[],[]⟩
def Nv:(Unit⊕Bool)->Ex->St->Prop:=xS (xX 0 0 (λ (y:Unit)=>JeX)) (xR ty Try.f45 (λ (y:Bool)=>.d (.bool y)))
def IP:Int->St:=(λ (x:Int)=>JeW p0_ p1_ x)
variable {p0_ p1_ i_3}
theorem HU (x:Int) (z:(Int⊕(Unit⊕Bool))) (H:Fl n p0_ p1_ x=some z):WP (cxk 26 0) (AD Try.f45) [1,1,0,1,0,0] (AG 0 (IP p0_ p1_) (Nv) z) (IP p0_ p1_ x):=by
 revert H
 generalize x=i_3
 intro H
 refine sq (sr (ck 2 (sp (AC eS p0_) (ck 1 (en (cn H (λ H=>?_) (λ H=>?_)))))))
 ·refine sk (qz (sq (bk 1 (sr (ck 2 (bx H λ x57 h212 H=>sp (AJ eS h212) (ck 3 (bx H λ x58 h213 H=>sp (AJ eS h213) (ck 2 (en (cn H (λ H=>?_) (λ H=>?_))))))))))))
  ·exact sr (ck 1 (en (re (qR (qr (by cases H;exact ro rfl rd))))))
  ·exact sk (qN (qz (rz (ck 3 (ae (by cases H;exact og (sg [0,1,5])))))))
 ·exact ex 0 (qx (by cases H;exact xo rfl (sg [])))
theorem Qg {z} (H:HL n p0_ p1_=some z):AN Try.prog 45 [.d (.sl (p0_.map eS)),.d (.sl (p1_.map eS))] (.d (.bool z)):=by
 refine fO 26 (JeV p0_ p1_) Try.func45 (sr (ck 1 (en (sq (sr (ck 1 (sp (AC eS p0_) (ck 1 (sp (AC eS p1_) (ck 1 (en (cn H (λ H=>?_) (λ H=>?_)))))))))))))
 ·exact sr (ck 1 (en (re (qr (by cases H;exact pr rd)))))
 ·refine sk (qz (sq (sr (ck 1 (en (bk 0 (bx H λ y56 h214 H=>?_)))))))
  rcases y56 with y57|y58
  ·exact lX HU h214 (sg [0,1,5]) rfl λ s hE46=>qH (qs (hE46) (sr (ck 1 (en (re (by cases H;exact pr rd))))))
  ·exact lR HU h214 (sg [0,1,5]) rfl λ s hE47=>qR (qr (by cases H;exact pr hE47))
end
section
variable (p0_:Ab) (p1_:(List Int))
def JeY:St:=⟨(0,.agg [.d (.int .i64 p0_.Modes),.d (.int .u8 p0_.Accept),.d (.sl (p0_.Rules.map Aq))])::(1,.d (.sl (p1_.map eU8)))::[],[]⟩
variable {p0_ p1_}
theorem KT {z} (H:Ge n p0_ p1_=some z):AN Try.prog 46 [.agg (AU p0_),.d (.sl (p1_.map eU8))] (.d (.bool z)):=by
 refine fO 21 (JeY p0_ p1_) Try.func46 (sr (ck 2 (en (sq (sr (ck 1 (bx H λ r68 h215 H=>ca false (Jp h215) (ck 1 (en (cn H (λ H=>?_) (λ H=>?_)))))))))))
 ·exact sr (ck 1 (en (re (qr (by cases H;exact pr rd)))))
 ·exact sk (qz (sr (ck 1 (bx H λ r69 h216 H=>lt [] (JV h216) (ck 1 (bx H λ r70 h217 H=>lt [1,2] (Hi h217) (tb (f:=G7 (DL [1,2] 3 2)) [some (.box (AU p0_)),some (.box (Ai r69 (.osl 2 1 0 (r69.Accepts.length)))),some (.arr 1 (r69.Accepts.map eB)),some (.narr 1 (r70.1.map (eTg 1 Av)))] (po1 (po1 (po1 (pn1 (eTg 1 Av) r70.1 (Pl.z))))) (ck 5 (en (sr (ck 2 (sp (AC eU8 p1_) (ck 2 (en (re (by cases H;exact pr rd))))))))))))))))
end
def JeZ:St:=⟨[],[]⟩
theorem Q6 {z} (H:Hf n=some z):AN Try.prog 39 [] (.d (.bool z)):=by
 exact fO 119 JeZ Try.func39 (sr (ck 1 (en (sr (bx H λ r71 h218 H=>ca false (Q3 h218) (ck 2 (en (sr (ck 2 (bx H λ r72 h219 H=>cb (ks:=[1]) (obl:=[(0+List.length [1,3],List.length (List.map eU8 [1,3]))]) false (leK leM (leZ)) (DF rfl (DF MH rfl)) (HT h219) (Or.inr ⟨trivial,⟨trivial,⟨trivial,trivial⟩⟩⟩) rfl (ck 7 (en (sr (ck 2 (bx H λ r73 h220 H=>cb (ks:=[2]) (obl:=[(0+List.length [1,5],List.length (List.map eU8 [1,5]))]) false (leK leM (leZ)) (DF rfl (DF MH rfl)) (HT h220) (Or.inr ⟨trivial,⟨trivial,⟨trivial,trivial⟩⟩⟩) rfl (ck 7 (en (sr (ck 1 (bx H λ r74 h221 H=>ca false (HT h221) (ck 7 (en (sr (ck 2 (bx H λ r75 h222 H=>cb (ks:=[3]) (obl:=[(0+List.length [1,1],List.length (List.map eU8 [1,1]))]) false (leK leM (leZ)) (DF rfl (DF MH (DF rfl rfl))) (Jt h222) (Or.inr ⟨(JgF λ _=>rfl),⟨trivial,trivial⟩⟩) rfl (ck 5 (en (sr (ck 2 (bx H λ r76 h223 H=>cb (ks:=[4]) (obl:=[(0+List.length [1,1],List.length (List.map eU8 [1,1]))]) false (leK leM (leZ)) (DF rfl (DF MH (DF rfl rfl))) (Jt h223) (Or.inr ⟨(JgF λ _=>rfl),⟨trivial,trivial⟩⟩) rfl (ck 5 (en (sr (ck 1 (bx H λ r77 h224 H=>ca false (Jt h224) (ck 5 (en (sr (ck 4 (gc 1 (r72.2.2==0) (pA (ck 2 (gc 1 ((r72.2.2==0)&&(r73.2.2==40)) (pA (ck 2 (gc 1 (((r72.2.2==0)&&(r73.2.2==40))&&(r74.2.2==0)) (pA (ck 2 (gc 1 ((((r72.2.2==0)&&(r73.2.2==40))&&(r74.2.2==0))&&(r75.2==0)) (pA (ck 2 (gc 1 (((((r72.2.2==0)&&(r73.2.2==40))&&(r74.2.2==0))&&(r75.2==0))&&(r76.2==2)) (pA (ck 1 (en (sr (ck 3 (gc 1 ((((((r72.2.2==0)&&(r73.2.2==40))&&(r74.2.2==0))&&(r75.2==0))&&(r76.2==2))&&(r77.2==1)) (pA (ck 2 (gc 1 (((((((r72.2.2==0)&&(r73.2.2==40))&&(r74.2.2==0))&&(r75.2==0))&&(r76.2==2))&&(r77.2==1))&&(r72.1==[97,98])) (pA (ck 2 (gc 1 ((((((((r72.2.2==0)&&(r73.2.2==40))&&(r74.2.2==0))&&(r75.2==0))&&(r76.2==2))&&(r77.2==1))&&(r72.1==[97,98]))&&(r72.2.1==2)) (pA (ck 2 (gc 1 (((((((((r72.2.2==0)&&(r73.2.2==40))&&(r74.2.2==0))&&(r75.2==0))&&(r76.2==2))&&(r77.2==1))&&(r72.1==[97,98]))&&(r72.2.1==2))&&(r73.1==[])) (pA (ck 2 (gc 1 ((((((((((r72.2.2==0)&&(r73.2.2==40))&&(r74.2.2==0))&&(r75.2==0))&&(r76.2==2))&&(r77.2==1))&&(r72.1==[97,98]))&&(r72.2.1==2))&&(r73.1==[]))&&(r73.2.1==1)) (pA (ck 2 (gc 1 (((((((((((r72.2.2==0)&&(r73.2.2==40))&&(r74.2.2==0))&&(r75.2==0))&&(r76.2==2))&&(r77.2==1))&&(r72.1==[97,98]))&&(r72.2.1==2))&&(r73.1==[]))&&(r73.2.1==1))&&(r74.1==[])) (pA (ck 3 (bx H λ r78 h225 H=>cG (ks:=[5]) (obl:=[(0+List.length ([[97,97],[97,98,97],[98,97,97],[98,97,98,97]]),List.length (List.map eS ([[97,97],[97,98,97],[98,97,97],[98,97,98,97]])))]) false (leK leM (leZ)) (DF rfl (DF MH rfl)) (λ hg=>Qg (DH h225 hg)) (Or.inr trivial) (CL (λ hh=>hh) (CL (λ hh=>hh) (Fd))) rfl (pA (ck 3 (bx H λ r79 h226 H=>cG (ks:=[6]) (obl:=[(0+List.length [7,7],List.length (List.map eU8 [7,7]))]) false (leK leM (leZ)) (DF rfl (DF MH rfl)) (λ hg=>KT (DH h226 hg)) (Or.inr trivial) (CL (λ hh=>hh) (CL (λ hh=>hh) (Fd))) rfl (pA (ck 3 (bx H λ r80 h227 H=>cG (ks:=[7]) (obl:=[(0+List.length [2],List.length (List.map eU8 [2]))]) false (leK leM (leZ)) (DF rfl (DF MH rfl)) (λ hg=>KT (DH h227 hg)) (Or.inr trivial) (CL (λ hh=>hh) (CL (λ hh=>hh) (Fd))) rfl (gc 1 ((((((((((((((r72.2.2==0)&&(r73.2.2==40))&&(r74.2.2==0))&&(r75.2==0))&&(r76.2==2))&&(r77.2==1))&&(r72.1==[97,98]))&&(r72.2.1==2))&&(r73.1==[]))&&(r73.2.1==1))&&(r74.1==[]))&&(r74.2.1==0))&&r78)&&r79) (pA (ck 1 (en (re (by cases H;exact pr rd))))))))))))))))))))))))))))))))))))))))))))))))))))))))))))))))))))))))))))))))))))))))
section
variable (p0_:(List UInt8)) (p1_:(List Int)) (p2_:(Fe Int))
def Je0:St:=⟨(0,.d (.str p0_))::(1,.d (.sl (p1_.map eU8)))::(2,.agg [.d (.int .i64 p2_.a0),.d (.int .i64 p2_.a1)])::[],[]⟩
variable {p0_ p1_ p2_}
theorem AK {z} (H:A2 n p0_ p1_ p2_=some z):AN Try.prog 68 [.d (.str p0_),.d (.sl (p1_.map eU8)),.agg [.d (.int .i64 p2_.a0),.d (.int .i64 p2_.a1)]] (.agg [.d (.str z.Print),.d (.sl (z.Cells.map eU8)),.d (.int .u8 z.Left),.d (.int .u8 z.Right),.d (.int .i64 z.From),.d (.int .i64 z.To)]):=by
 exact fO 14 (Je0 p0_ p1_ p2_) Try.func68 (sr (ck 2 (en (sr (ck 8 (en (re (by cases H;exact pr rd))))))))
end
def Je1:St:=⟨[],[]⟩
theorem Qh {z} (H:N6 n=some z):AN Try.prog 66 [] (.own 6 (z.map Aq)):=by
 exact fO 16 Je1 Try.func66 (sr (ck 1 (en (sr (ck 3 (en (sr (sF (ck 1 (bx H λ r81 h228 H=>ca false (AK h228) (sF (ck 1 (bx H λ r82 h229 H=>ca false (AK h229) (sF (ck 1 (bx H λ r83 h230 H=>ca false (AK h230) (sF (ck 1 (bx H λ r84 h231 H=>ca false (AK h231) (ck 2 (en (re (by cases H;exact pr (rO (v:=.osl 1 6 0 (List.length [r81,r82,r83,r84])) [1] (ao vo)))))))))))))))))))))))))
section
variable (p0_:Int) (p1_:Int) (p2_:(Fe Int))
def Je2:St:=⟨(0,.d (.int .u8 p0_))::(1,.d (.int .i64 p1_))::(2,.agg [.d (.int .i64 p2_.a0),.d (.int .i64 p2_.a1)])::[],[]⟩
variable {p0_ p1_ p2_}
theorem FQ {z} (H:F4 n p0_ p1_ p2_=some z):AN Try.prog 67 [.d (.int .u8 p0_),.d (.int .i64 p1_),.agg [.d (.int .i64 p2_.a0),.d (.int .i64 p2_.a1)]] (.agg [.d (.str z.Print),.d (.sl (z.Cells.map eU8)),.d (.int .u8 z.Left),.d (.int .u8 z.Right),.d (.int .i64 z.From),.d (.int .i64 z.To)]):=by
 exact fO 16 (Je2 p0_ p1_ p2_) Try.func67 (sr (ck 2 (en (sr (ck 1 (sF (ck 1 (bx H λ r85 h232 H=>ca false (AK h232) (ck 2 (en (sr (ck 1 (bx H λ gd3 h233 H=>so (Iw h233) (ck 2 (en (sr (ck 2 (en (re (by cases H;exact pr rd))))))))))))))))))))
end
section
variable (p0_:Int) (l_7:(List As))
def Je3:St:=⟨(0,.d (.int .u8 p0_))::[],[]⟩
def Je4:St:=⟨(2,.ptr 0 0)::(3,.osl 1 6 0 (l_7.length))::[],[some (.box [.d (.int .i64 0),.d (.int .u8 0),.osl 2 6 0 (List.length ([]:List As))]),some (.arr 6 (l_7.map Aq)),some (.arr 6 (List.map Aq ([]:List As)))]⟩
variable {p0_ l_7}
theorem UC {z} (H:ID n p0_=some z):AN Try.prog 50 [.d (.int .u8 p0_)] (.agg [.d (.int .i64 z.Modes),.d (.int .u8 z.Accept),.own 6 (z.Rules.map Aq)]):=by
 refine fO 121 (Je3 p0_) Try.func50 (sr (ck 1 (en (sr (bx H λ r86 h234 H=>cl [List.length r86] (Qh h234) (ck 13 (en (sj (λ (x:(List As))=>Je4 x) (λ (x:(List As))=>E2 n x) z ?_ (λ hFR2_Base_J1=>?_)))))))))
 ·intro l_7 H
  exact sr (ck 3 (en (re (by cases H;exact pr (rO (v:=.agg [.d (.int .i64 1),.d (.int .u8 1),.osl 1 6 0 (l_7.length)]) [1] (a1 (c1 vd (c1 vd (c1 vo (c0))))))))))
 refine sr (ck 2 (en (bk 0 (sr (ck 2 (en (cn H (λ H=>?_) (λ H=>?_))))))))
 ·exact sr (ck 2 (bx H λ r87 h235 H=>ca false (FQ h235) (sF (ck 1 (bx H λ r88 h236 H=>ca false (AK h236) (sF (ck 1 (bx H λ r89 h237 H=>ca false (AK h237) (sF (ck 1 (bx H λ r90 h238 H=>ca false (AK h238) (ck 1 (bx H λ l41 h239 H=>sp (Bn Aq 1 6 h239) (ck 1 (en (sr (ck 3 (en (re (qR (qr (by cases H;exact pr (rO (v:=.agg [.d (.int .i64 2),.d (.int .u8 3),.osl 7 6 0 (l41.length)]) [7] (a1 (c1 vd (c1 vd (c1 vo (c0))))))))))))))))))))))))))))
 ·refine sr (ck 2 (en (cn H (λ H=>?_) (λ H=>?_))))
  ·exact sr (ck 2 (bx H λ r91 h240 H=>ca false (FQ h240) (sF (ck 1 (bx H λ r92 h241 H=>ca false (AK h241) (sF (ck 1 (bx H λ r93 h242 H=>ca false (AK h242) (ck 1 (bx H λ l42 h243 H=>sp (Bn Aq 1 6 h243) (ck 1 (en (sr (ck 3 (en (re (qR (qr (by cases H;exact pr (rO (v:=.agg [.d (.int .i64 2),.d (.int .u8 1),.osl 7 6 0 (l42.length)]) [7] (a1 (c1 vd (c1 vd (c1 vo (c0)))))))))))))))))))))))))
  ·refine sr (ck 2 (en (cn H (λ H=>?_) (λ H=>?_))))
   ·exact rz (ck 1 (sF (ck 1 (bx H λ r94 h244 H=>ca false (AK h244) (sF (ck 1 (bx H λ r95 h245 H=>ca false (AK h245) (sF (ck 1 (bx H λ r96 h246 H=>ca false (AK h246) (ck 1 (bx H λ l43 h247 H=>sp (Bn Aq 1 6 h247) (ck 1 (ae (qN (qs (tr (CX 0 2 6 (by kernel_rfl)) (sg [2,3])) (hFR2_Base_J1 l43 H)))))))))))))))))
   ·refine sr (ck 2 (en (cn H (λ H=>?_) (λ H=>?_))))
    ·exact rz (ck 1 (sF (ck 1 (bx H λ r97 h248 H=>ca false (AK h248) (ck 1 (bx H λ l44 h249 H=>sp (Bn Aq 1 6 h249) (ck 1 (ae (qN (qs (tr (CX 0 2 6 (by kernel_rfl)) (sg [2,3])) (hFR2_Base_J1 l44 H)))))))))))
    ·refine sr (ck 2 (en (cn H (λ H=>?_) (λ H=>?_))))
     ·exact sr (sF (ck 1 (bx H λ r98 h250 H=>ca false (AK h250) (sF (ck 1 (bx H λ r99 h251 H=>ca false (AK h251) (ck 4 (en (sr (ck 4 (en (rz (ck 3 (sF (ck 1 (bx H λ r100 h252 H=>ca false (AK h252) (ck 1 (bx H λ l45 h253 H=>sp (Bn Aq 1 6 h253) (ck 1 (ae (qN (qs (tr (CX 0 2 6 (by kernel_rfl)) (sg [2,3])) (hFR2_Base_J1 l45 H)))))))))))))))))))))))
     ·refine sr (ck 2 (en (cn H (λ H=>?_) (λ H=>?_))))
      ·exact sr (ck 2 (bx H λ r101 h254 H=>ca false (FQ h254) (sF (ck 1 (bx H λ r102 h255 H=>ca false (AK h255) (sF (ck 1 (bx H λ r103 h256 H=>ca false (AK h256) (ck 1 (bx H λ l46 h257 H=>sp (Bn Aq 1 6 h257) (ck 1 (en (sr (ck 3 (en (re (qR (qr (by cases H;exact pr (rO (v:=.agg [.d (.int .i64 2),.d (.int .u8 1),.osl 7 6 0 (l46.length)]) [7] (a1 (c1 vd (c1 vd (c1 vo (c0)))))))))))))))))))))))))
      ·refine sr (ck 2 (en (cn H (λ H=>?_) (λ H=>?_))))
       ·exact rz (ck 1 (sF (ck 1 (bx H λ r104 h258 H=>ca false (AK h258) (sF (ck 1 (bx H λ r105 h259 H=>ca false (AK h259) (sF (ck 1 (bx H λ r106 h260 H=>ca false (AK h260) (ck 1 (bx H λ l47 h261 H=>sp (Bn Aq 1 6 h261) (ck 1 (ae (qN (qs (tr (CX 0 2 6 (by kernel_rfl)) (sg [2,3])) (hFR2_Base_J1 l47 H)))))))))))))))))
       ·exact sk (qN (qs (tr (CX 0 2 6 (by kernel_rfl)) (sg [2,3])) (hFR2_Base_J1 r86 H)))
end
section
variable (p0_:Db) (p1_:Int) (out_1:As) (i_4:Int) (out_2:As) (out_3:As) (i_5:Int) (out_4:As)
def Je5:St:=⟨(0,.agg [.d (.sl (p0_.P.map eU8)),.d (.sl (p0_.C.map eU8)),.d (.int .u8 p0_.L),.d (.int .u8 p0_.R),.d (.int .u8 p0_.W.a0),.d (.int .u8 p0_.W.a1)])::(1,.d (.int .i64 p1_))::[],[]⟩
def Je6:St:=⟨(2,.ptr 0 0)::(4,.ptr 1 0)::(5,.d (.str [97,98,99,65,66,49,50,45,46]))::(7,.ptr 2 0)::(8,.d (.int .i64 i_4))::[],[some (.box (MO p0_)),some (.box [.d (.str []),.osl 3 1 0 (List.length ([]:List Int)),.d (.int .u8 0),.d (.int .u8 0),.d (.int .i64 0),.d (.int .i64 0)]),some (.box (O2 out_1 (.osl 4 1 0 (out_1.Cells.length)))),some (.arr 1 (List.map eU8 ([]:List Int))),some (.arr 1 (out_1.Cells.map eU8))]⟩
def Je7:St:=⟨(2,.ptr 0 0)::(4,.ptr 1 0)::(7,.ptr 2 0)::[],[some (.box (MO p0_)),some (.box [.d (.str []),.osl 3 1 0 (List.length ([]:List Int)),.d (.int .u8 0),.d (.int .u8 0),.d (.int .i64 0),.d (.int .i64 0)]),some (.box (O2 out_2 (.osl 4 1 0 (out_2.Cells.length)))),some (.arr 1 (List.map eU8 ([]:List Int))),some (.arr 1 (out_2.Cells.map eU8))]⟩
def Q7:As->Ex->St->Prop:=xX 0 0 (λ (y:As)=>Je7 p0_ y)
def LI:(As×Int)->St:=(λ (x:(As×Int))=>Je6 p0_ x.1 x.2)
def Je8:St:=⟨(2,.ptr 0 0)::(4,.ptr 1 0)::(7,.ptr 2 0)::(10,.osl 3 1 0 (List.length [1,3,9,5,7,32,44,60]))::(11,.d (.int .i64 i_5))::[],[some (.box (MO p0_)),some (.box [.d (.str []),.osl 4 1 0 (List.length ([]:List Int)),.d (.int .u8 0),.d (.int .u8 0),.d (.int .i64 0),.d (.int .i64 0)]),some (.box (O2 out_3 (.osl 5 1 0 (out_3.Cells.length)))),some (.arr 1 (List.map eU8 [1,3,9,5,7,32,44,60])),some (.arr 1 (List.map eU8 ([]:List Int))),some (.arr 1 (out_3.Cells.map eU8))]⟩
def Je9:St:=⟨(4,.ptr 0 0)::(7,.ptr 1 0)::[],[some (.box [.d (.str []),.osl 2 1 0 (List.length ([]:List Int)),.d (.int .u8 0),.d (.int .u8 0),.d (.int .i64 0),.d (.int .i64 0)]),some (.box (O2 out_4 (.osl 3 1 0 (out_4.Cells.length)))),some (.arr 1 (List.map eU8 ([]:List Int))),some (.arr 1 (out_4.Cells.map eU8))]⟩
def Q8:As->Ex->St->Prop:=xX 0 2 (λ (y:As)=>Je9 y)
def LJ:(As×Int)->St:=(λ (x:(As×Int))=>Je8 p0_ x.1 x.2)
variable {p0_ p1_ out_1 i_4 out_2 out_3 i_5 out_4}
theorem Qi (x:(As×Int)) (z:((As×Int)⊕As)) (H:E3 n p0_ x.1 x.2=some z):WP (cxk 101 0) (AD Try.f37) [1,1,1,0,1,0,0] (AG 0 (LI p0_) (Q7 p0_) z) (LI p0_ x):=by
 obtain ⟨out_1,i_4⟩:=x
 refine sq (sr (ck 3 (sp (AC eU8 p0_.P) (ck 3 (gc 1 (decide (i_4<((p0_.P.length:Nat):Int))) (pA (en (cn H (λ H=>?_) (λ H=>?_)))))))))
 ·exact sk (qz (sq (bk 1 (sr (ck 3 (bx H λ x61 h266 H=>sp (AJ eU8 h266) (ck 4 (en (rz (ck 6 (bx H λ s5 h267 H=>sp (WC h267) (bx H λ s6 h268 H=>sp (JdJ h268) (ck 2 (ae (qN (qz (rz (ck 3 (ae (by cases H;exact og (sg [2,4,5,7,8])))))))))))))))))))))
 ·exact ex 0 (qx (by cases H;exact xo rfl (sg [2,4,7])))
theorem Qj (x:(As×Int)) (z:((As×Int)⊕As)) (H:E4 n p0_ x.1 x.2=some z):WP (cxk 101 0) (AD Try.f37) [1,1,1,1,1,1,0,1,0,0] (AG 0 (LJ p0_) (Q8) z) (LJ p0_ x):=by
 obtain ⟨out_3,i_5⟩:=x
 refine sq (sr (ck 3 (sp (AC eU8 p0_.C) (ck 3 (gc 1 (decide (i_5<((p0_.C.length:Nat):Int))) (pA (en (cn H (λ H=>?_) (λ H=>?_)))))))))
 ·exact sk (qz (sq (bk 3 (rz (ck 6 (bx H λ x63 h271 H=>sp (AJ eU8 h271) (ck 2 (bx H λ x64 h272 H=>sp (A9 3 1 h272) (sp (Da eU8 3 0 (ty 64) h272) (ck 1 (bx H λ l48 h273 H=>sp (Bn eU8 5 1 h273) (ck 2 (ae (qN (qz (rz (ck 3 (ae (by cases H;exact og (sg [2,4,7,10,11]))))))))))))))))))))
 ·exact ex 2 (qx (by cases H;exact xo rfl (sg [4,7])))
theorem UD {z} (H:MM n p0_ p1_=some z):AN Try.prog 37 [.agg (MO p0_),.d (.int .i64 p1_)] (.agg [.d (.str z.Print),.own 1 (z.Cells.map eU8),.d (.int .u8 z.Left),.d (.int .u8 z.Right),.d (.int .i64 z.From),.d (.int .i64 z.To)]):=by
 exact fO 101 (Je5 p0_ p1_) Try.func37 (sr (ck 2 (en (sr (ck 3 (en (sr (ck 4 (bx H λ x59 h262 H=>sp (A9 2 1 h262) (sp (Da eU8 2 0 (ty 5) h262) (ck 4 (bx H λ x60 h263 H=>sp (A9 2 1 h263) (sp (Da eU8 2 0 (ty 5) h263) (ck 5 (bx H λ gd4 h264 H=>so (PX h264) (ck 5 (bx H λ gd5 h265 H=>so (PX h265) (ck 3 (en (sq (sr (ck 1 (en (bk 0 (bx H λ y59 h269 H=>lX Qi h269 (tr (tr (CX 1 1 1 (by kernel_rfl)) (CX 3 1 1 (by kernel_rfl))) (sg [2,4,5,7,8])) rfl λ s hE48=>qH (qs (hE48) (sr (ck 2 (en (sr (ck 5 (bx H λ x62 h270 H=>sp (A9 5 1 h270) (sp (Da eU8 5 0 (ty 64) h270) (ck 3 (en (sq (sr (ck 1 (en (bk 2 (bx H λ y60 h274 H=>lX Qj h274 (sg [2,4,7,10,11]) rfl λ s hE49=>qH (qs (hE49) (sr (ck 2 (en (re (by cases H;exact pr (rO (v:=.agg [.d (.str z.Print),.osl 3 1 0 (z.Cells.length),.d (.int .u8 z.Left),.d (.int .u8 z.Right),.d (.int .i64 z.From),.d (.int .i64 z.To)]) [3] (a1 (c1 vd (c1 vo (c1 vd (c1 vd (c1 vd (c1 vd (c0))))))))))))))))))))))))))))))))))))))))))))))))))))))))
end
section
variable (p0_:Int)
def Jfa:St:=⟨(0,.d (.int .u8 p0_))::[],[]⟩
variable {p0_}
theorem Nw {z} (H:H7 n p0_=some z):AN Try.prog 69 [.d (.int .u8 p0_)] (.d (.bool z)):=by
 exact fO 11 (Jfa p0_) Try.func69 (sr (ck 1 (en (sr (ck 5 (gc 2 (decide (Cn .u8 p0_ 127>=32)) (pA (ck 1 (en (re (by cases H;exact pr rd)))))))))))
end
section
variable (p0_:(List UInt8)) (i_6:Int)
def Jfb:St:=⟨(0,.d (.str p0_))::[],[]⟩
def Jfc:St:=⟨(0,.d (.str p0_))::(4,.d (.int .i64 i_6))::[],[]⟩
def Jfd:St:=⟨(0,.d (.str p0_))::[],[]⟩
def Q9:(Unit⊕(Int×Int))->Ex->St->Prop:=xS (xX 0 0 (λ (y:Unit)=>Jfd p0_)) (xR ty Try.f56 (λ (y:(Int×Int))=>.tup [.d (.int .i64 y.1),.d (.int .i64 y.2)]))
def LK:Int->St:=(λ (x:Int)=>Jfc p0_ x)
variable {p0_ i_6}
theorem KU (x:Int) (z:(Int⊕(Unit⊕(Int×Int)))) (H:HM n p0_ x=some z):WP (cxk 19 0) (AD Try.f56) [1,0,1,0,0] (AG 0 (LK p0_) (Q9 p0_) z) (LK p0_ x):=by
 revert H
 generalize x=i_6
 intro H
 refine sq (sr (ck 4 (en (cn H (λ H=>?_) (λ H=>?_)))))
 ·refine sk (qz (sq (bk 1 (sr (ck 2 (bx H λ b8 h275 H=>sp (FY h275) (bx H λ r107 h276 H=>ca false (Nw h276) (ck 1 (en (cn H (λ H=>?_) (λ H=>?_)))))))))))
  ·exact sr (ck 3 (en (re (qR (qr (by cases H;exact ro rfl rdT))))))
  ·exact sk (qN (qz (rz (ck 3 (ae (by cases H;exact og (sg [0,4])))))))
 ·exact ex 0 (qx (by cases H;exact xo rfl (sg [0])))
theorem UE {z} (H:MN n p0_=some z):AN Try.prog 56 [.d (.str p0_)] (.tup [.d (.int .i64 z.1),.d (.int .i64 z.2)]):=by
 refine fO 19 (Jfb p0_) Try.func56 (sr (ck 2 (en (sq (sr (ck 1 (en (bk 0 (bx H λ y61 h277 H=>?_)))))))))
 rcases y61 with y62|y63
 ·exact lX KU h277 (sg [0,4]) rfl λ s hE50=>qH (qs (hE50) (sr (ck 4 (en (re (by cases H;exact pr rdT))))))
 ·exact lR KU h277 (sg [0,4]) rfl λ s hE51=>qR (qr (by cases H;exact pr hE51))
end
section
variable (p0_:(List UInt8))
def Jfe:St:=⟨(0,.d (.str p0_))::[],[]⟩
variable {p0_}
theorem Ra {z} (H:Jl n p0_=some z):AN Try.prog 36 [.d (.str p0_)] (.d (.bool z)):=by
 exact fO 12 (Jfe p0_) Try.func36 (sr (ck 1 (en (sr (ck 1 (bx H λ r108 h278 H=>ca false (UE h278) (ck 5 (en (sr (ck 3 (en (re (by cases H;exact pr rd)))))))))))))
end
section
variable (p0_:Int)
def Jff:St:=⟨(0,.d (.int .u8 p0_))::[],[]⟩
variable {p0_}
theorem SW {z} (H:Np n p0_=some z):AN Try.prog 35 [.d (.int .u8 p0_)] (.d (.bool z)):=by
 exact fO 6 (Jff p0_) Try.func35 (sr (ck 1 (en (sr (ck 4 (en (re (by cases H;exact pr rd))))))))
end
section
variable (p0_:As) (p1_:Int) (space_1:Bool) (i_7:Int) (space_2:Bool) (y64:Bool) (blank_1:Bool) (i_8:Int) (blank_2:Bool)
def Jfg:St:=⟨(0,.agg [.d (.str p0_.Print),.d (.sl (p0_.Cells.map eU8)),.d (.int .u8 p0_.Left),.d (.int .u8 p0_.Right),.d (.int .i64 p0_.From),.d (.int .i64 p0_.To)])::(1,.d (.int .i64 p1_))::[],[]⟩
def Jfh:St:=⟨(2,.ptr 0 0)::(5,.d (.bool space_1))::(6,.d (.bool false))::(7,.d (.int .i64 i_7))::[],[some (.box (Ky p0_))]⟩
def Jfi:St:=⟨(2,.ptr 0 0)::(5,.d (.bool space_2))::(6,.d (.bool false))::[],[some (.box (Ky p0_))]⟩
def Qk:Bool->Ex->St->Prop:=xX 0 0 (λ (y:Bool)=>Jfi p0_ y)
def KW:(Bool×Int)->St:=(λ (x:(Bool×Int))=>Jfh p0_ x.1 x.2)
def Jfj:St:=⟨(2,.ptr 0 0)::(5,.d (.bool y64))::(6,.d (.bool blank_1))::(8,.d (.int .i64 i_8))::[],[some (.box (Ky p0_))]⟩
def Jfk:St:=⟨(2,.ptr 0 0)::(5,.d (.bool y64))::(6,.d (.bool blank_2))::[],[some (.box (Ky p0_))]⟩
def Ql:(Bool⊕Bool)->Ex->St->Prop:=xS (xX 0 2 (λ (y:Bool)=>Jfk p0_ y64 y)) (xR ty Try.f70 (λ (y:Bool)=>.d (.bool y)))
def KX:(Bool×Int)->St:=(λ (x:(Bool×Int))=>Jfj p0_ y64 x.1 x.2)
variable {p0_ p1_ space_1 i_7 space_2 y64 blank_1 i_8 blank_2}
theorem Ov (x:(Bool×Int)) (z:((Bool×Int)⊕Bool)) (H:D8 n p0_ x.1 x.2=some z):WP (cxk 125 0) (AD Try.f70) [1,1,1,1,0,1,0,0] (AG 0 (KW p0_) (Qk p0_) z) (KW p0_ x):=by
 obtain ⟨space_1,i_7⟩:=x
 refine sq (sr (ck 5 (en (cn H (λ H=>?_) (λ H=>?_)))))
 ·exact sk (qz (sq (bk 1 (rz (ck 3 (gc 1 (!space_1) (ck 1 (bx H λ b9 h280 H=>sE (λ hg=>FY (DH h280 hg)) (bx H λ r110 h281 H=>cG false (leZ) rfl (λ hg=>SW (DH h281 hg)) (Or.inl rfl) (CL (λ hh=>hh) (Fd)) rfl (pO (ck 1 (ae (qN (qz (rz (ck 3 (ae (by cases H;exact og (sg [2,5,6,7])))))))))))))))))))
 ·exact ex 0 (qx (by cases H;exact xo rfl (sg [2,5,6])))
theorem JW (x:(Bool×Int)) (z:((Bool×Int)⊕(Bool⊕Bool))) (H:Dl n p0_ y64 x.1 x.2=some z):WP (cxk 125 0) (AD Try.f70) [1,1,1,1,1,0,1,0,0] (AG 0 (KX p0_ y64) (Ql p0_ y64) z) (KX p0_ y64 x):=by
 obtain ⟨blank_1,i_8⟩:=x
 refine sq (sr (ck 3 (sp (AC eU8 p0_.Cells) (ck 1 (en (cn H (λ H=>?_) (λ H=>?_)))))))
 ·refine sk (qz (sq (bk 3 (sq (sr (ck 3 (bx H λ x65 h283 H=>sp (AJ eU8 h283) (ck 2 (en (cn H (λ H=>?_) (λ H=>?_)))))))))))
  ·exact sr (ck 1 (en (re (qr (qR (qr (by cases H;exact ro rfl rd)))))))
  ·exact sk (qz (rz (ck 3 (gc 1 (!blank_1) (ck 1 (bx H λ x66 h284 H=>sE (λ hg=>AJ eU8 (DH h284 hg)) (gc 2 (!blank_1) (pO (ck 1 (ae (qN (qz (rz (ck 3 (ae (by cases H;exact og (sg [2,5,6,8])))))))))))))))))
 ·exact ex 2 (qx (by cases H;exact xo rfl (sg [2,5,6])))
theorem SX {z} (H:Ln n p0_ p1_=some z):AN Try.prog 70 [.agg (Ky p0_),.d (.int .i64 p1_)] (.d (.bool z)):=by
 refine fO 125 (Jfg p0_ p1_) Try.func70 (sr (ck 2 (en (sq (sr (ck 2 (bx H λ r109 h279 H=>ca false (Ra h279) (ck 3 (gc 3 (!(!r109)) (pO (ck 2 (gc 1 (!((!r109)||(decide (((p0_.Print.length:Nat):Int)>4)))) (sE (g:=(!((!r109)||(decide (((p0_.Print.length:Nat):Int)>4))))) (λ hg=>AC eU8 p0_.Cells) (gc 1 (!((!r109)||(decide (((p0_.Print.length:Nat):Int)>4)))) (pO (ck 2 (gc 1 (!(((!r109)||(decide (((p0_.Print.length:Nat):Int)>4)))||(decide (((p0_.Cells.length:Nat):Int)<1)))) (sE (g:=(!(((!r109)||(decide (((p0_.Print.length:Nat):Int)>4)))||(decide (((p0_.Cells.length:Nat):Int)<1))))) (λ hg=>AC eU8 p0_.Cells) (gc 1 (!(((!r109)||(decide (((p0_.Print.length:Nat):Int)>4)))||(decide (((p0_.Cells.length:Nat):Int)<1)))) (pO (en (cn H (λ H=>?_) (λ H=>?_)))))))))))))))))))))))
 ·exact sr (ck 1 (en (re (qr (by cases H;exact pr rd)))))
 ·refine sk (qz (sq (sr (ck 5 (gc 2 (!(decide (p0_.Left<1))) (pO (ck 2 (gc 2 (!((decide (p0_.Left<1))||(decide (p0_.Left>63)))) (pO (ck 2 (gc 2 (!(((decide (p0_.Left<1))||(decide (p0_.Left>63)))||(decide (p0_.Right<1)))) (pO (ck 2 (gc 2 (!((((decide (p0_.Left<1))||(decide (p0_.Left>63)))||(decide (p0_.Right<1)))||(decide (p0_.Right>63)))) (pO (ck 2 (gc 1 (!(((((decide (p0_.Left<1))||(decide (p0_.Left>63)))||(decide (p0_.Right<1)))||(decide (p0_.Right>63)))||(decide (p0_.From<0)))) (ck 1 (gc 1 (!(((((decide (p0_.Left<1))||(decide (p0_.Left>63)))||(decide (p0_.Right<1)))||(decide (p0_.Right>63)))||(decide (p0_.From<0)))) (pO (ck 2 (gc 2 (!((((((decide (p0_.Left<1))||(decide (p0_.Left>63)))||(decide (p0_.Right<1)))||(decide (p0_.Right>63)))||(decide (p0_.From<0)))||(decide (p0_.From>=p1_)))) (pO (ck 2 (gc 1 (!(((((((decide (p0_.Left<1))||(decide (p0_.Left>63)))||(decide (p0_.Right<1)))||(decide (p0_.Right>63)))||(decide (p0_.From<0)))||(decide (p0_.From>=p1_)))||(decide (p0_.To<0)))) (ck 1 (gc 1 (!(((((((decide (p0_.Left<1))||(decide (p0_.Left>63)))||(decide (p0_.Right<1)))||(decide (p0_.Right>63)))||(decide (p0_.From<0)))||(decide (p0_.From>=p1_)))||(decide (p0_.To<0)))) (pO (en (cn H (λ H=>?_) (λ H=>?_)))))))))))))))))))))))))))))))
  ·exact sr (ck 1 (en (re (qr (by cases H;exact pr rd)))))
  ·refine sk (qz (sr (ck 2 (en (sq (sr (ck 1 (en (bk 0 (bx H λ y64 h282 H=>lX Ov h282 (sg [2,5,6,7]) rfl λ s hE52=>qH (qs (hE52) (sq (sr (ck 1 (en (bk 2 (bx H λ y65 h285 H=>?_)))))))))))))))))
   rcases y65 with y66|y67
   ·refine lX JW h285 (sg [2,5,6,8]) rfl λ s hE53=>qH (qs (hE53) (sq (sr (ck 2 (en (cn H (λ H=>?_) (λ H=>?_)))))))
    ·exact sr (ck 3 (en (re (qr (by cases H;exact pr rd)))))
    ·exact sk (qz (sr (ck 6 (gc 1 (((p0_.Print.length:Nat):Int)==1) (sE (g:=(((p0_.Print.length:Nat):Int)==1)) (λ hg=>AC eU8 p0_.Cells) (gc 1 (((p0_.Print.length:Nat):Int)==1) (pA (ck 2 (pA (ck 1 (en (re (by cases H;exact pr rd)))))))))))))
   ·exact lR JW h285 (sg [2,5,6,8]) rfl λ s hE54=>qR (qr (by cases H;exact pr hE54))
end
section
variable (p0_:(List Int)) (p1_:(List Int)) (i_9:Int)
def Jfl:St:=⟨(0,.d (.sl (p0_.map eU8)))::(1,.d (.sl (p1_.map eU8)))::[],[]⟩
def Jfm:St:=⟨(0,.d (.sl (p0_.map eU8)))::(1,.d (.sl (p1_.map eU8)))::(5,.d (.int .i64 i_9))::[],[]⟩
def Jfn:St:=⟨[],[]⟩
def L8:(Unit⊕Bool)->Ex->St->Prop:=xS (xX 0 0 (λ (y:Unit)=>Jfn)) (xR ty Try.f49 (λ (y:Bool)=>.d (.bool y)))
def Hj:Int->St:=(λ (x:Int)=>Jfm p0_ p1_ x)
variable {p0_ p1_ i_9}
theorem GH (x:Int) (z:(Int⊕(Unit⊕Bool))) (H:D9 n p0_ p1_ x=some z):WP (cxk 26 0) (AD Try.f49) [1,1,0,1,0,0] (AG 0 (Hj p0_ p1_) (L8) z) (Hj p0_ p1_ x):=by
 revert H
 generalize x=i_9
 intro H
 refine sq (sr (ck 2 (sp (AC eU8 p0_) (ck 1 (en (cn H (λ H=>?_) (λ H=>?_)))))))
 ·refine sk (qz (sq (bk 1 (sr (ck 2 (bx H λ x67 h286 H=>sp (AJ eU8 h286) (ck 3 (bx H λ x68 h287 H=>sp (AJ eU8 h287) (ck 2 (en (cn H (λ H=>?_) (λ H=>?_))))))))))))
  ·exact sr (ck 1 (en (re (qR (qr (by cases H;exact ro rfl rd))))))
  ·exact sk (qN (qz (rz (ck 3 (ae (by cases H;exact og (sg [0,1,5])))))))
 ·exact ex 0 (qx (by cases H;exact xo rfl (sg [])))
theorem Nx {z} (H:F5 n p0_ p1_=some z):AN Try.prog 49 [.d (.sl (p0_.map eU8)),.d (.sl (p1_.map eU8))] (.d (.bool z)):=by
 refine fO 26 (Jfl p0_ p1_) Try.func49 (sr (ck 1 (en (sq (sr (ck 1 (sp (AC eU8 p0_) (ck 1 (sp (AC eU8 p1_) (ck 1 (en (cn H (λ H=>?_) (λ H=>?_)))))))))))))
 ·exact sr (ck 1 (en (re (qr (by cases H;exact pr rd)))))
 ·refine sk (qz (sq (sr (ck 1 (en (bk 0 (bx H λ y68 h288 H=>?_)))))))
  rcases y68 with y69|y70
  ·exact lX GH h288 (sg [0,1,5]) rfl λ s hE55=>qH (qs (hE55) (sr (ck 1 (en (re (by cases H;exact pr rd))))))
  ·exact lR GH h288 (sg [0,1,5]) rfl λ s hE56=>qR (qr (by cases H;exact pr hE56))
end
section
variable (p0_:As) (p1_:As)
def Jfo:St:=⟨(0,.agg [.d (.str p0_.Print),.d (.sl (p0_.Cells.map eU8)),.d (.int .u8 p0_.Left),.d (.int .u8 p0_.Right),.d (.int .i64 p0_.From),.d (.int .i64 p0_.To)])::(1,.agg [.d (.str p1_.Print),.d (.sl (p1_.Cells.map eU8)),.d (.int .u8 p1_.Left),.d (.int .u8 p1_.Right),.d (.int .i64 p1_.From),.d (.int .i64 p1_.To)])::[],[]⟩
variable {p0_ p1_}
theorem Ow {z} (H:GP n p0_ p1_=some z):AN Try.prog 71 [.agg (Ky p0_),.agg (Ky p1_)] (.d (.bool z)):=by
 exact fO 45 (Jfo p0_ p1_) Try.func71 (sr (ck 3 (en (sr (ck 7 (gc 1 (p0_.Print==p1_.Print) (ck 1 (gc 1 (p0_.Print==p1_.Print) (bx H λ r111 h289 H=>cG false (leZ) rfl (λ hg=>Nx (DH h289 hg)) (Or.inl rfl) (CL (λ hh=>hh) (CL (λ hh=>hh) (Fd))) rfl (pA (ck 2 (gc 1 ((p0_.Print==p1_.Print)&&r111) (ck 1 (gc 2 ((p0_.Print==p1_.Print)&&r111) (pA (ck 2 (gc 1 (((p0_.Print==p1_.Print)&&r111)&&(p0_.Left==p1_.Left)) (ck 1 (gc 2 (((p0_.Print==p1_.Print)&&r111)&&(p0_.Left==p1_.Left)) (pA (ck 2 (gc 1 ((((p0_.Print==p1_.Print)&&r111)&&(p0_.Left==p1_.Left))&&(p0_.Right==p1_.Right)) (ck 1 (gc 2 ((((p0_.Print==p1_.Print)&&r111)&&(p0_.Left==p1_.Left))&&(p0_.Right==p1_.Right)) (pA (ck 2 (gc 1 (((((p0_.Print==p1_.Print)&&r111)&&(p0_.Left==p1_.Left))&&(p0_.Right==p1_.Right))&&(p0_.From==p1_.From)) (ck 1 (gc 2 (((((p0_.Print==p1_.Print)&&r111)&&(p0_.Left==p1_.Left))&&(p0_.Right==p1_.Right))&&(p0_.From==p1_.From)) (pA (ck 1 (en (re (by cases H;exact pr rd))))))))))))))))))))))))))))))))))
end
section
variable (p0_:Ab) (i_10:Int) (k_2:Int)
def Jfp:St:=⟨(0,.agg [.d (.int .i64 p0_.Modes),.d (.int .u8 p0_.Accept),.d (.sl (p0_.Rules.map Aq))])::[],[]⟩
def Jfq:St:=⟨(1,.ptr 0 0)::(4,.d (.int .i64 i_10))::[],[some (.box (AU p0_))]⟩
def Jfr:St:=⟨[],[]⟩
def Jfs:St:=⟨(1,.ptr 0 0)::(4,.d (.int .i64 i_10))::(5,.d (.int .i64 k_2))::[],[some (.box (AU p0_))]⟩
def Jft:St:=⟨(1,.ptr 0 0)::(4,.d (.int .i64 i_10))::[],[some (.box (AU p0_))]⟩
def Qm:(Unit⊕(Int×Int))->Ex->St->Prop:=xS (xX 0 2 (λ (y:Unit)=>Jft p0_ i_10)) (xR ty Try.f57 (λ (y:(Int×Int))=>.tup [.d (.int .i64 y.1),.d (.int .i64 y.2)]))
def KY:Int->St:=(λ (x:Int)=>Jfs p0_ i_10 x)
def Qn:(Unit⊕(Int×Int))->Ex->St->Prop:=xS (xX 0 0 (λ (y:Unit)=>Jfr)) (xR ty Try.f57 (λ (y:(Int×Int))=>.tup [.d (.int .i64 y.1),.d (.int .i64 y.2)]))
def KZ:Int->St:=(λ (x:Int)=>Jfq p0_ x)
variable {p0_ i_10 k_2}
theorem JX (x:Int) (z:(Int⊕(Unit⊕(Int×Int)))) (H:Fm n p0_ i_10 x=some z):WP (cxk 74 0) (AD Try.f57) [1,1,0,1,0,0,1,0,0,1,1,0,0] (AG 0 (KY p0_ i_10) (Qm p0_ i_10) z) (KY p0_ i_10 x):=by
 revert H
 generalize x=k_2
 intro H
 refine sq (sr (ck 3 (en (cn H (λ H=>?_) (λ H=>?_)))))
 ·refine sk (qz (sq (bk 3 (sr (ck 3 (bx H λ x70 h293 H=>sp (AJ Aq h293) (ck 4 (bx H λ x71 h294 H=>sp (AJ Aq h294) (ck 1 (bx H λ r113 h295 H=>ca false (Ow h295) (en (cn H (λ H=>?_) (λ H=>?_)))))))))))))
  ·exact sr (ck 3 (en (re (qR (qr (by cases H;exact ro rfl rdT))))))
  ·exact sk (qN (qz (rz (ck 3 (ae (by cases H;exact og (sg [1,4,5])))))))
 ·exact ex 2 (qx (by cases H;exact xo rfl (sg [1,4])))
theorem JY (x:Int) (z:(Int⊕(Unit⊕(Int×Int)))) (H:Fn n p0_ x=some z):WP (cxk 74 0) (AD Try.f57) [1,1,0,1,0,0] (AG 0 (KZ p0_) (Qn) z) (KZ p0_ x):=by
 revert H
 generalize x=i_10
 intro H
 refine sq (sr (ck 3 (sp (AC Aq p0_.Rules) (ck 1 (en (cn H (λ H=>?_) (λ H=>?_)))))))
 ·refine sk (qz (sq (bk 1 (sq (sr (ck 3 (bx H λ x69 h291 H=>sp (AJ Aq h291) (ck 3 (bx H λ r112 h292 H=>ca false (SX h292) (ck 1 (en (cn H (λ H=>?_) (λ H=>?_)))))))))))))
  ·exact sr (ck 3 (en (re (qr (qR (qr (by cases H;exact ro rfl rdT)))))))
  ·refine sk (qz (sr (ck 1 (en (bk 2 (bx H λ y71 h296 H=>?_))))))
   rcases y71 with y72|y73
   ·exact lX JX h296 (sg [1,4,5]) rfl λ s hE57=>qH (qN (qs (hE57) (rz (ck 3 (ae (by cases H;exact og (sg [1,4])))))))
   ·exact lR JX h296 (sg [1,4,5]) rfl λ s hE58=>qR (qR (qr (by cases H;exact ro rfl hE58)))
 ·exact ex 0 (qx (by cases H;exact xo rfl (sg [])))
theorem SY {z} (H:Lo n p0_=some z):AN Try.prog 57 [.agg (AU p0_)] (.tup [.d (.int .i64 z.1),.d (.int .i64 z.2)]):=by
 refine fO 74 (Jfp p0_) Try.func57 (sr (ck 3 (en (sq (sr (ck 5 (gc 2 (!(decide (p0_.Modes<1))) (pO (ck 2 (gc 2 (!((decide (p0_.Modes<1))||(decide (p0_.Modes>8)))) (pO (ck 2 (gc 2 (!(((decide (p0_.Modes<1))||(decide (p0_.Modes>8)))||(p0_.Accept==0))) (ck 1 (gc 1 (!(((decide (p0_.Modes<1))||(decide (p0_.Modes>8)))||(p0_.Accept==0))) (bx H λ gd6 h290 H=>soG (λ hg=>Iw (DH h290 hg)) (CL (λ hh=>hh) (Fd)) (gc 1 (!(((decide (p0_.Modes<1))||(decide (p0_.Modes>8)))||(p0_.Accept==0))) (pO (ck 2 (gc 1 (!((((decide (p0_.Modes<1))||(decide (p0_.Modes>8)))||(p0_.Accept==0))||(decide (IntKind.i64.wrap p0_.Accept>=PL .i64 1 p0_.Modes)))) (sE (g:=(!((((decide (p0_.Modes<1))||(decide (p0_.Modes>8)))||(p0_.Accept==0))||(decide (IntKind.i64.wrap p0_.Accept>=PL .i64 1 p0_.Modes))))) (λ hg=>AC Aq p0_.Rules) (gc 1 (!((((decide (p0_.Modes<1))||(decide (p0_.Modes>8)))||(p0_.Accept==0))||(decide (IntKind.i64.wrap p0_.Accept>=PL .i64 1 p0_.Modes)))) (pO (ck 2 (gc 1 (!(((((decide (p0_.Modes<1))||(decide (p0_.Modes>8)))||(p0_.Accept==0))||(decide (IntKind.i64.wrap p0_.Accept>=PL .i64 1 p0_.Modes)))||(decide (((p0_.Rules.length:Nat):Int)<1)))) (sE (g:=(!(((((decide (p0_.Modes<1))||(decide (p0_.Modes>8)))||(p0_.Accept==0))||(decide (IntKind.i64.wrap p0_.Accept>=PL .i64 1 p0_.Modes)))||(decide (((p0_.Rules.length:Nat):Int)<1))))) (λ hg=>AC Aq p0_.Rules) (gc 1 (!(((((decide (p0_.Modes<1))||(decide (p0_.Modes>8)))||(p0_.Accept==0))||(decide (IntKind.i64.wrap p0_.Accept>=PL .i64 1 p0_.Modes)))||(decide (((p0_.Rules.length:Nat):Int)<1)))) (pO (en (cn H (λ H=>?_) (λ H=>?_)))))))))))))))))))))))))))))))
 ·exact sr (ck 2 (en (re (qr (by cases H;exact pr rdT)))))
 ·refine sk (qz (sq (sr (ck 1 (en (bk 0 (bx H λ y74 h297 H=>?_)))))))
  rcases y74 with y75|y76
  ·exact lX JY h297 (sg [1,4]) rfl λ s hE59=>qH (qs (hE59) (sr (ck 2 (en (re (by cases H;exact pr rdT))))))
  ·exact lR JY h297 (sg [1,4]) rfl λ s hE60=>qR (qr (by cases H;exact pr hE60))
end
section
variable (p0_:Ab)
def Jfu:St:=⟨(0,.agg [.d (.int .i64 p0_.Modes),.d (.int .u8 p0_.Accept),.d (.sl (p0_.Rules.map Aq))])::[],[]⟩
variable {p0_}
theorem SZ {z} (H:Nq n p0_=some z):AN Try.prog 38 [.agg (AU p0_)] (.d (.bool z)):=by
 exact fO 12 (Jfu p0_) Try.func38 (sr (ck 2 (en (sr (ck 1 (bx H λ r114 h298 H=>ca false (SY h298) (ck 5 (en (sr (ck 3 (en (re (by cases H;exact pr rd)))))))))))))
end
section
variable (p0_:Kw) (r115:Ab) (t_3:Ab) (i_11:Int) (t_4:Ab) (t_5:Ab) (t_6:Ab) (i_12:Int) (t_7:Ab) (t_8:Ab) (t_9:Ab)
def Jfv:St:=⟨(0,.agg [.d (.int .u8 p0_.Base),.d (.int .u8 p0_.Drop),.d (.sl (p0_.More.map E7))])::[],[]⟩
def Jfw:St:=⟨(1,.ptr 0 0)::(2,.ptr 1 0)::(3,.ptr 2 0)::(4,.osl 3 6 0 (r115.Rules.length))::(5,.d (.int .i64 i_11))::[],[some (.box (V2 p0_)),some (.box [.d (.int .i64 0),.d (.int .u8 0),.osl 4 6 0 (List.length ([]:List As))]),some (.box (Fq t_3 (.osl 5 6 0 (t_3.Rules.length)))),some (.arr 6 (r115.Rules.map Aq)),some (.arr 6 (List.map Aq ([]:List As))),some (.arr 6 (t_3.Rules.map Aq))]⟩
def Jfx:St:=⟨(1,.ptr 0 0)::(2,.ptr 1 0)::(3,.ptr 2 0)::(4,.osl 3 6 0 (r115.Rules.length))::[],[some (.box (V2 p0_)),some (.box [.d (.int .i64 0),.d (.int .u8 0),.osl 4 6 0 (List.length ([]:List As))]),some (.box (Fq t_4 (.osl 5 6 0 (t_4.Rules.length)))),some (.arr 6 (r115.Rules.map Aq)),some (.arr 6 (List.map Aq ([]:List As))),some (.arr 6 (t_4.Rules.map Aq))]⟩
def Jfy:St:=⟨(1,.ptr 0 0)::(2,.ptr 1 0)::(3,.ptr 2 0)::(4,.osl 3 6 0 (r115.Rules.length))::(5,.d (.int .i64 i_11))::[],[some (.box (V2 p0_)),some (.box [.d (.int .i64 0),.d (.int .u8 0),.osl 4 6 0 (List.length ([]:List As))]),some (.box (Fq t_5 (.osl 5 6 0 (t_5.Rules.length)))),some (.arr 6 (r115.Rules.map Aq)),some (.arr 6 (List.map Aq ([]:List As))),some (.arr 6 (t_5.Rules.map Aq))]⟩
def Rb:Ab->Ex->St->Prop:=xX 0 0 (λ (y:Ab)=>Jfx p0_ r115 y)
def LL:(Ab×Int)->St:=(λ (x:(Ab×Int))=>Jfw p0_ r115 x.1 x.2)
def Jfz:St:=⟨(1,.ptr 0 0)::(2,.ptr 1 0)::(3,.ptr 2 0)::(4,.osl 3 6 0 (r115.Rules.length))::(6,.d (.int .i64 i_12))::[],[some (.box (V2 p0_)),some (.box [.d (.int .i64 0),.d (.int .u8 0),.osl 4 6 0 (List.length ([]:List As))]),some (.box (Fq t_6 (.osl 5 6 0 (t_6.Rules.length)))),some (.arr 6 (r115.Rules.map Aq)),some (.arr 6 (List.map Aq ([]:List As))),some (.arr 6 (t_6.Rules.map Aq))]⟩
def JfA:St:=⟨(2,.ptr 0 0)::(3,.ptr 1 0)::(4,.osl 2 6 0 (r115.Rules.length))::[],[some (.box [.d (.int .i64 0),.d (.int .u8 0),.osl 3 6 0 (List.length ([]:List As))]),some (.box (Fq t_7 (.osl 4 6 0 (t_7.Rules.length)))),some (.arr 6 (r115.Rules.map Aq)),some (.arr 6 (List.map Aq ([]:List As))),some (.arr 6 (t_7.Rules.map Aq))]⟩
def JfB:St:=⟨(1,.ptr 0 0)::(2,.ptr 1 0)::(3,.ptr 2 0)::(4,.osl 3 6 0 (r115.Rules.length))::(6,.d (.int .i64 i_12))::[],[some (.box (V2 p0_)),some (.box [.d (.int .i64 0),.d (.int .u8 0),.osl 4 6 0 (List.length ([]:List As))]),some (.box (Fq t_8 (.osl 5 6 0 (t_8.Rules.length)))),some (.arr 6 (r115.Rules.map Aq)),some (.arr 6 (List.map Aq ([]:List As))),some (.arr 6 (t_8.Rules.map Aq))]⟩
def Re:Ab->Ex->St->Prop:=xX 0 2 (λ (y:Ab)=>JfA r115 y)
def LM:(Ab×Int)->St:=(λ (x:(Ab×Int))=>Jfz p0_ r115 x.1 x.2)
def JfC:St:=⟨(2,.ptr 0 0)::(3,.ptr 1 0)::[],[some (.box [.d (.int .i64 0),.d (.int .u8 0),.osl 2 6 0 (List.length ([]:List As))]),some (.box (Fq t_9 (.osl 3 6 0 (t_9.Rules.length)))),some (.arr 6 (List.map Aq ([]:List As))),some (.arr 6 (t_9.Rules.map Aq))]⟩
variable {p0_ r115 t_3 i_11 t_4 t_5 t_6 i_12 t_7 t_8 t_9}
theorem Qo (x:(Ab×Int)) (z:((Ab×Int)⊕Ab)) (H:E5 n p0_ r115 x.1 x.2=some z):WP (cxk 77 0) (AD Try.f16) [1,1,1,1,0,1,0,0] (AG 0 (LL p0_ r115) (Rb p0_ r115) z) (LL p0_ r115 x):=by
 obtain ⟨t_3,i_11⟩:=x
 refine sq (sr (ck 4 (en (cn H (λ H=>?_) (λ H=>?_)))))
 ·refine sk (qz (sj (λ (x:Ab)=>Jfy p0_ r115 i_11 x) (λ (x:Ab)=>Gf n i_11 x) z ?_ (λ hFR2_Made_J1=>?_)))
  ·intro t_5 H
   exact rz (ck 3 (ae (by cases H;exact og (sg [1,2,3,4,5]))))
  refine bk 1 (sr (ck 3 (bx H λ gd7 h300 H=>so (Iw h300) (ck 2 (en (cn H (λ H=>?_) (λ H=>?_)))))))
  ·exact rz (ck 4 (bx H λ x72 h301 H=>sp (A9 3 6 h301) (sp (Da Aq 3 0 (ty 55) h301) (ck 1 (bx H λ l49 h302 H=>sp (Bn Aq 5 6 h302) (ck 2 (ae (qN (qs (sg [1,2,3,4,5]) (hFR2_Made_J1 ({ Modes:=t_3.Modes,Accept:=t_3.Accept,Rules:=l49 }:Ab) H))))))))))
  ·exact sk (qN (qs (sg [1,2,3,4,5]) (hFR2_Made_J1 t_3 H)))
 ·exact ex 0 (qx (by cases H;exact xo rfl (sg [1,2,3,4])))
theorem Qp (x:(Ab×Int)) (z:((Ab×Int)⊕Ab)) (H:E6 n p0_ r115 x.1 x.2=some z):WP (cxk 77 0) (AD Try.f16) [1,1,1,1,1,0,1,0,0] (AG 0 (LM p0_ r115) (Re r115) z) (LM p0_ r115 x):=by
 obtain ⟨t_6,i_12⟩:=x
 refine sq (sr (ck 3 (sp (AC E7 p0_.More) (ck 3 (gc 1 (decide (i_12<((p0_.More.length:Nat):Int))) (pA (en (cn H (λ H=>?_) (λ H=>?_)))))))))
 ·refine sk (qz (sj (λ (x:Ab)=>JfB p0_ r115 i_12 x) (λ (x:Ab)=>Gg n i_12 x) z ?_ (λ hFR2_Made_J2=>?_)))
  ·intro t_8 H
   exact rz (ck 3 (ae (by cases H;exact og (sg [1,2,3,4,6]))))
  refine bk 3 (sr (ck 5 (bx H λ x73 h304 H=>sp (AJ E7 h304) (ck 3 (bx H λ r116 h305 H=>ca false (UD h305) (ck 1 (bx H λ l50 h306 H=>sp (Bn Aq 5 6 h306) (ck 2 (en (sr (ck 1 (bx H λ r117 h307 H=>cb (ks:=[7]) (obl:=[(0+List.length l50,List.length (l50.map Aq))]) false (leK leM (leZ)) (DF (Jhk (DF rfl (DF rfl (DF MH rfl)))) rfl) (SZ h307) (Or.inr trivial) rfl (ck 1 (en (cn H (λ H=>?_) (λ H=>?_))))))))))))))))
  ·exact rz (ck 6 (bx H λ l51 h308 H=>sp (H5 7 6 h308) (ck 2 (ae (qN (qs (tr (BI (k:=7) (sz:=6) 2 2 (l51.map Aq) (l51.length) (by kernel_rfl) (FW h308) (H4 (enc:=Aq) h308) (FX h308)) (sg [1,2,3,4,6])) (hFR2_Made_J2 ({ Modes:=t_6.Modes,Accept:=t_6.Accept,Rules:=l51 }:Ab) H)))))))
  ·exact sk (qN (qs (sg [1,2,3,4,6]) (hFR2_Made_J2 ({ Modes:=t_6.Modes,Accept:=t_6.Accept,Rules:=l50 }:Ab) H)))
 ·exact ex 2 (qx (by cases H;exact xo rfl (sg [2,3,4])))
theorem UF {z} (H:IE n p0_=some z):AN Try.prog 16 [.agg (V2 p0_)] (.agg [.d (.int .i64 z.Modes),.d (.int .u8 z.Accept),.own 6 (z.Rules.map Aq)]):=by
 refine fO 77 (Jfv p0_) Try.func16 (sr (ck 2 (en (sr (ck 2 (bx H λ r115 h299 H=>cl [List.length r115.Rules] (UC h299) (ck 2 (en (sr (ck 3 (en (sr (ck 3 (en (sq (sr (ck 1 (en (bk 0 (bx H λ y77 h303 H=>lX Qo h303 (tr (CX 1 2 6 (by kernel_rfl)) (sg [1,2,3,4,5])) rfl λ s hE61=>qH (qs (hE61) (sq (sr (ck 1 (en (bk 2 (bx H λ y78 h309 H=>lX Qp h309 (sg [1,2,3,4,6]) rfl λ s hE62=>qH (qs (hE62) (sj (λ (x:Ab)=>JfC x) (λ (x:Ab)=>Gh n x) z ?_ (λ hFR2_Made_J3=>?_))))))))))))))))))))))))))))))
 ·intro t_9 H
  exact sr (ck 2 (en (re (by cases H;exact pr (rO (v:=.agg [.d (.int .i64 z.Modes),.d (.int .u8 z.Accept),.osl 3 6 0 (z.Rules.length)]) [3] (a1 (c1 vd (c1 vd (c1 vo (c0))))))))))
 refine sr (ck 4 (en (cn H (λ H=>?_) (λ H=>?_))))
 ·exact rz (ck 3 (ae (qs (sg [2,3]) (hFR2_Made_J3 ({ Modes:=y78.Modes,Accept:=y78.Accept,Rules:=r115.Rules }:Ab) H))))
 ·exact sk (qs (sg [2,3]) (hFR2_Made_J3 y78 H))
end
section
variable (p0_:Ab) (p1_:(List Int)) (p2_:Int) (out_5:(List Int)) (i_13:Int) (out_6:(List Int)) (out_7:(List Int))
def JfD:St:=⟨(0,.agg [.d (.int .i64 p0_.Modes),.d (.int .u8 p0_.Accept),.d (.sl (p0_.Rules.map Aq))])::(1,.d (.sl (p1_.map eU8)))::(2,.d (.int .i64 p2_))::[],[]⟩
def JfE:St:=⟨(1,.d (.sl (p1_.map eU8)))::(2,.d (.int .i64 p2_))::(3,.ptr 0 0)::(7,.osl 1 1 0 (out_5.length))::(8,.d (.int .i64 i_13))::[],[some (.box (AU p0_)),some (.arr 1 (out_5.map eU8))]⟩
def JfF:St:=⟨(2,.d (.int .i64 p2_))::(7,.osl 0 1 0 (out_6.length))::[],[some (.arr 1 (out_6.map eU8))]⟩
def JfG:St:=⟨(1,.d (.sl (p1_.map eU8)))::(2,.d (.int .i64 p2_))::(3,.ptr 0 0)::(7,.osl 1 1 0 (out_7.length))::(8,.d (.int .i64 i_13))::[],[some (.box (AU p0_)),some (.arr 1 (out_7.map eU8))]⟩
def Qq:(List Int)->Ex->St->Prop:=xX 0 0 (λ (y:(List Int))=>JfF p2_ y)
def K0:((List Int)×Int)->St:=(λ (x:((List Int)×Int))=>JfE p0_ p1_ p2_ x.1 x.2)
variable {p0_ p1_ p2_ out_5 i_13 out_6 out_7}
theorem Ox (x:((List Int)×Int)) (z:(((List Int)×Int)⊕(List Int))) (H:GS n p0_ p1_ p2_ x.1 x.2=some z):WP (cxk 65 0) (AD Try.f40) [1,1,0,1,0,0] (AG 0 (K0 p0_ p1_ p2_) (Qq p2_) z) (K0 p0_ p1_ p2_ x):=by
 obtain ⟨out_5,i_13⟩:=x
 refine sq (sr (ck 2 (sp (AC eU8 p1_) (ck 3 (gc 1 (decide (i_13<((p1_.length:Nat):Int))) (ck 1 (gc 1 (decide (i_13<((p1_.length:Nat):Int))) (pA (ck 2 (gc 1 ((decide (i_13<((p1_.length:Nat):Int)))&&(decide (((out_5.length:Nat):Int)<p2_))) (sE (g:=((decide (i_13<((p1_.length:Nat):Int)))&&(decide (((out_5.length:Nat):Int)<p2_)))) (λ hg=>AC Aq p0_.Rules) (gc 1 ((decide (i_13<((p1_.length:Nat):Int)))&&(decide (((out_5.length:Nat):Int)<p2_))) (pA (en (cn H (λ H=>?_) (λ H=>?_))))))))))))))))
 ·refine sk (qz (sj (λ (x:(List Int))=>JfG p0_ p1_ p2_ i_13 x) (λ (x:(List Int))=>GQ n i_13 x) z ?_ (λ hFR4_Cells_J1=>?_)))
  ·intro out_7 H
   exact rz (ck 3 (ae (by cases H;exact og (sg [1,2,3,7,8]))))
  refine bk 1 (sr (ck 4 (bx H λ x74 h310 H=>sp (AJ eU8 h310) (ck 4 (sp (AC Aq p0_.Rules) (bx H λ gd8 h311 H=>so (PX h311) (bx H λ x75 h312 H=>sp (AJ Aq h312) (ck 3 (en (sr (ck 2 (bx H λ x76 h313 H=>sp (AJ eU8 h313) (ck 2 (en (cn H (λ H=>?_) (λ H=>?_))))))))))))))))
  ·exact rz (ck 3 (bx H λ x77 h314 H=>sp (AJ eU8 h314) (ck 3 (bx H λ l52 h315 H=>sp (Bn eU8 1 1 h315) (ck 1 (ae (qN (qs (sg [1,2,3,7,8]) (hFR4_Cells_J1 l52 H)))))))))
  ·exact rz (ck 2 (bx H λ l53 h316 H=>sp (JdI eU8 1 1 h316) (ck 1 (ae (qN (qs (sg [1,2,3,7,8]) (hFR4_Cells_J1 l53 H)))))))
 ·exact ex 0 (qx (by cases H;exact xo rfl (sg [2,7])))
theorem S0 {z} (H:Lp n p0_ p1_ p2_=some z):AN Try.prog 40 [.agg (AU p0_),.d (.sl (p1_.map eU8)),.d (.int .i64 p2_)] (.own 1 (z.map eU8)):=by
 exact fO 65 (JfD p0_ p1_ p2_) Try.func40 (sr (ck 2 (en (sr (ck 2 (en (sq (sr (ck 1 (en (bk 0 (bx H λ y79 h317 H=>lX Ox h317 (sg [1,2,3,7,8]) rfl λ s hE63=>qH (qs (hE63) (sr (ck 5 (bx H λ l54 h318 H=>sp (H5 0 1 h318) (ck 1 (ae (qs (LY (k:=0) (sz:=1) 6 (l54.map eU8) (l54.length) (by kernel_rfl) (FW h318) (H4 (enc:=eU8) h318) (FX h318)) (re (by cases H;exact pr (rO (v:=.osl 1 1 0 (z.length)) [1] (ao vo)))))))))))))))))))))))
end
def JfH:St:=⟨[],[]⟩
theorem S1 {z} (H:R2 n=some z):AN Try.prog 53 [] (.agg [.d (.int .i64 z.Mode),.d (.int .i64 z.Last),.d (.int .u8 z.Need)]):=by
 exact fO 2 JfH Try.func53 (sr (ck 1 (en (sr (ck 2 (en (re (by cases H;exact pr rd))))))))
section
variable (p0_:Int) (p1_:Int)
def JfI:St:=⟨(0,.d (.int .u8 p0_))::(1,.d (.int .i64 p1_))::[],[]⟩
variable {p0_ p1_}
theorem Ju {z} (H:Jm n p0_ p1_=some z):AN Try.prog 33 [.d (.int .u8 p0_),.d (.int .i64 p1_)] (.d (.bool z)):=by
 exact fO 18 (JfI p0_ p1_) Try.func33 (sr (ck 1 (en (sr (ck 4 (gc 1 (decide (p1_>=0)) (pA (ck 3 (bx H λ gd9 h319 H=>soG (λ hg=>Iw (DH h319 hg)) (CL (λ hh=>hh) (CL (λ hh=>hh) (Fd))) (gc 2 ((decide (p1_>=0))&&(decide (p1_<8))) (pA (ck 1 (en (re (by cases H;exact pr rd)))))))))))))))
end
section
variable (p0_:Ab) (p1_:Aa)
def JfJ:St:=⟨(0,.agg [.d (.int .i64 p0_.Modes),.d (.int .u8 p0_.Accept),.d (.sl (p0_.Rules.map Aq))])::(1,.agg [.d (.int .i64 p1_.Mode),.d (.int .i64 p1_.Last),.d (.int .u8 p1_.Need)])::[],[]⟩
variable {p0_ p1_}
theorem Qr {z} (H:HN n p0_ p1_=some z):AN Try.prog 20 [.agg (AU p0_),.agg (Kz p1_)] (.d (.bool z)):=by
 exact fO 27 (JfJ p0_ p1_) Try.func20 (sr (ck 3 (en (sr (ck 5 (gc 1 (decide (p1_.Mode>=0)) (ck 1 (gc 2 (decide (p1_.Mode>=0)) (pA (ck 2 (gc 1 ((decide (p1_.Mode>=0))&&(decide (p1_.Mode<p0_.Modes))) (ck 1 (gc 1 ((decide (p1_.Mode>=0))&&(decide (p1_.Mode<p0_.Modes))) (bx H λ r118 h320 H=>cG false (leZ) rfl (λ hg=>Ju (DH h320 hg)) (Or.inl rfl) (CL (λ hh=>hh) (CL (λ hh=>hh) (Fd))) rfl (pA (ck 2 (gc 1 (((decide (p1_.Mode>=0))&&(decide (p1_.Mode<p0_.Modes)))&&r118) (bx H λ r119 h321 H=>cG false (leZ) rfl (λ hg=>Ju (DH h321 hg)) (Or.inl rfl) (CL (λ hh=>hh) (Fd)) rfl (pA (ck 1 (en (re (by cases H;exact pr rd)))))))))))))))))))))))
end
section
variable (p0_:Int)
def JfK:St:=⟨(0,.d (.int .u8 p0_))::[],[]⟩
variable {p0_}
theorem MV {z} (H:IF n p0_=some z):AN Try.prog 32 [.d (.int .u8 p0_)] (.d (.int .i64 z)):=by
 refine fO 26 (JfK p0_) Try.func32 (sr (ck 1 (en (sr (ck 3 (en (sq (sr (ck 4 (gc 1 (decide (Cn .u8 p0_ 127>=97)) (pA (en (cn H (λ H=>?_) (λ H=>?_))))))))))))))
 ·exact sr (ck 1 (en (re (qr (by cases H;exact pr rd)))))
 ·refine sk (qz (sq (sr (ck 4 (gc 1 (decide (Cn .u8 p0_ 127>=65)) (pA (en (cn H (λ H=>?_) (λ H=>?_)))))))))
  ·exact sr (ck 1 (en (re (qr (by cases H;exact pr rd)))))
  ·refine sk (qz (sq (sr (ck 4 (gc 1 (decide (Cn .u8 p0_ 127>=48)) (pA (en (cn H (λ H=>?_) (λ H=>?_)))))))))
   ·exact sr (ck 1 (en (re (qr (by cases H;exact pr rd)))))
   ·refine sk (qz (sq (sr (ck 2 (en (cn H (λ H=>?_) (λ H=>?_)))))))
    ·exact sr (ck 1 (en (re (qr (by cases H;exact pr rd)))))
    ·exact sk (qz (sr (ck 1 (en (re (by cases H;exact pr rd))))))
end
section
variable (p0_:Ab) (p1_:Aa) (p2_:Int)
def JfL:St:=⟨(0,.agg [.d (.int .i64 p0_.Modes),.d (.int .u8 p0_.Accept),.d (.sl (p0_.Rules.map Aq))])::(1,.agg [.d (.int .i64 p1_.Mode),.d (.int .i64 p1_.Last),.d (.int .u8 p1_.Need)])::(2,.d (.int .i64 p2_))::[],[]⟩
variable {p0_ p1_ p2_}
theorem N9 {z} (H:Kx n p0_ p1_ p2_=some z):AN Try.prog 18 [.agg (AU p0_),.agg (Kz p1_),.d (.int .i64 p2_)] (.tup [.agg [.d (.int .i64 z.1.Mode),.d (.int .i64 z.1.Last),.d (.int .u8 z.1.Need)],.d (.bool z.2)]):=by
 refine fO 87 (JfL p0_ p1_ p2_) Try.func18 (sr (ck 4 (en (sq (sr (ck 5 (gc 1 (!(decide (p2_<0))) (sE (g:=(!(decide (p2_<0)))) (λ hg=>AC Aq p0_.Rules) (gc 1 (!(decide (p2_<0))) (pO (en (cn H (λ H=>?_) (λ H=>?_)))))))))))))
 ·exact sr (ck 3 (en (re (qr (by cases H;exact pr rdT)))))
 ·refine sk (qz (sr (ck 3 (bx H λ x83 h332 H=>sp (AJ Aq h332) (ck 3 (en (sq (sr (ck 7 (gc 1 (!(x83.From != p1_.Mode)) (ck 1 (gc 1 (!(x83.From != p1_.Mode)) (bx H λ r120 h333 H=>cG false (leZ) rfl (λ hg=>Ju (DH h333 hg)) (Or.inl rfl) (CL (λ hh=>hh) (CL (λ hh=>hh) (Fd))) rfl (gc 1 (!(x83.From != p1_.Mode)) (pO (en (cn H (λ H=>?_) (λ H=>?_))))))))))))))))))
  ·exact sr (ck 3 (en (re (qr (by cases H;exact pr rdT)))))
  ·refine sk (qz (sq (sr (ck 6 (gc 1 (((x83.Print.length:Nat):Int)==0) (ck 1 (gc 3 (((x83.Print.length:Nat):Int)==0) (pA (en (cn H (λ H=>?_) (λ H=>?_)))))))))))
   ·exact sr (ck 3 (en (re (qr (by cases H;exact pr rdT)))))
   ·refine sk (qz (sq (sr (ck 4 (en (cn H (λ H=>?_) (λ H=>?_)))))))
    ·exact sr (ck 12 (en (re (qr (by cases H;exact pr rdT)))))
    ·refine sk (qz (sq (sr (ck 4 (bx H λ b10 h334 H=>sp (FY h334) (bx H λ r121 h335 H=>ca false (MV h335) (bx H λ r122 h336 H=>ca false (Ju h336) (ck 1 (en (cn H (λ H=>?_) (λ H=>?_)))))))))))
     ·exact sr (ck 3 (en (re (qr (by cases H;exact pr rdT)))))
     ·exact sk (qz (sr (ck 8 (bx H λ b11 h337 H=>sp (FY h337) (bx H λ r123 h338 H=>ca false (MV h338) (ck 5 (en (re (by cases H;exact pr rdT)))))))))
end
section
variable (p0_:(List Aa)) (p1_:Aa) (i_16:Int)
def JfM:St:=⟨(0,.d (.sl (p0_.map Ar)))::(1,.agg [.d (.int .i64 p1_.Mode),.d (.int .i64 p1_.Last),.d (.int .u8 p1_.Need)])::[],[]⟩
def JfN:St:=⟨(0,.d (.sl (p0_.map Ar)))::(3,.ptr 0 0)::(5,.d (.int .i64 i_16))::[],[some (.box (Kz p1_))]⟩
def JfO:St:=⟨[],[]⟩
def Qs:(Unit⊕Int)->Ex->St->Prop:=xS (xX 0 0 (λ (y:Unit)=>JfO)) (xR ty Try.f34 (λ (y:Int)=>.d (.int .i64 y)))
def K1:Int->St:=(λ (x:Int)=>JfN p0_ p1_ x)
variable {p0_ p1_ i_16}
theorem JZ (x:Int) (z:(Int⊕(Unit⊕Int))) (H:Dm n p0_ p1_ x=some z):WP (cxk 19 0) (AD Try.f34) [1,0,1,0,0] (AG 0 (K1 p0_ p1_) (Qs) z) (K1 p0_ p1_ x):=by
 revert H
 generalize x=i_16
 intro H
 refine sq (sr (ck 2 (sp (AC Ar p0_) (ck 1 (en (cn H (λ H=>?_) (λ H=>?_)))))))
 ·refine sk (qz (sq (bk 1 (sr (ck 2 (bx H λ x90 h371 H=>sp (AJ Ar h371) (ck 3 (en (cn H (λ H=>?_) (λ H=>?_))))))))))
  ·exact sr (ck 2 (en (re (qR (qr (by cases H;exact ro rfl rd))))))
  ·exact sk (qN (qz (rz (ck 3 (ae (by cases H;exact og (sg [0,3,5])))))))
 ·exact ex 0 (qx (by cases H;exact xo rfl (sg [])))
theorem MW {z} (H:Lq n p0_ p1_=some z):AN Try.prog 34 [.d (.sl (p0_.map Ar)),.agg (Kz p1_)] (.d (.int .i64 z)):=by
 refine fO 19 (JfM p0_ p1_) Try.func34 (sr (ck 2 (en (sq (sr (ck 1 (en (bk 0 (bx H λ y86 h372 H=>?_)))))))))
 rcases y86 with y87|y88
 ·exact lX JZ h372 (sg [0,3,5]) rfl λ s hE69=>qH (qs (hE69) (sr (ck 1 (en (re (by cases H;exact pr rd))))))
 ·exact lR JZ h372 (sg [0,3,5]) rfl λ s hE70=>qR (qr (by cases H;exact pr hE70))
end
section
variable (p0_:Ab) (out_12:(List Aa)) (i_17:Int) (out_13:(List Aa)) (out_14:(List Aa)) (k_3:Int) (out_15:(List Aa)) (out_16:(List Aa))
def JfP:St:=⟨(0,.agg [.d (.int .i64 p0_.Modes),.d (.int .u8 p0_.Accept),.d (.sl (p0_.Rules.map Aq))])::[],[]⟩
def JfQ:St:=⟨(1,.ptr 0 0)::(3,.osl 1 3 0 (out_12.length))::(4,.d (.int .i64 i_17))::[],[some (.box (AU p0_)),some (.arr 3 (out_12.map Ar))]⟩
def JfR:St:=⟨(3,.osl 0 3 0 (out_13.length))::[],[some (.arr 3 (out_13.map Ar))]⟩
def JfS:St:=⟨(1,.ptr 0 0)::(3,.osl 1 3 0 (out_14.length))::(4,.d (.int .i64 i_17))::(5,.d (.int .i64 k_3))::[],[some (.box (AU p0_)),some (.arr 3 (out_14.map Ar))]⟩
def JfT:St:=⟨(1,.ptr 0 0)::(3,.osl 1 3 0 (out_15.length))::(4,.d (.int .i64 i_17))::[],[some (.box (AU p0_)),some (.arr 3 (out_15.map Ar))]⟩
def JfU:St:=⟨(1,.ptr 0 0)::(3,.osl 1 3 0 (out_16.length))::(4,.d (.int .i64 i_17))::(5,.d (.int .i64 k_3))::[],[some (.box (AU p0_)),some (.arr 3 (out_16.map Ar))]⟩
def Oy:(List Aa)->Ex->St->Prop:=xX 0 2 (λ (y:(List Aa))=>JfT p0_ i_17 y)
def J0:((List Aa)×Int)->St:=(λ (x:((List Aa)×Int))=>JfS p0_ i_17 x.1 x.2)
def Oz:(List Aa)->Ex->St->Prop:=xX 0 0 (λ (y:(List Aa))=>JfR y)
def J1:((List Aa)×Int)->St:=(λ (x:((List Aa)×Int))=>JfQ p0_ x.1 x.2)
variable {p0_ out_12 i_17 out_13 out_14 k_3 out_15 out_16}
theorem Ny (x:((List Aa)×Int)) (z:(((List Aa)×Int)⊕(List Aa))) (H:Dw n p0_ i_17 x.1 x.2=some z):WP (cxk 45 0) (AD Try.f26) [1,1,0,1,0,0,1,0,0,1,0,0] (AG 0 (J0 p0_ i_17) (Oy p0_ i_17) z) (J0 p0_ i_17 x):=by
 obtain ⟨out_14,k_3⟩:=x
 refine sq (sr (ck 3 (sp (AC Aq p0_.Rules) (ck 1 (en (cn H (λ H=>?_) (λ H=>?_)))))))
 ·refine sk (qz (sj (λ (x:(List Aa))=>JfU p0_ i_17 k_3 x) (λ (x:(List Aa))=>Ew n k_3 x) z ?_ (λ hFR3_States_J1=>?_)))
  ·intro out_16 H
   exact rz (ck 3 (ae (by cases H;exact og (sg [1,3,4,5]))))
  refine bk 3 (sr (ck 3 (bx H λ x91 h374 H=>sp (A9 1 3 h374) (sp (Da Ar 1 0 (ty 26) h374) (ck 1 (bx H λ r145 h375 H=>ca false (N9 h375) (ck 6 (en (sr (ck 4 (bx H λ r146 h376 H=>cG (ks:=[1]) (obl:=[(0+List.length out_14,List.length (out_14.map Ar))]) false (leK leM (leZ)) (DF MH (DF rfl rfl)) (λ hg=>MW (DH h376 hg)) (Or.inr trivial) (CL (λ hh=>hh) (CL (λ hh=>hh) (Fd))) rfl (gc 1 r145.2 (pA (en (cn H (λ H=>?_) (λ H=>?_))))))))))))))))
  ·exact rz (ck 3 (bx H λ l60 h377 H=>sp (Bn Ar 1 3 h377) (ck 1 (ae (qN (qs (sg [1,3,4,5]) (hFR3_States_J1 l60 H)))))))
  ·exact sk (qN (qs (sg [1,3,4,5]) (hFR3_States_J1 out_14 H)))
 ·exact ex 2 (qx (by cases H;exact xo rfl (sg [1,3,4])))
theorem Nz (x:((List Aa)×Int)) (z:(((List Aa)×Int)⊕(List Aa))) (H:Ey n p0_ x.1 x.2=some z):WP (cxk 45 0) (AD Try.f26) [1,1,0,1,0,0] (AG 0 (J1 p0_) (Oz) z) (J1 p0_ x):=by
 obtain ⟨out_12,i_17⟩:=x
 refine sq (sr (ck 4 (en (cn H (λ H=>?_) (λ H=>?_)))))
 ·exact sk (qz (sq (bk 1 (sr (ck 1 (en (bk 2 (bx H λ y89 h378 H=>lX Ny h378 (sg [1,3,4,5]) rfl λ s hE71=>qH (qN (qs (hE71) (rz (ck 3 (ae (by cases H;exact og (sg [1,3,4])))))))))))))))
 ·exact ex 0 (qx (by cases H;exact xo rfl (sg [3])))
theorem Rf {z} (H:Jn n p0_=some z):AN Try.prog 26 [.agg (AU p0_)] (.own 3 (z.map Ar)):=by
 exact fO 45 (JfP p0_) Try.func26 (sr (ck 2 (en (sr (bx H λ r144 h373 H=>ca false (S1 h373) (ck 2 (en (sq (sr (ck 1 (en (bk 0 (bx H λ y90 h379 H=>lX Nz h379 (sg [1,3,4]) rfl λ s hE72=>qH (qs (hE72) (sr (ck 2 (en (re (by cases H;exact pr (rO (v:=.osl 0 3 0 (z.length)) [0] (ao vo)))))))))))))))))))))
end
section
variable (p0_:Ab) (r147:(List Aa)) (out_17:(List Bool)) (i_18:Int) (out_18:(List Bool)) (out_19:(List Bool)) (grown_1:Bool) (out_20:(List Bool)) (out_21:(List Bool)) (grown_2:Bool) (i_19:Int) (out_22:(List Bool)) (grown_3:Bool) (out_23:(List Bool)) (grown_4:Bool) (k_4:Int) (out_24:(List Bool)) (grown_5:Bool) (out_25:(List Bool)) (grown_6:Bool)
def JfV:St:=⟨(0,.agg [.d (.int .i64 p0_.Modes),.d (.int .u8 p0_.Accept),.d (.sl (p0_.Rules.map Aq))])::[],[]⟩
def JfW:St:=⟨(1,.ptr 0 0)::(3,.d (.sl (r147.map Ar)))::(4,.osl 1 1 0 (out_17.length))::(5,.d (.int .i64 i_18))::[],[some (.box (AU p0_)),some (.arr 1 (out_17.map eB))]⟩
def JfX:St:=⟨(1,.ptr 0 0)::(3,.d (.sl (r147.map Ar)))::(4,.osl 1 1 0 (out_18.length))::[],[some (.box (AU p0_)),some (.arr 1 (out_18.map eB))]⟩
def Qt:(List Bool)->Ex->St->Prop:=xX 0 0 (λ (y:(List Bool))=>JfX p0_ r147 y)
def K2:((List Bool)×Int)->St:=(λ (x:((List Bool)×Int))=>JfW p0_ r147 x.1 x.2)
def JfY:St:=⟨(1,.ptr 0 0)::(3,.d (.sl (r147.map Ar)))::(4,.osl 1 1 0 (out_19.length))::(6,.d (.bool grown_1))::[],[some (.box (AU p0_)),some (.arr 1 (out_19.map eB))]⟩
def JfZ:St:=⟨(4,.osl 0 1 0 (out_20.length))::[],[some (.arr 1 (out_20.map eB))]⟩
def Jf0:St:=⟨(1,.ptr 0 0)::(3,.d (.sl (r147.map Ar)))::(4,.osl 1 1 0 (out_21.length))::(6,.d (.bool grown_2))::(7,.d (.int .i64 i_19))::[],[some (.box (AU p0_)),some (.arr 1 (out_21.map eB))]⟩
def Jf1:St:=⟨(1,.ptr 0 0)::(3,.d (.sl (r147.map Ar)))::(4,.osl 1 1 0 (out_22.length))::(6,.d (.bool grown_3))::[],[some (.box (AU p0_)),some (.arr 1 (out_22.map eB))]⟩
def Jf2:St:=⟨(1,.ptr 0 0)::(3,.d (.sl (r147.map Ar)))::(4,.osl 1 1 0 (out_23.length))::(6,.d (.bool grown_4))::(7,.d (.int .i64 i_19))::(8,.d (.int .i64 k_4))::[],[some (.box (AU p0_)),some (.arr 1 (out_23.map eB))]⟩
def Jf3:St:=⟨(1,.ptr 0 0)::(3,.d (.sl (r147.map Ar)))::(4,.osl 1 1 0 (out_24.length))::(6,.d (.bool grown_5))::(7,.d (.int .i64 i_19))::[],[some (.box (AU p0_)),some (.arr 1 (out_24.map eB))]⟩
def Jcs:St:=⟨(1,.ptr 0 0)::(3,.d (.sl (r147.map Ar)))::(4,.osl 1 1 0 (out_25.length))::(6,.d (.bool grown_6))::(7,.d (.int .i64 i_19))::(8,.d (.int .i64 k_4))::[],[some (.box (AU p0_)),some (.arr 1 (out_25.map eB))]⟩
def Qu:((List Bool)×Bool)->Ex->St->Prop:=xX 0 6 (λ (y:((List Bool)×Bool))=>Jf3 p0_ r147 i_19 y.1 y.2)
def K3:((List Bool)×Bool×Int)->St:=(λ (x:((List Bool)×Bool×Int))=>Jf2 p0_ r147 i_19 x.1 x.2.1 x.2.2)
def Qv:((List Bool)×Bool)->Ex->St->Prop:=xX 0 4 (λ (y:((List Bool)×Bool))=>Jf1 p0_ r147 y.1 y.2)
def K4:((List Bool)×Bool×Int)->St:=(λ (x:((List Bool)×Bool×Int))=>Jf0 p0_ r147 x.1 x.2.1 x.2.2)
def Qx:(List Bool)->Ex->St->Prop:=xX 0 2 (λ (y:(List Bool))=>JfZ y)
def K5:((List Bool)×Bool)->St:=(λ (x:((List Bool)×Bool))=>JfY p0_ r147 x.1 x.2)
variable {p0_ r147 out_17 i_18 out_18 out_19 grown_1 out_20 out_21 grown_2 i_19 out_22 grown_3 out_23 grown_4 k_4 out_24 grown_5 out_25 grown_6}
theorem OB (x:((List Bool)×Int)) (z:(((List Bool)×Int)⊕(List Bool))) (H:Ea n p0_ r147 x.1 x.2=some z):WP (cxk 73 0) (AD Try.f29) [1,1,0,1,0,0] (AG 0 (K2 p0_ r147) (Qt p0_ r147) z) (K2 p0_ r147 x):=by
 obtain ⟨out_17,i_18⟩:=x
 refine sq (sr (ck 2 (sp (AC Ar r147) (ck 1 (en (cn H (λ H=>?_) (λ H=>?_)))))))
 ·exact sk (qz (sq (bk 1 (rz (ck 4 (bx H λ x92 h381 H=>sp (AJ Ar h381) (ck 1 (bx H λ r148 h382 H=>ca false (Qr h382) (ck 1 (bx H λ l61 h383 H=>sp (Bn eB 1 1 h383) (ck 1 (ae (qN (qz (rz (ck 3 (ae (by cases H;exact og (sg [1,3,4,5])))))))))))))))))))
 ·exact ex 0 (qx (by cases H;exact xo rfl (sg [1,3,4])))
theorem OD (x:((List Bool)×Bool×Int)) (z:(((List Bool)×Bool×Int)⊕((List Bool)×Bool))) (H:C4 n p0_ r147 i_19 x.1 x.2.1 x.2.2=some z):WP (cxk 73 0) (AD Try.f29) [1,1,1,0,1,0,0,1,0,1,1,0,0,1,0,0,1,0,0] (AG 0 (K3 p0_ r147 i_19) (Qu p0_ r147 i_19) z) (K3 p0_ r147 i_19 x):=by
 obtain ⟨out_23,grown_4,k_4⟩:=x
 refine sq (sr (ck 3 (sp (AC Aq p0_.Rules) (ck 4 (bx H λ x93 h385 H=>sE (λ hg=>A9 1 1 (DH h385 hg)) (sE (g:=decide (k_4<((p0_.Rules.length:Nat):Int))) (λ hg=>Da eB 1 0 (ty 4) (DH h385 hg)) (gc 1 (decide (k_4<((p0_.Rules.length:Nat):Int))) (pA (en (cn H (λ H=>?_) (λ H=>?_)))))))))))
 ·refine sk (qz (sj (λ (x:((List Bool)×Bool))=>Jcs p0_ r147 i_19 k_4 x.1 x.2) (λ (x:((List Bool)×Bool))=>Fp n k_4 x.1 x.2) z ?_ (λ hFR3_Alive_J1=>?_)))
  ·rintro ⟨out_25,grown_6⟩ H
   exact rz (ck 3 (ae (by cases H;exact og (sg [1,3,4,6,7,8]))))
  refine bk 7 (sr (ck 3 (bx H λ x94 h386 H=>sp (AJ Ar h386) (ck 2 (bx H λ r149 h387 H=>ca false (N9 h387) (ck 6 (en (sr (ck 5 (bx H λ r150 h388 H=>cG false (leZ) rfl (λ hg=>MW (DH h388 hg)) (Or.inl rfl) (CL (λ hh=>hh) (CL (λ hh=>hh) (Fd))) rfl (bx H λ x95 h389 H=>sE (λ hg=>A9 1 1 (DH h389 hg)) (sE (g:=r149.2) (λ hg=>Da eB 1 0 (ty 4) (DH h389 hg)) (pA (en (cn H (λ H=>?_) (λ H=>?_))))))))))))))))
  ·exact sr (ck 2 (bx H λ x96 h390 H=>sp (A9 1 1 h390) (bx H λ l62 h391 H=>stA eB 1 0 (ty 4) h390 h391 (en (rg (tr (sn 4 1 1 (CY h391)) (sn 69 1 1 (CY h391))) (ck 1 (ae (qN (qs (sg [1,3,4,6,7,8]) (hFR3_Alive_J1 (l62,true) H))))))))))
  ·exact sk (qN (qs (sg [1,3,4,6,7,8]) (hFR3_Alive_J1 (out_23,grown_4) H)))
 ·exact ex 6 (qx (by cases H;exact xo rfl (sg [1,3,4,6,7])))
theorem OE (x:((List Bool)×Bool×Int)) (z:(((List Bool)×Bool×Int)⊕((List Bool)×Bool))) (H:Eb n p0_ r147 x.1 x.2.1 x.2.2=some z):WP (cxk 73 0) (AD Try.f29) [1,1,1,0,1,0,0,1,0,1,1,0,0] (AG 0 (K4 p0_ r147) (Qv p0_ r147) z) (K4 p0_ r147 x):=by
 obtain ⟨out_21,grown_2,i_19⟩:=x
 refine sq (sr (ck 2 (sp (AC Ar r147) (ck 1 (en (cn H (λ H=>?_) (λ H=>?_)))))))
 ·exact sk (qz (sq (bk 5 (sr (ck 1 (en (bk 6 (bx H λ y92 h392 H=>lX OD h392 (sg [1,3,4,6,7,8]) rfl λ s hE74=>qH (qN (qs (hE74) (rz (ck 3 (ae (by cases H;exact og (sg [1,3,4,6,7])))))))))))))))
 ·exact ex 4 (qx (by cases H;exact xo rfl (sg [1,3,4,6])))
theorem OF (x:((List Bool)×Bool)) (z:(((List Bool)×Bool)⊕(List Bool))) (H:GT n p0_ r147 x.1 x.2=some z):WP (cxk 73 0) (AD Try.f29) [1,1,1,0,1,0,0] (AG 0 (K5 p0_ r147) (Qx) z) (K5 p0_ r147 x):=by
 obtain ⟨out_19,grown_1⟩:=x
 refine sq (sr (ck 1 (en (cn H (λ H=>?_) (λ H=>?_)))))
 ·exact sk (qz (bk 3 (sr (ck 1 (en (sr (ck 1 (en (bk 4 (bx H λ y93 h393 H=>lX OE h393 (sg [1,3,4,6,7]) rfl λ s hE75=>qH (qN (by cases H;exact og (tr (hE75) (sg [1,3,4,6]))))))))))))))
 ·exact ex 2 (qx (by cases H;exact xo rfl (sg [4])))
theorem S2 {z} (H:Lr n p0_=some z):AN Try.prog 29 [.agg (AU p0_)] (.own 1 (z.map eB)):=by
 exact fO 73 (JfV p0_) Try.func29 (sr (ck 2 (en (sr (ck 1 (bx H λ r147 h380 H=>ca false (Rf h380) (ck 3 (en (sq (sr (ck 1 (en (bk 0 (bx H λ y91 h384 H=>lX OB h384 (sg [1,3,4,5]) rfl λ s hE73=>qH (qs (hE73) (sq (sr (ck 1 (en (bk 2 (bx H λ y94 h394 H=>lX OF h394 (sg [1,3,4,6]) rfl λ s hE76=>qH (qs (hE76) (sr (ck 2 (en (re (by cases H;exact pr (rO (v:=.osl 0 1 0 (z.length)) [0] (ao vo)))))))))))))))))))))))))))))
end
section
variable (p0_:Kw) (p1_:(List Int))
def Jf4:St:=⟨(0,.agg [.d (.int .u8 p0_.Base),.d (.int .u8 p0_.Drop),.d (.sl (p0_.More.map E7))])::(1,.d (.sl (p1_.map eU8)))::[],[]⟩
variable {p0_ p1_}
theorem Hx {z} (H:Cy n p0_ p1_=some z):AN Try.prog 14 [.agg (V2 p0_),.d (.sl (p1_.map eU8))] (.d (.bool z)):=by
 refine fO 63 (Jf4 p0_ p1_) Try.func14 (sr (ck 2 (en (sr (bx H λ r210 h508 H=>ca false (Q6 h508) (ck 1 (en (sr (ck 1 (bx H λ r211 h509 H=>ca false (UF h509) (ck 2 (en (sr (ck 2 (bx H λ r212 h510 H=>ca false (S0 h510) (ck 1 (en (sr (ck 1 (bx H λ r213 h511 H=>ca false (S2 h511) (ck 1 (en (sq (sr (ck 1 (sp (AC eB r213) (ck 1 (en (cn H (λ H=>?_) (λ H=>?_))))))))))))))))))))))))))))))
 ·exact sr (ck 1 (en (re (qr (by cases H;exact pr rd)))))
 ·refine sk (qz (sr (ck 2 (bx H λ r214 h512 H=>ca false (HT h512) (ck 7 (en (sq (sr (ck 2 (bx H λ r215 h513 H=>ca false (KT h513) (ck 1 (en (cn H (λ H=>?_) (λ H=>?_))))))))))))))
  ·exact sr (ck 3 (gc 1 r210 (pA (ck 3 (sE (g:=(r210&&(r214.2.2==40))) (λ hg=>AC eU8 r212) (gc 2 (r210&&(r214.2.2==40)) (ck 1 (bx H λ x121 h514 H=>sE (λ hg=>AJ eB (DH h514 hg)) (gc 2 ((r210&&(r214.2.2==40))&&!(decide (r214.2.1<((r212.length:Nat):Int)))) (pG (g:=(r210&&(r214.2.2==40))) (v:=.d (.bool ((decide (r214.2.1<((r212.length:Nat):Int)))||(!x121)))) (λ hg=>RZ (c:=.gv (r210&&(r214.2.2==40)) (.d (.bool (decide (r214.2.1<((r212.length:Nat):Int)))))) (a:=.d (.bool true)) (b:=.gv ((r210&&(r214.2.2==40))&&!(decide (r214.2.1<((r212.length:Nat):Int)))) (.d (.bool (!x121)))) rfl rfl rfl ((λ hh=>hh) hg) trivial (λ ht=>by rw [(λ hh=>hh) hg,ht];rfl)) (pA (ck 1 (en (re (qr (by cases H;exact pr rd))))))))))))))))
  ·exact sk (qz (sr (ck 3 (bx H λ x122 h515 H=>sE (λ hg=>AJ eB (DH h515 hg)) (gc 1 r210 (pA (ck 3 (sE (g:=(r210&&x122)) (λ hg=>AC eU8 r212) (gc 1 (r210&&x122) (pA (ck 1 (en (re (by cases H;exact pr rd))))))))))))))
end
end Go.AI
end
section
namespace Go.AI
def CRd (F:Nat->Option Obj) (l:List D) (cs:List Value):Prop:=l.length=cs.length/\∀ (i:Nat) (y:D) (v:Value),l[i]? = some y->cs[i]? = some v->Bm F y v
def IQ {α:Type} (P:Program) (t:TypeId) (enc:α->List D) (ok:α->Prop):Prop:=
 ∀ (H:Type) (e:TypeId×Value->H) (w:World) (base:Nat) (spare:Nat->Bool) (held:Bool) (fuel:Nat) (cs:List Value) (x:DataW H×List MemPlace),DataW.trod e P w base spare held fuel t cs=some x->∃ a:α,ok a/\CRd (λ b=>w.heap[b]?) (enc a) cs
theorem S3 {F:Nat->Option Obj} {y:D} {v:Value} (h:Bm F y v):CRd F [y] [v]:=by
 refine ⟨rfl,λ i a b ha hb=>?_⟩
 cases i with
 | zero=>simp at ha hb;subst ha;subst hb;exact h
 | succ i=>simp at ha
theorem XJ {P:Program} {t:TypeId} {k:IntKind} (ht:P.underlying t=some (.int k)):IQ P t (λ n=>[.int k n]) (λ n=>(Lit.int k n).wf=true):=by
 intro H e w base spare held fuel cs x h
 obtain ⟨n,rfl,_,hw⟩:=DataW.trod_int ht h
 exact ⟨n,hw,S3 (.int k n)⟩
theorem UG {α:Type} {Q:Nat->α->Prop}:∀ n,(∀ i,i<n->∃ a,Q i a)->∃ l:List α,l.length=n/\∀ i a,l[i]? = some a->Q i a:=by
 intro n
 induction n with
 | zero=>intro _;exact ⟨[],rfl,λ i a h=>by simp at h⟩
 | succ n ih=>
  intro h
  obtain ⟨l,hl,hq⟩:=ih λ i hi=>h i (by omega)
  obtain ⟨a,ha⟩:=h n (by omega)
  refine ⟨l++[a],by simp [hl],λ i b hb=>?_⟩
  rcases Nat.lt_or_ge i l.length with hlt|hge
  ·rw [Jh0 hlt] at hb;exact hq i b hb
  ·rw [Jh9 hge] at hb
   have:i-l.length=0:=by have:=Ad hb;simp at this;omega
   rw [this] at hb
   simp at hb
   subst hb
   have:i=n:=by omega
   subst this
   exact ha
theorem UI {α β:Type} {f:α->Option β}:∀ {l:List α} {r:List β},l.mapM f=some r->r.length=l.length/\∀ (i:Nat) (a:α),l[i]? = some a->r[i]? = f a:=by
 intro l
 induction l with
 | nil=>intro r h;simp at h;subst h;exact ⟨rfl,λ i a h=>by simp at h⟩
 | cons a l ih=>
  intro r h
  rw [List.mapM_cons] at h
  simp only [Option.bind_eq_bind,Option.bind_eq_some_iff,Option.pure_def,Jh1] at h
  obtain ⟨b,hb,r',hr',rfl⟩:=h
  obtain ⟨h1,h2⟩:=ih hr'
  refine ⟨by simp [h1],λ i x hx=>?_⟩
  cases i with
  | zero=>simp at hx;subst hx;simp [hb]
  | succ i=>simpa using h2 i x (by simpa using hx)
theorem Oa {α:Type} {P:Program} {t e:TypeId} {enc:α->List D} {ok:α->Prop} {sz:Nat} (ht:P.underlying t=some (.slice e)) (hsz:P.cellsOf e=sz) (h1:Nat.ble 1 sz=true) (hl:∀ a,(enc a).length=sz) (he:IQ P e enc ok):IQ P t (eL enc) (λ l=>∀ a∈l,ok a):=by
 intro H en w base spare held fuel cs x h
 have h1:=Jh6 h1
 rcases DataW.trod_slice ht h with ⟨rfl,_⟩|⟨a,len,cap,elems,rest,n,_,rfl,_,_,hcap,_,hel,hget,_,_⟩
 ·exact ⟨[],λ a h=>by simp at h,S3 (.sl0 _ _)⟩
 ·rw [hsz] at hget
  have hex:∀ i,i<len->∃ y:α,ok y/\∃ ci,w.cells? base (a.add (i*sz)) sz=some ci/\CRd (λ b=>w.heap[b]?) (enc y) ci:=λ i hi=>by
   have hg:=hget i hi
   rw [JhS (show i<elems.length by omega)] at hg
   simp only [Option.bind_eq_some_iff] at hg
   obtain ⟨ci,hc,htr⟩:=hg
   obtain ⟨y,hy,hcr⟩:=he H en w base spare held n ci _ htr
   exact ⟨y,hy,ci,hc,hcr⟩
  obtain ⟨l,hll,hq⟩:=UG len hex
  refine ⟨l,λ y hy=>?_,S3 ?_⟩
  ·obtain ⟨i,hi⟩:=List.mem_iff_getElem?.1 hy
   exact (hq i y hi).1
  ·rcases Nat.eq_zero_or_pos len with h0|hpos
   ·have:l=[]:=List.length_eq_zero_iff.1 (by omega)
    subst this;subst h0
    exact .sl0 _ _
   ·
    have hcell:∀ i y,l[i]? = some y->∀ j,j<sz->∃ v,w.cell? ((a.add (i*sz)).add j)=some v/\∀ d,(enc y)[j]? = some d->Bm (λ b=>w.heap[b]?) d v:=λ i y hy j hj=>by
     obtain ⟨_,ci,hc,hcr⟩:=hq i y hy
     unfold World.cells? at hc
     split at hc
     ·obtain ⟨g1,g2⟩:=UI hc
      have:=g2 j j (by simp [hj])
      have hjc:j<ci.length:=by rw [g1];simpa using hj
      rw [JhS hjc] at this
      exact ⟨ci[j],this.symm,λ d hd=>hcr.2 j d _ hd (JhS hjc)⟩
     ·cases hc
    have h0:l[0]? = some l[0]:=JhS (by omega)
    obtain ⟨v0,hv0,_⟩:=hcell 0 _ h0 0 (by omega)
    have ha0:(a.add (0*sz)).add 0=a:=by simp [Addr.add]
    rw [ha0] at hv0
    obtain ⟨b,off,spot⟩:=a
    unfold World.cell? at hv0
    simp only at hv0
    split at hv0
    ·rename_i c ty fr hblk
     cases spot with
     | some s=>simp at hv0
     | none=>
      have hcell':∀ i y,l[i]? = some y->∀ j d,(enc y)[j]? = some d->∃ v,c[off+i*sz+j]? = some v/\Bm (λ b=>w.heap[b]?) d v:=λ i y hy j d hd=>by
       have hj:j<sz:=by rw [← hl y];exact Ad hd
       obtain ⟨v,hv,hr⟩:=hcell i y hy j hj
       rw [Cj,Cj,Km hblk] at hv
       exact ⟨v,hv,hr d hd⟩
      have hlen:(l.map enc).length=len:=by simp [hll]
      have:=Bm.sl (F:=λ b=>w.heap[b]?) (l.map enc) b off cap sz c ty fr (λ i j=>(c[off+i*sz+j]?).getD undef) hblk (λ e he=>by
        simp only [List.mem_map] at he
        obtain ⟨y,_,rfl⟩:=he
        exact hl y) (by omega) (λ i e hi j d hd=>by
        simp only [JhW,JhV] at hi
        obtain ⟨y,hy,rfl⟩:=hi
        obtain ⟨v,hv,_⟩:=hcell' i y hy j d hd
        simp only [hv,Option.getD_some]) (λ i e hi j d hd=>by
        simp only [JhW,JhV] at hi
        obtain ⟨y,hy,rfl⟩:=hi
        obtain ⟨v,hv,hr⟩:=hcell' i y hy j d hd
        simp only [hv,Option.getD_some]
        exact hr)
      rw [hlen] at this
      exact this
    ·cases hv0
theorem EE {F:Nat->Option Obj} {l m:List D} {cs:List Value} {o n:Nat} (h:CRd F l ((cs.drop o).take n)) (hn:Nat.beq l.length n=true) (h':CRd F m (cs.drop (o+n))):CRd F (l++m) (cs.drop o):=by
 have hn:=JhZ hn
 have e:cs.drop o=(cs.drop o).take n++cs.drop (o+n):=by rw [← List.drop_drop,List.take_append_drop]
 rw [e]
 refine ⟨by simp only [List.length_append,h.1,h'.1],λ i y v hy hv=>?_⟩
 rcases Nat.lt_or_ge i l.length with hlt|hge
 ·rw [Jh0 hlt] at hy
  rw [Jh0 (by rw [← h.1];exact hlt)] at hv
  exact h.2 i y v hy hv
 ·rw [Jh9 hge] at hy
  rw [Jh9 (by rw [← h.1];exact hge),← h.1] at hv
  exact h'.2 _ y v hy hv
theorem S4 {F:Nat->Option Obj} {cs:List Value} {o:Nat} (h:cs.length<=o):CRd F [] (cs.drop o):=by
 rw [List.drop_eq_nil_of_le h];exact ⟨rfl,λ i y v hy=>by simp at hy⟩
theorem V3 {H:Type} {enc:TypeId×Value->H} {P:Program} {w:World} {base:Nat} {spare:Nat->Bool} {held:Bool} {fuel:Nat} {t e:TypeId} {n:Nat} {cs:List Value} {x:DataW H×List MemPlace} (ht:P.underlying t=some (.array n e)) (h:DataW.trod enc P w base spare held fuel t cs=some x) :
  ∃ m,cs.length=P.cellsOf t/\∀ i,i<n->∃ y,DataW.trod enc P w base spare held m e ((cs.drop (i*P.cellsOf e)).take (P.cellsOf e))=some y:=by
 cases fuel with
 | zero=>simp [DataW.trod] at h
 | succ m=>
  unfold DataW.trod at h
  rw [ht] at h
  split at h<;>simp_all
  obtain ⟨xs,hp,_⟩:=h.2
  refine ⟨m,λ i hi=>?_⟩
  obtain ⟨g1,g2⟩:=UI hp
  have:=g2 i i (by simp [hi])
  have hlt:i<xs.length:=by rw [g1];simpa using hi
  rw [JhS hlt] at this
  exact ⟨_,_,this.symm⟩
end Go.AI
end
section
namespace Go.AI
open Go.ChangeShapes Go.WideShapes Go.ChangeAt Go.RowKit
variable {P:Program} {H:Type} {en:TypeId×Value->H} {W W':World} {base:Nat} {spare:Nat->Bool} {held:Bool} {t e:TypeId} {v:Value} {d:DataW H} {ps:List MemPlace} {α:Type} {enc:α->List D} {ok:α->Prop}
theorem Jct {cs:Array Value} (hv:v=.agg cs) (hd:DataW.Trod en P W base spare held t v d ps) (hr:IQ P t enc ok):∃ a,ok a/\Af (λ b=>W.heap[b]?) noR (.agg ((enc a).map .d)) v:=by
 subst hv
 obtain ⟨fuel,hf⟩:=hd
 obtain ⟨a,h1,h2,h3⟩:=hr H en W base spare held fuel _ _ hf
 refine ⟨a,h1,.agg _ _ (by simpa [Value.cells] using h2) λ i x u hx hu=>?_⟩
 simp only [JhW,JhV] at hx
 obtain ⟨y,hy,rfl⟩:=hx
 exact .d _ _ (h3 i y u hy (by simpa [Value.cells] using hu))
theorem Jcu {y:α->D} (hc:v.cells=#[v]) (hd:DataW.Trod en P W base spare held t v d ps) (hr:IQ P t enc ok) (he:∀ a,enc a=[y a]):∃ a,ok a/\Af (λ b=>W.heap[b]?) noR (.d (y a)) v:=by
 obtain ⟨fuel,hf⟩:=hd
 obtain ⟨a,h1,h2,h3⟩:=hr H en W base spare held fuel _ _ hf
 refine ⟨a,h1,.d _ _ (h3 0 (y a) v (by rw [he];rfl) (by rw [hc];rfl))⟩
theorem Jf5 {F:Nat->Option Obj} {ρ:Nat->Option Loc}:CR F ρ [] []:=⟨rfl,λ i a v h=>by simp at h⟩
theorem WH {F:Nat->Option Obj} {ρ:Nat->Option Loc} {a:AV} {v:Value} {l:List AV} {vs:List Value} (h:Af F ρ a v) (h':CR F ρ l vs):CR F ρ (a::l) (v::vs):=by
 refine ⟨by simp [h'.1],λ i x u hx hu=>?_⟩
 cases i with
 | zero=>simp at hx hu;subst hx;subst hu;exact h
 | succ i=>exact h'.2 i x u (by simpa using hx) (by simpa using hu)
theorem fld {w:World} {fuel:Nat} {cs:List Value} {fs:Array Field} {xs:List (DataW H×List MemPlace)} (hg:∀ (i:Nat) (f:Field),fs[i]? = some f->DataW.trod en P w base spare held fuel f.type ((cs.drop f.offset).take (P.cellsOf f.type))=xs[i]?) (hxl:xs.length=fs.size) (i:Nat) {f:Field} (hf:fs[i]? = some f) (u o n:Nat) (hu:f.type=u) (ho:f.offset=o) (hn:P.cellsOf u=n) (hr:IQ P u enc ok) :
  ∃ a,ok a/\CRd (λ b=>w.heap[b]?) (enc a) ((cs.drop o).take n):=by
 have:=hg i f hf
 have hi:i<xs.length:=by rw [hxl];exact Ap hf
 rw [JhS hi,hu,ho,hn] at this
 exact hr H en w base spare held fuel _ _ this
theorem Jhc {w:World} {fuel:Nat} {cs:List Value} {m:Nat} (hg:∀ i,i<m->∃ y,DataW.trod en P w base spare held fuel e ((cs.drop (i*P.cellsOf e)).take (P.cellsOf e))=some y) (i:Nat) (hi:Nat.ble (i+1) m=true) (o n:Nat) (hn:P.cellsOf e=n) (ho:i*n=o) (hr:IQ P e enc ok) :
  ∃ a,ok a/\CRd (λ b=>w.heap[b]?) (enc a) ((cs.drop o).take n):=by
 obtain ⟨y,hy⟩:=hg i (Jh6 hi)
 rw [hn,ho] at hy
 exact hr H en w base spare held fuel _ _ hy
theorem JaW {f:FuncId} {args:List AV} {vs:Array Value} (hc:AN P f args (.d (.bool true))) (hcr:CR (λ b=>W.heap[b]?) noR args vs.toList):Calls P f vs W λ e W'=>e=.returned (.bool true)/\(∀ before:List MemPlace,W.keptBut W' (·∈before))/\∀ b,b<W.heap.size->W'.heap[b]? = W.heap[b]? := by
 refine (hc.2 (λ b=>W.heap[b]?) W vs hcr λ b o h=>h).mono λ e W' h=>?_
 obtain ⟨v,F',ρ,rfl,hS,hr,hmu⟩:=h
 have hv:v=.bool true:=by
  have:(BS true 0 (.d (.bool true))).1=.d (.bool true):=rfl
  rw [this] at hr
  exact hr.bool
 subst hv
 have hold:∀ b,b<W.heap.size->W'.heap[b]? = W.heap[b]? := λ b hb=>hS.old b (by omega)
 refine ⟨rfl,λ before=>World.keptBut_mono (λ p hp=>hp.elim) (?_:W.keptBut W' λ _=>False),hold⟩
 refine ⟨hmu.1,hmu.2.1,λ i hi=>?_⟩
 rw [hold i hi]
 cases hh:W.heap[i]? with
 | none=>rfl
 | some o=>cases o<;>first|exact ⟨rfl,rfl,rfl,λ _ _=>rfl⟩|exact .inr ⟨rfl,rfl⟩|rfl
theorem XK {f:Func} {s:ChangeSpec} {apart fresh handsOn again:Bool} {args:Array Value} {ds gs:List (DataW H)} {before pa pv:List MemPlace}
  (hW:DataW.Whole en P f.params.toList s.vars apart W args.toList ds gs before)
  (hres:∀ (b:Nat) (sp:Nat->Bool) (hd:Bool),DataW.TrodAll en P W' b sp hd f.resultTypes.toList (v.resultList f.resultTypes.size) (s.fn H (ds++gs)).results [])
  (hargs:∀ sp:Nat->Bool,(∀ p∈before,sp p.block=true)->DataW.TrodAll en P W' 0 sp true f.params.toList args.toList (s.fn H (ds++gs)).args pa)
  (hvars:∀ sp:Nat->Bool,(∀ p∈before,sp p.block=true)->DataW.TrodVars en P W' sp s.vars (s.fn H (ds++gs)).vars pv)
  (hps:before=pa++pv) (hk:W.keptBut W' (·∈before)) (hold:∀ b,b<W.heap.size->W'.heap[b]? = W.heap[b]?)
  (hok:∀ (j:Nat) (t:TypeId) (r:Value),f.resultTypes[j]? = some t->(v.resultList f.resultTypes.size)[j]? = some r->Value.okWide P W' .any 0 t r) :
  s.post en P f apart fresh handsOn again W args v W':=by
 have hin:∀ p∈before,(λ b=>decide (b<W.heap.size)) p.block=true:=λ p hp=>by simpa using hW.lt p hp
 have hlt:=hW.lt
 refine ⟨ds,gs,before,[],pa,pv,hW,hres _ _ _,hargs _ hin,hvars _ hin,World.keptBut_mono (λ p hp=>⟨hp,?_⟩) hk,λ _=>?_⟩
 ·rw [hps,List.mem_append] at hp
  exact Or.inr hp
 ·obtain ⟨_,_,_,_,_,hz,hn⟩:=hW
  refine ⟨hok,_,_,([]++pa)++pv,⟨[]++pa,pv,trodAll_append (hargs _ (λ _ _=>rfl)) (hres _ _ _),hvars _ (λ _ _=>rfl),rfl,?_,?_⟩,?_⟩
  ·intro b off hp
   have hp:MemPlace.cell b off∈before:=by rw [hps];simpa using hp
   have:=hz b off hp
   simp only [World.frozen?,hold b (hlt _ hp)] at this ⊢
   exact this
  ·intro ha
   have:=hn ha
   rw [hps] at this
   simpa using this
  ·intro p hp _
   rw [hps]
   simpa using hp
theorem Jc4 (hl:laidOutB P=true) (hr:P.readableRec t=true) (hrow:t<P.types.size) (h:DataW.Trod en P W 0 (λ _=>true) true t v d ps) (hb:∀ p∈ps,p.block<W.heap.size) {sp:Nat->Bool} (hs:∀ p∈ps,sp p.block=true) (hold:∀ b,b<W.heap.size->W'.heap[b]? = W.heap[b]?):DataW.Trod en P W' 0 sp true t v d ps:=by
 refine WideElems.Trod_stays hl hr hrow h (λ p hp=>?_) hs
 have:=hb p hp
 cases p with
 | cell b o=>exact World.cell?_of_block (w:=W) (hold b this)
 | map b=>exact hold b this
end Go.AI
end
section
namespace Go.AI
open Go.Proofs Go.ChangeShapes Go.WideShapes Go.ChangeAt Go.RowKit
def okI (k:IntKind) (n:Int):Prop:=(Lit.int k n).wf=true
theorem rd5:IQ Try.prog 5 eU8 (okI .u8):=XJ Try.underlying5
theorem Jf6:IQ Try.prog 50 (eL eU8) (λ l=>∀ a∈l,okI .u8 a):=Oa (sz:=1) Try.underlying50 (by kernel_rfl) rfl (λ _=>rfl) rd5
theorem JhN:IQ Try.prog 67 (Jha eU8) (λ x=>okI .u8 x.a0/\okI .u8 x.a1):=by
 intro H e w base spare held fuel cs x h
 obtain ⟨m,hcl,hg⟩:=V3 Try.underlying67 h
 have hcl:cs.length=2:=hcl.trans (by kernel_rfl)
 obtain ⟨a0,k0,c0⟩:=Jhc hg 0 rfl 0 1 (by kernel_rfl) rfl rd5
 obtain ⟨a1,k1,c1⟩:=Jhc hg 1 rfl 1 1 (by kernel_rfl) rfl rd5
 refine ⟨⟨a0,a1⟩,⟨k0,k1⟩,?_⟩
 have:=EE c0 rfl (EE c1 rfl (S4 (Nat.le_of_eq hcl)))
 exact this
def Jv (x:Db):Prop:=(∀ a∈x.P,okI .u8 a)/\(∀ a∈x.C,okI .u8 a)/\okI .u8 x.L/\okI .u8 x.R/\(okI .u8 x.W.a0/\okI .u8 x.W.a1)
theorem JhO:IQ Try.prog 69 E7 Jv:=by
 intro H e w base spare held fuel cs x h
 obtain ⟨xs,n,_,_,hcl,hxl,hg⟩:=DataW.trod_struct Try.underlying69 h
 have hcl:cs.length=6:=hcl.trans (by kernel_rfl)
 obtain ⟨a0,k0,c0⟩:=fld hg hxl 0 rfl 50 0 1 rfl rfl (by kernel_rfl) Jf6
 obtain ⟨a1,k1,c1⟩:=fld hg hxl 1 rfl 50 1 1 rfl rfl (by kernel_rfl) Jf6
 obtain ⟨a2,k2,c2⟩:=fld hg hxl 2 rfl 5 2 1 rfl rfl (by kernel_rfl) rd5
 obtain ⟨a3,k3,c3⟩:=fld hg hxl 3 rfl 5 3 1 rfl rfl (by kernel_rfl) rd5
 obtain ⟨a4,k4,c4⟩:=fld hg hxl 4 rfl 67 4 2 rfl rfl (by kernel_rfl) JhN
 refine ⟨⟨a0,a1,a2,a3,a4⟩,⟨k0,k1,k2,k3,k4⟩,?_⟩
 have:=EE c0 rfl (EE c1 rfl (EE c2 rfl (EE c3 rfl (EE c4 rfl (S4 (Nat.le_of_eq hcl))))))
 exact this
theorem JhP:IQ Try.prog 22 (eL E7) (λ l=>∀ a∈l,Jv a):=Oa (sz:=6) Try.underlying22 (by kernel_rfl) rfl (λ _=>rfl) JhO
def V4 (x:Kw):Prop:=okI .u8 x.Base/\okI .u8 x.Drop/\(∀ a∈x.More,Jv a)
theorem JhQ:IQ Try.prog 24 Jhb V4:=by
 intro H e w base spare held fuel cs x h
 obtain ⟨xs,n,_,_,hcl,hxl,hg⟩:=DataW.trod_struct Try.underlying24 h
 have hcl:cs.length=3:=hcl.trans (by kernel_rfl)
 obtain ⟨a0,k0,c0⟩:=fld hg hxl 0 rfl 5 0 1 rfl rfl (by kernel_rfl) rd5
 obtain ⟨a1,k1,c1⟩:=fld hg hxl 1 rfl 5 1 1 rfl rfl (by kernel_rfl) rd5
 obtain ⟨a2,k2,c2⟩:=fld hg hxl 2 rfl 22 2 1 rfl rfl (by kernel_rfl) JhP
 refine ⟨⟨a0,a1,a2⟩,⟨k0,k1,k2⟩,?_⟩
 have:=EE c0 rfl (EE c1 rfl (EE c2 rfl (S4 (Nat.le_of_eq hcl))))
 exact this
end Go.AI
end
section
namespace Go.AI
def Le {α:Type} (a b:Option α):Prop:=∀ z,a=some z->b=some z
theorem Le.refl {α:Type} (a:Option α):Le a a:=λ _ h=>h
theorem Le.bind {α β:Type} {a a':Option α} {f f':α->Option β} (h:Le a a') (hf:∀ x,Le (f x) (f' x)):Le (a.bind f) (a'.bind f'):=by
 intro z hz
 obtain ⟨x,h1,h2⟩:=bind_some hz
 rw [h x h1]
 exact hf x z h2
theorem Le.ite {α:Type} {c:Prop} [Decidable c] {a a' b b':Option α} (h:Le a a') (h':Le b b'):Le (if c then a else b) (if c then a' else b'):=by
 split
 ·exact h
 ·exact h'
theorem Le.whl {σ ρ:Type} {body body':σ->Option (σ⊕ρ)} (hb:∀ x,Le (body x) (body' x)):∀ {n m:Nat},n<=m->∀ x,Le (whl body n x) (whl body' m x):=by
 intro n
 induction n with
 | zero=>intro m _ x z hz;cases hz
 | succ n ih=>
  intro m hm x z hz
  cases m with
  | zero=>omega
  | succ m=>
   simp only [Go.AI.whl] at hz ⊢
   cases hx:body x with
   | none=>rw [hx] at hz;cases hz
   | some y=>
    rw [hb x y hx]
    rw [hx] at hz
    cases y with
    | inl y=>exact ih (by omega) y z hz
    | inr r=>exact hz
theorem Le.sum {α β γ:Type} {y:α⊕β} {f f':α->Option γ} {g g':β->Option γ} (hf:∀ a,Le (f a) (f' a)) (hg:∀ b,Le (g b) (g' b)):Le (match y with | .inl a=>f a | .inr b=>g b) (match y with | .inl a=>f' a | .inr b=>g' b):=by
 cases y with
 | inl a=>exact hf a
 | inr b=>exact hg b
def Ev {α:Type} (f:Nat->Option α) (z:α):Prop:=∃ n,∀ m,n<=m->f m=some z
theorem Ev.const {α:Type} {z:α}:Ev (λ _=>some z) z:=⟨0,λ _ _=>rfl⟩
theorem Ev.of {α:Type} {f:Nat->Option α} {z:α} (hm:∀ n m,n<=m->Le (f n) (f m)) {n:Nat} (h:f n=some z):Ev f z:=⟨n,λ m hnm=>hm n m hnm z h⟩
theorem Ev.all {α:Type} {f:Nat->Option α} {z:α} (h:∀ n,f n=some z):Ev f z:=⟨0,λ m _=>h m⟩
theorem Ev.bind {α β:Type} {f:Nat->Option α} {g:Nat->α->Option β} {x:α} {z:β} (h:Ev f x) (hg:Ev (λ n=>g n x) z):Ev (λ n=>(f n).bind (g n)) z:=by
 obtain ⟨n,hn⟩:=h
 obtain ⟨m,hm⟩:=hg
 refine ⟨max n m,λ k hk=>?_⟩
 show (f k).bind (g k)=_
 rw [hn k (by omega)]
 exact hm k (by omega)
theorem Ev.out {α:Type} {f:Nat->Option α} {z:α} (h:Ev f z):∃ n,f n=some z:=by
 obtain ⟨n,hn⟩:=h
 exact ⟨n,hn n (Nat.le_refl n)⟩
theorem Ev.congr {α:Type} {f g:Nat->Option α} {z:α} (h:Ev f z) (e:∀ n,g n=f n):Ev g z:=by
 obtain ⟨n,hn⟩:=h
 exact ⟨n,λ m hm=>by rw [e m];exact hn m hm⟩
theorem Ev.whl {σ ρ:Type} {body:Nat->σ->Option (σ⊕ρ)} {r:ρ} (I:Nat->σ->Prop) (h:∀ k x,I k x->(∃ y j,j<k/\I j y/\Ev (λ n=>body n x) (.inl y))\/Ev (λ n=>body n x) (.inr r)):∀ (k:Nat) (x:σ),I k x->Ev (λ n=>Go.AI.whl (body n) n x) r:=by
 have key:∀ (k:Nat) (x:σ),I k x->∃ N c,∀ n fuel,N<=n->c<=fuel->Go.AI.whl (body n) fuel x=some r:=by
  intro k
  induction k using Nat.strongRecOn with
  | _ k ih=>
   intro x hx
   rcases h k x hx with ⟨y,j,hj,hy,N1,h1⟩|⟨N1,h1⟩
   ·obtain ⟨N2,c,h2⟩:=ih j hj y hy
    refine ⟨max N1 N2,c+1,λ n fuel hn hf=>?_⟩
    cases fuel with
    | zero=>omega
    | succ fuel=>
     have e:=h1 n (by omega)
     simp only at e
     simp only [Go.AI.whl,e]
     exact h2 n fuel (by omega) (by omega)
   ·refine ⟨N1,1,λ n fuel hn hf=>?_⟩
    cases fuel with
    | zero=>omega
    | succ fuel=>
     have e:=h1 n hn
     simp only at e
     simp only [Go.AI.whl,e]
 intro k x hx
 obtain ⟨N,c,hh⟩:=key k x hx
 exact ⟨max N c,λ m hm=>hh m m (by omega) (by omega)⟩
end Go.AI
end
section
namespace Go.AI
theorem lr {α:Type} {x:Option α}:Le x x:=Le.refl x
theorem NA {n m} (_:n<=m) (a b):Le (FZ n a b) (FZ m a b):=.ite (.bind lr λ _=>.bind lr λ _=>.bind lr λ _=>lr) lr
theorem Rg {n m} (h:n<=m):Le (Jk n) (Jk m):=.bind (Le.whl (λ _=>NA h _ _) h _) λ _=>lr
theorem L9 {n m} (_:n<=m) (a):Le (Dr n a) (Dr m a):=lr
theorem Qy {n m} (h:n<=m) (a b):Le (E0 n a b) (E0 m a b):=.ite (.bind lr λ _=>.bind (L9 h _) λ _=>.ite lr lr) lr
theorem UJ {n m} (h:n<=m) (a):Le (Iz n a) (Iz m a):=.bind (Le.whl (λ _=>Qy h _ _) h _) λ y2=>by rcases y2 with _|_;exact lr;exact lr
theorem Jw {n m} (_:n<=m) (a):Le (E1 n a) (E1 m a):=.ite lr (.ite lr (.ite lr (.ite lr lr)))
theorem Ma {n m} (h:n<=m) (a b):Le (CN n a b) (CN m a b):=.ite (.bind lr λ _=>.bind (Jw h _) λ _=>.ite lr lr) lr
theorem OG {n m} (h:n<=m) (a):Le (D4 n a) (D4 m a):=.bind (Le.whl (λ _=>Ma h _ _) h _) λ y5=>by rcases y5 with _|_;exact lr;exact lr
theorem S5 {n m} (_:n<=m) (a):Le (IA n a) (IA m a):=lr
theorem OH {n m} (h:n<=m) (a b):Le (D5 n a b) (D5 m a b):=.ite (.bind lr λ _=>.bind (S5 h _) λ _=>.ite lr lr) lr
theorem S6 {n m} (h:n<=m) (a b):Le (GY n a b) (GY m a b):=.ite lr (.bind (UJ h _) λ _=>.ite lr (.ite lr (.ite lr (.bind (OG h _) λ _=>.ite (.bind (Le.ite (lr) (lr)) λ _=>lr) (.bind (Le.whl (λ _=>OH h _ _) h _) λ y8=>by rcases y8 with _|_;exact lr;exact lr)))))
theorem OI {n m} (_:n<=m) (a b c):Le (D6 n a b c) (D6 m a b c):=.ite (.bind lr λ _=>.bind lr λ _=>.ite lr lr) lr
theorem S7 {n m} (h:n<=m) (a b):Le (GZ n a b) (GZ m a b):=.ite lr (.bind (Le.whl (λ _=>OI h _ _ _) h _) λ y11=>by rcases y11 with _|_;exact lr;exact lr)
theorem S8 {n m} (h:n<=m) (a b):Le (G0 n a b) (G0 m a b):=.bind (Le.ite (S7 h _ _) (lr)) λ _=>lr
theorem OJ {n m} (h:n<=m) (a b c d e):Le (Dg n a b c d e) (Dg m a b c d e):=.ite (.bind lr λ _=>.bind (S8 h _ _) λ _=>.ite lr lr) lr
theorem OK {n m} (h:n<=m) (a b):Le (Dh n a b) (Dh m a b):=.ite (.bind lr λ _=>.bind (S6 h _ _) λ _=>.ite lr (.bind lr λ _=>.bind (Le.whl (λ _=>OJ h _ _ _ _ _) h _) λ y14=>by rcases y14 with _|_;exact lr;exact lr)) lr
theorem S9 {n m} (h:n<=m) (a):Le (G1 n a) (G1 m a):=.ite lr (.bind (Le.ite (lr) (lr)) λ _=>.ite lr (.ite lr (.bind (Le.whl (λ _=>OK h _ _) h _) λ y17=>by rcases y17 with _|_;exact lr;exact lr)))
theorem Jx {n m} (h:n<=m) (a):Le (FP n a) (FP m a):=.bind (S9 h _) λ _=>lr
theorem Ta {n m} (_:n<=m):Le (IB n) (IB m):=lr
theorem Jy {n m} (_:n<=m) (a b):Le (GN n a b) (GN m a b):=.bind (Le.ite (lr) (lr)) λ _=>lr
theorem Oc {n m} (h:n<=m) (a b c):Le (Hc n a b c) (Hc m a b c):=.ite lr (.bind lr λ _=>.bind (Le.ite (Jy h _ _) (lr)) λ _=>.ite lr (.ite (.ite lr lr) (.bind lr λ _=>.bind (Jw h _) λ _=>.bind (Jy h _ _) λ _=>.ite lr (.bind lr λ _=>.bind (Jw h _) λ _=>lr))))
theorem HV {n m} (_:n<=m) (a b c d):Le (Ck n a b c d) (Ck m a b c d):=lr
theorem HW {n m} (h:n<=m) (a b c d e f):Le (CE n a b c d e f) (CE m a b c d e f):=.bind lr λ _=>.bind lr λ _=>HV h _ _ _ _
theorem MX {n m} (h:n<=m) (a b c d e f):Le (Bq n a b c d e f) (Bq m a b c d e f):=.ite (.bind lr λ _=>.bind (Oc h _ _ _) λ _=>.ite (HV h _ _ _ _) (.ite (.bind lr λ _=>.bind lr λ _=>HW h _ _ _ _ _ _) (HW h _ _ _ _ _ _))) lr
theorem MY {n m} (h:n<=m) (a b c d e):Le (Cl n a b c d e) (Cl m a b c d e):=.ite (.bind (Le.whl (λ _=>MX h _ _ _ _ _ _) h _) λ _=>lr) lr
theorem K6 {n m} (h:n<=m) (a):Le (DT n a) (DT m a):=.bind (Ta h) λ _=>.bind (Le.whl (λ _=>MY h _ _ _ _ _) h _) λ _=>lr
theorem Rh {n m} (h:n<=m) (a):Le (Hd n a) (Hd m a):=.bind (K6 h _) λ _=>lr
theorem K7 {n m} (h:n<=m) (a b):Le (DU n a b) (DU m a b):=.bind (Le.ite (Jy h _ _) (lr)) λ _=>.bind (Le.ite (Jy h _ _) (lr)) λ _=>lr
theorem J2 {n m} (_:n<=m) (a b c):Le (Di n a b c) (Di m a b c):=lr
theorem OL {n m} (h:n<=m) (a b c d e):Le (CZ n a b c d e) (CZ m a b c d e):=.ite (.bind lr λ _=>.bind (K7 h _ _) λ _=>.ite (.bind lr λ _=>.bind lr λ _=>.bind lr λ _=>J2 h _ _ _) (J2 h _ _ _)) lr
theorem J3 {n m} (_:n<=m) (a b c):Le (Dj n a b c) (Dj m a b c):=lr
theorem OM {n m} (h:n<=m) (a b c d e):Le (C0 n a b c d e) (C0 m a b c d e):=.ite (.bind lr λ _=>.bind lr λ _=>.ite (.bind lr λ _=>.bind lr λ _=>.bind lr λ _=>J3 h _ _ _) (J3 h _ _ _)) lr
theorem ON {n m} (h:n<=m) (a b c):Le (D7 n a b c) (D7 m a b c):=.ite (.bind lr λ _=>.bind lr λ _=>.bind lr λ _=>.bind (Le.whl (λ _=>OM h _ _ _ _ _) h _) λ _=>lr) lr
theorem Tb {n m} (h:n<=m) (a):Le (G2 n a) (G2 m a):=.bind (K6 h _) λ _=>.bind lr λ _=>.bind (Le.whl (λ _=>OL h _ _ _ _ _) h _) λ _=>.bind (Le.whl (λ _=>ON h _ _ _) h _) λ _=>lr
theorem NB {n m} (_:n<=m) (a b c):Le (Dv n a b c) (Dv m a b c):=.bind (Le.ite (lr) (lr)) λ _=>.bind (Le.ite (lr) (lr)) λ _=>.ite lr lr
theorem Ig {n m} (h:n<=m) (a b):Le (DV n a b) (DV m a b):=.bind (Le.whl (λ _=>NB h _ _ _) h _) λ _=>lr
theorem GI {n m} (_:n<=m) (a b c):Le (Bi n a b c) (Bi m a b c):=.ite (.bind lr λ _=>.bind lr λ _=>lr) lr
theorem Mb {n m} (_:n<=m) (a b c d):Le (Ct n a b c d) (Ct m a b c d):=.ite (.bind lr λ _=>lr) lr
theorem Hk {n m} (_:n<=m) (a b):Le (CO n a b) (CO m a b):=lr
theorem Mc {n m} (h:n<=m) (a b c d e f g):Le (B4 n a b c d e f g) (B4 m a b c d e f g):=.ite (.bind lr λ _=>.bind (Oc h _ _ _) λ _=>.bind (Le.ite (lr) (lr)) λ _=>.ite (.bind lr λ _=>.bind lr λ _=>Hk h _ _) (Hk h _ _)) lr
theorem Md {n m} (h:n<=m) (a b c d e):Le (Cu n a b c d e) (Cu m a b c d e):=.ite (.bind lr λ _=>.bind (K7 h _ _) λ _=>.bind lr λ _=>.bind lr λ _=>.bind (Le.whl (λ _=>Mc h _ _ _ _ _ _ _) h _) λ _=>lr) lr
theorem J4 {n m} (h:n<=m) (a):Le (Dk n a) (Dk m a):=.bind (Rh h _) λ _=>.bind (Le.whl (λ _=>Mb h _ _ _ _) h _) λ _=>.bind lr λ _=>.bind lr λ _=>.bind (Tb h _) λ _=>.bind (Le.whl (λ _=>Md h _ _ _ _ _) h _) λ _=>lr
theorem FE {n m} (_:n<=m) (a b c d):Le (CF n a b c d) (CF m a b c d):=lr
theorem Ke {n m} (h:n<=m) (a b c d e f g i j k l):Le (Br n a b c d e f g i j k l) (Br m a b c d e f g i j k l):=.ite (.bind lr λ _=>.bind lr λ _=>.bind (Ig h _ _) λ _=>.ite (.bind (GI h _ _ _) λ _=>FE h _ _ _ _) (FE h _ _ _ _)) lr
theorem Kf {n m} (h:n<=m) (a b c d e f g i j):Le (Bs n a b c d e f g i j) (Bs m a b c d e f g i j):=.ite (.bind lr λ _=>.bind lr λ _=>.bind (Le.whl (λ _=>Ke h _ _ _ _ _ _ _ _ _ _ _) h _) λ _=>lr) lr
theorem Kg {n m} (h:n<=m) (a b c d e f g):Le (BK n a b c d e f g) (BK m a b c d e f g):=.ite (.bind lr λ _=>.bind (Le.whl (λ _=>Kf h _ _ _ _ _ _ _ _ _) h _) λ _=>lr) lr
theorem Hl {n m} (h:n<=m) (a b):Le (Cv n a b) (Cv m a b):=.bind lr λ _=>.bind lr λ _=>.ite lr (.bind (GI h _ _ _) λ _=>.bind (Le.whl (λ _=>Kg h _ _ _ _ _ _ _) h _) λ _=>lr)
theorem Er {n m} (_:n<=m) (a b c d):Le (CA n a b c d) (CA m a b c d):=lr
theorem LA {n m} (_:n<=m) (a b c d e f):Le (CB n a b c d e f) (CB m a b c d e f):=.ite lr lr
theorem EF {n m} (_:n<=m) (a b):Le (BG n a b) (BG m a b):=lr
theorem Ih {n m} (h:n<=m) (a b c d e f g):Le (Bj n a b c d e f g) (Bj m a b c d e f g):=.ite (.bind lr λ _=>.bind lr λ _=>.bind (Ig h _ _) λ _=>.ite (.bind (LA h _ _ _ _ _ _) λ _=>.ite lr (EF h _ _)) (.ite lr (EF h _ _))) lr
theorem Kh {n m} (h:n<=m) (a b c d e):Le (Cb n a b c d e) (Cb m a b c d e):=.bind lr λ _=>.bind (Le.whl (λ _=>Ih h _ _ _ _ _ _ _) h _) λ y35=>by rcases y35 with _|_;exact lr;exact lr
theorem Ft {n m} (_:n<=m) (a b):Le (B0 n a b) (B0 m a b):=lr
theorem Jz {n m} (h:n<=m) (a b c):Le (BB n a b c) (BB m a b c):=.ite (.bind lr λ _=>.bind lr λ _=>.ite (Ft h _ _) (Ft h _ _)) lr
theorem GK {n m} (h:n<=m) (a):Le (Cc n a) (Cc m a):=.bind (Le.whl (λ _=>Jz h _ _ _) h _) λ _=>lr
theorem Gm {n m} (_:n<=m) (a b):Le (C1 n a b) (C1 m a b):=lr
theorem Gn {n m} (h:n<=m) (a b c d e f):Le (BY n a b c d e f) (BY m a b c d e f):=.bind (Er h _ _ _ _) λ _=>.bind (Kh h _ _ _ _ _) λ _=>.ite (Gm h _ _) (.ite (Gm h _ _) lr)
theorem K8 {n m} (h:n<=m) (a b c d e f g i):Le (BF n a b c d e f g i) (BF m a b c d e f g i):=.ite (.bind lr λ _=>.bind (Le.ite (lr) (lr)) λ _=>.ite (Gn h _ _ _ _ _ _) (Gn h _ _ _ _ _ _)) lr
theorem K9 {n m} (h:n<=m) (a b c d e f):Le (BZ n a b c d e f) (BZ m a b c d e f):=.ite (.bind lr λ _=>.bind (Le.whl (λ _=>K8 h _ _ _ _ _ _ _ _) h _) λ _=>lr) lr
theorem HX {n m} (h:n<=m) (a b):Le (CG n a b) (CG m a b):=.bind (J4 h _) λ _=>.bind (Hl h _ _) λ _=>.bind (Le.whl (λ _=>K9 h _ _ _ _ _ _) h _) λ _=>lr
theorem Gp {n m} (_:n<=m) (a b c):Le (C2 n a b c) (C2 m a b c):=lr
theorem Dd {n m} (_:n<=m) (a b c d):Le (A0 n a b c d) (A0 m a b c d):=.ite lr (.ite (.bind lr λ _=>lr) (.bind lr λ _=>lr))
theorem IR {n m} (h:n<=m) (a b c d e f g i):Le (BN n a b c d e f g i) (BN m a b c d e f g i):=.ite (.bind (Dd h _ _ _ _) λ _=>lr) lr
theorem Eh {n m} (_:n<=m) (a b c d):Le (Bt n a b c d) (Bt m a b c d):=lr
theorem Hy {n m} (h:n<=m) (a b c d e f g i j):Le (Be n a b c d e f g i j) (Be m a b c d e f g i j):=.ite (.bind lr λ _=>.bind lr λ _=>.bind (Ig h _ _) λ _=>.ite (.bind (IR h _ _ _ _ _ _ _ _) λ _=>.ite lr (Eh h _ _ _ _)) (.ite lr (Eh h _ _ _ _))) lr
theorem Fu {n m} (h:n<=m) (a b c d e f g):Le (BC n a b c d e f g) (BC m a b c d e f g):=.bind lr λ _=>.bind (Le.whl (λ _=>Hy h _ _ _ _ _ _ _ _ _) h _) λ y42=>by rcases y42 with _|_;exact lr;exact lr
theorem Od {n m} (_:n<=m) (a):Le (IC n a) (IC m a):=.bind lr λ _=>lr
theorem EG {n m} (_:n<=m) (a b c d):Le (B8 n a b c d) (B8 m a b c d):=lr
theorem Ii {n m} (h:n<=m) (a b c d e f g i):Le (CH n a b c d e f g i) (CH m a b c d e f g i):=.ite (.bind lr λ _=>.ite (.bind (Dd h _ _ _ _) λ _=>EG h _ _ _ _) (EG h _ _ _ _)) lr
theorem EH {n m} (h:n<=m) (a b c d e f g i):Le (B9 n a b c d e f g i) (B9 m a b c d e f g i):=.bind (Er h _ _ _ _) λ _=>.bind (Fu h _ _ _ _ _ _ _) λ _=>.ite lr lr
theorem Ij {n m} (h:n<=m) (a b c d e f g):Le (CI n a b c d e f g) (CI m a b c d e f g):=.ite (.bind lr λ _=>.bind lr λ _=>.bind (Le.ite (lr) (lr)) λ _=>.ite (EH h _ _ _ _ _ _ _ _) (EH h _ _ _ _ _ _ _ _)) lr
theorem FF {n m} (h:n<=m) (a b c d):Le (BL n a b c d) (BL m a b c d):=.bind (Le.whl (λ _=>Ii h _ _ _ _ _ _ _ _) h _) λ _=>.bind (Le.whl (λ _=>Ij h _ _ _ _ _ _ _) h _) λ _=>.bind (Od h _) λ _=>lr
theorem LO {n m} (_:n<=m) (a b c d e):Le (He n a b c d e) (He m a b c d e):=lr
theorem EI {n m} (_:n<=m) (a b):Le (Ca n a b) (Ca m a b):=lr
theorem Ik {n m} (h:n<=m) (a b c d e):Le (Bk n a b c d e) (Bk m a b c d e):=.ite (.bind lr λ _=>.bind lr λ _=>.ite (.bind lr λ _=>.bind lr λ _=>EI h _ _) (EI h _ _)) lr
theorem FG {n m} (h:n<=m) (a b c):Le (BM n a b c) (BM m a b c):=.bind lr λ _=>.bind (Le.whl (λ _=>Ik h _ _ _ _ _) h _) λ _=>lr
theorem Ei {n m} (_:n<=m) (a b c d):Le (Bu n a b c d) (Bu m a b c d):=lr
theorem Hz {n m} (h:n<=m) (a b c d e f g i):Le (Bf n a b c d e f g i) (Bf m a b c d e f g i):=.ite (.bind lr λ _=>.ite (.bind (Dd h _ _ _ _) λ _=>Ei h _ _ _ _) (Ei h _ _ _ _)) lr
theorem Ej {n m} (h:n<=m) (a b c d e f g i):Le (Bg n a b c d e f g i) (Bg m a b c d e f g i):=.bind (Er h _ _ _ _) λ _=>.bind (Fu h _ _ _ _ _ _ _) λ _=>.ite lr lr
theorem HA {n m} (h:n<=m) (a b c d e f g i):Le (Bv n a b c d e f g i) (Bv m a b c d e f g i):=.ite (.bind lr λ _=>.bind lr λ _=>.bind (Le.ite (lr) (lr)) λ _=>.ite (Ej h _ _ _ _ _ _ _ _) (Ej h _ _ _ _ _ _ _ _)) lr
theorem Fv {n m} (h:n<=m) (a b c d):Le (Ba n a b c d) (Ba m a b c d):=.bind (Le.whl (λ _=>Hz h _ _ _ _ _ _ _ _) h _) λ _=>.bind (Le.whl (λ _=>HA h _ _ _ _ _ _ _ _) h _) λ _=>.bind (Od h _) λ _=>lr
theorem Ek {n m} (_:n<=m) (a b c d e f):Le (Bw n a b c d e f) (Bw m a b c d e f):=.bind lr λ _=>lr
theorem HB {n m} (h:n<=m) (a b c d e f g i j):Le (A3 n a b c d e f g i j) (A3 m a b c d e f g i j):=.ite (.bind lr λ _=>.bind (GK h _) λ _=>.ite (.bind lr λ _=>.bind lr λ _=>lr) (.bind lr λ _=>.bind lr λ _=>.bind (FG h _ _ _) λ _=>.bind (Fv h _ _ _ _) λ _=>.ite (.bind lr λ _=>.bind (LO h _ _ _ _ _) λ _=>.ite lr (Ek h _ _ _ _ _ _)) (.ite lr (Ek h _ _ _ _ _ _)))) lr
theorem El {n m} (h:n<=m) (a b c d e f g i):Le (Bx n a b c d e f g i) (Bx m a b c d e f g i):=.bind (Le.whl (λ _=>HB h _ _ _ _ _ _ _ _ _) h _) λ y50=>by rcases y50 with _|_;exact lr;exact lr
theorem JA {n m} (h:n<=m) (a b c d e f g):Le (B1 n a b c d e f g) (B1 m a b c d e f g):=.bind (FF h _ _ _ _) λ _=>.ite (.bind (LO h _ _ _ _ _) λ _=>.ite lr (El h _ _ _ _ _ _ _ _)) (.ite lr (El h _ _ _ _ _ _ _ _))
theorem La {n m} (h:n<=m) (a b):Le (Fk n a b) (Fk m a b):=.bind (Jx h _) λ _=>.ite lr (.bind (HX h _ _) λ _=>.bind (Gp h _ _ _) λ _=>.bind (JA h _ _ _ _ _ _ _) λ _=>.ite lr (.ite lr lr))
theorem Lc {n m} (_:n<=m) (a b c d e):Le (Gc n a b c d e) (Gc m a b c d e):=.ite lr (.bind lr λ _=>lr)
theorem DY {n m} (_:n<=m) (a b c d e f):Le (BO n a b c d e f) (BO m a b c d e f):=.bind lr λ _=>lr
theorem Hm {n m} (h:n<=m) (a b c d e f g i j):Le (Cs n a b c d e f g i j) (Cs m a b c d e f g i j):=.ite (.bind lr λ _=>.bind (GK h _) λ _=>.ite (.bind lr λ _=>.bind lr λ _=>lr) (.bind lr λ _=>.bind lr λ _=>.bind (FG h _ _ _) λ _=>.bind (Fv h _ _ _ _) λ _=>.ite (.bind lr λ _=>.bind (Lc h _ _ _ _ _) λ _=>.ite lr (DY h _ _ _ _ _ _)) (.ite lr (DY h _ _ _ _ _ _)))) lr
theorem DZ {n m} (h:n<=m) (a b c d e f g i):Le (BP n a b c d e f g i) (BP m a b c d e f g i):=.bind (Le.whl (λ _=>Hm h _ _ _ _ _ _ _ _ _) h _) λ y53=>by rcases y53 with _|_;exact lr;exact lr
theorem IS {n m} (h:n<=m) (a b c d e f g):Le (C3 n a b c d e f g) (C3 m a b c d e f g):=.bind (FF h _ _ _ _) λ _=>.ite (.bind (Lc h _ _ _ _ _) λ _=>.ite lr (DZ h _ _ _ _ _ _ _ _)) (.ite lr (DZ h _ _ _ _ _ _ _ _))
theorem JB {n m} (h:n<=m) (a b c):Le (G3 n a b c) (G3 m a b c):=.ite lr (.bind (Jx h _) λ _=>.ite lr (.bind (HX h _ _) λ _=>.bind (Gp h _ _ _) λ _=>.bind (IS h _ _ _ _ _ _ _) λ _=>.ite lr (.ite lr lr)))
theorem MZ {n m} (_:n<=m) (a b c):Le (Fl n a b c) (Fl m a b c):=.ite (.bind lr λ _=>.bind lr λ _=>.ite lr lr) lr
theorem Qz {n m} (h:n<=m) (a b):Le (HL n a b) (HL m a b):=.ite lr (.bind (Le.whl (λ _=>MZ h _ _ _) h _) λ y56=>by rcases y56 with _|_;exact lr;exact lr)
theorem Oe {n m} (h:n<=m) (a b):Le (Ge n a b) (Ge m a b):=.bind (Jx h _) λ _=>.ite lr (.bind (J4 h _) λ _=>.bind (Hl h _ _) λ _=>lr)
theorem Ri {n m} (h:n<=m):Le (Hf n) (Hf m):=.bind (Rg h) λ _=>.bind (La h _ _) λ _=>.bind (La h _ _) λ _=>.bind (La h _ _) λ _=>.bind (JB h _ _ _) λ _=>.bind (JB h _ _ _) λ _=>.bind (JB h _ _ _) λ _=>.bind (Le.ite (Qz h _ _) (lr)) λ _=>.bind (Le.ite (Oe h _ _) (lr)) λ _=>.bind (Le.ite (Oe h _ _) (lr)) λ _=>lr
end Go.AI
end
section
namespace Go.AI
theorem V5 (a:Int):IntKind.i64.wrap a=if decide (a % 18446744073709551616>=9223372036854775808)=true then a % 18446744073709551616-18446744073709551616 else a % 18446744073709551616:=rfl
theorem R4 (a:Int):IntKind.u8.wrap a=a % 256:=rfl
theorem Me {a:Int} (h:-9223372036854775808<=a) (h':a<9223372036854775808):IntKind.i64.wrap a=a:=by
 rw [V5]
 split
 ·rename_i hc;simp at hc;omega
 ·rename_i hc;simp at hc;omega
theorem Ld {a b:Int} (h:-9223372036854775808<=a+b) (h':a+b<9223372036854775808):Bp .i64 a b=a+b:=Me h h'
theorem Mf {a b:Int} (h:-9223372036854775808<=a-b) (h':a-b<9223372036854775808):DG .i64 a b=a-b:=Me h h'
theorem Jc5 {a:Int} (h:0<=a) (h':a<256):IntKind.u8.wrap a=a:=by
 rw [R4];omega
theorem UK (a:Int):0<=IntKind.u8.wrap a/\IntKind.u8.wrap a<256:=by
 rw [R4];omega
def LB (m k:Int):Bool:=decide (0<=k)&&decide (k<8)&&(Cn .u8 (JbV .u8 m k) 1==1)
theorem JaX (n:Nat) (m k:Int):GN n m k=some (LB m k):=by
 unfold GN LB
 by_cases h:0<=k
 ·by_cases h':k<8<;>simp [h,h',DQ]
 ·simp [h]
theorem JaY (n:Nat) (m k:Int):Jm n m k=some (LB m k):=by
 unfold Jm LB
 by_cases h:0<=k
 ·by_cases h':k<8<;>simp [h,h',DQ]
 ·simp [h]
def FR (b:Int):Int:=
 if (decide (97<=Cn .u8 b 127)&&decide (Cn .u8 b 127<=122))=true then 1
 else if (decide (65<=Cn .u8 b 127)&&decide (Cn .u8 b 127<=90))=true then 2
 else if (decide (48<=Cn .u8 b 127)&&decide (Cn .u8 b 127<=57))=true then 3
 else if (Cn .u8 b 127==32)=true then 4 else 5
theorem UL (n:Nat) (b:Int):E1 n b=some (FR b):=by
 unfold E1 FR
 split
 ·rfl
 ·split
  ·rfl
  ·split
   ·rfl
   ·split<;>rfl
theorem XL (n:Nat) (b:Int):IF n b=some (FR b):=by
 unfold IF FR
 simp only [ge_iff_le]
 split
 ·rfl
 ·split
  ·rfl
  ·split
   ·rfl
   ·split<;>rfl
theorem UM (b:Int):1<=FR b/\FR b<=5:=by
 unfold FR
 split
 ·omega
 ·split
  ·omega
  ·split
   ·omega
   ·split<;>omega
def R5 (s:List UInt8) (i:Nat):Int:=(s[i]?.getD 0).toNat
theorem M0 {s:List UInt8} {i:Nat} (h:i<s.length):Lw s (i:Int)=some (R5 s i):=by
 unfold Lw R5
 rw [if_pos (by omega)]
 simp
def WI:Aa:=⟨0,0,0⟩
def WJ (r:As) (s:Aa):Aa×Bool:=
 if ((r.From != s.Mode)||!LB r.Left s.Last)=true then (WI,false)
 else if (r.Print==[])=true then
  (if (Cn .u8 s.Need r.Right==0)=true then (WI,false) else (⟨r.To,s.Last,Cn .u8 s.Need r.Right⟩,true))
 else if (!LB s.Need (FR (R5 r.Print 0)))=true then (WI,false)
 else (⟨r.To,FR (R5 r.Print (r.Print.length-1)),r.Right⟩,true)
def A4 (t:Ab) (s:Aa) (k:Int):Aa×Bool:=
 if (decide (k<0)||decide (k>=(t.Rules.length:Int)))=true then (WI,false) else WJ (t.Rules[k.toNat]?.getD default) s
def JaZ (t:Ab):Prop:=∀ r∈t.Rules,r.Print.length<9223372036854775808
theorem QA {α:Type} [Inhabited α] {l:List α} {k:Int} (h:0<=k) (h':k<l.length):idx l k=some (l[k.toNat]?.getD default):=by
 unfold idx
 rw [if_pos h]
 have:k.toNat<l.length:=by omega
 simp [this]
theorem O3 {t:Ab} (ht:JaZ t) (n:Nat) (s:Aa) (k:Int):Hc n t s k=some (A4 t s k):=by
 unfold Hc A4
 by_cases hk:(decide (k<0)||decide (k>=(t.Rules.length:Int)))=true
 ·rw [if_pos hk,if_pos hk];rfl
 ·rw [if_neg hk,if_neg hk]
  simp only [Jia,decide_eq_true_eq,not_or,Int.not_lt,ge_iff_le,Int.not_le] at hk
  rw [QA hk.1 hk.2]
  have hmem:(t.Rules[k.toNat]?.getD default)∈t.Rules:=by
   have:k.toNat<t.Rules.length:=by omega
   simp [this]
  have hlen:=ht _ hmem
  generalize t.Rules[k.toNat]?.getD default=r at hlen ⊢
  simp only [Option.bind_some,JaX,UL]
  unfold WJ
  by_cases h1:r.From=s.Mode
  ·simp only [h1,bne_self_eq_false,Bool.not_false,if_true,Option.bind_some,Bool.false_or]
   by_cases h2:LB r.Left s.Last=true
   ·simp only [h2,Bool.not_true,Jh3,if_false]
    by_cases h3:r.Print=[]
    ·simp only [h3,beq_self_eq_true,if_true]
     split<;>rfl
    ·have h3':(r.Print==[])=false:=by simpa using h3
     have hpos:0<r.Print.length:=List.length_pos_iff.2 h3
     simp only [h3',Jh3,if_false]
     have e0:=M0 (s:=r.Print) (i:=0) hpos
     simp only [Int.natCast_zero] at e0
     rw [e0]
     have e1:DG .i64 ((r.Print.length:Nat):Int) 1=((r.Print.length-1:Nat):Int):=by rw [Mf (by omega) (by omega)];omega
     rw [e1,M0 (by omega)]
     simp only [Option.bind_some]
     split<;>rfl
   ·have h2:LB r.Left s.Last=false:=by simpa using h2
    simp only [h2,Bool.not_false,if_true];rfl
  ·have h1':(r.From != s.Mode)=true:=by simpa using h1
   simp only [h1',Bool.not_true,Jh3,if_false,Option.bind_some,Bool.true_or,if_true];rfl
end Go.AI
end
section
namespace Go.AI
theorem Ao {α:Type} {l:List α} {i:Nat} {x:α} (h:l[i]? = some x):i<l.length:=(List.getElem?_eq_some_iff.1 h).1
theorem UN {t:Ab} (ht:JaZ t) (n:Nat) (s:Aa) (k:Int):Kx n t s k=some (A4 t s k):=by
 unfold Kx A4
 by_cases hk:(decide (k<0)||decide (k>=(t.Rules.length:Int)))=true
 ·rw [if_pos hk,if_pos hk];rfl
 ·rw [if_neg hk,if_neg hk]
  simp only [Jia,decide_eq_true_eq,not_or,Int.not_lt,ge_iff_le,Int.not_le] at hk
  rw [QA hk.1 hk.2]
  have hmem:(t.Rules[k.toNat]?.getD default)∈t.Rules:=by
   have:k.toNat<t.Rules.length:=by omega
   simp [this]
  have hlen:=ht _ hmem
  generalize t.Rules[k.toNat]?.getD default=r at hlen ⊢
  simp only [Option.bind_some,JaY,XL]
  unfold WJ
  by_cases h1:r.From=s.Mode
  ·simp only [h1,bne_self_eq_false,Bool.not_false,if_true,Option.bind_some,Bool.false_or]
   by_cases h2:LB r.Left s.Last=true
   ·simp only [h2,Bool.not_true,Jh3,if_false]
    by_cases h3:r.Print=[]
    ·simp only [h3,List.length_nil,Int.natCast_zero,beq_self_eq_true,Bool.true_and,if_true]
     split<;>rfl
    ·have h3':(r.Print==[])=false:=by simpa using h3
     have hpos:0<r.Print.length:=List.length_pos_iff.2 h3
     have h4:(((r.Print.length:Nat):Int)==0)=false:=by simp;omega
     simp only [h3',h4,Bool.false_and,Jh3,if_false]
     have e0:=M0 (s:=r.Print) (i:=0) hpos
     simp only [Int.natCast_zero] at e0
     rw [e0]
     have e1:DG .i64 ((r.Print.length:Nat):Int) 1=((r.Print.length-1:Nat):Int):=by rw [Mf (by omega) (by omega)];omega
     rw [e1,M0 (by omega)]
     simp only [Option.bind_some]
     split<;>rfl
   ·have h2:LB r.Left s.Last=false:=by simpa using h2
    simp only [h2,Bool.not_false,if_true];rfl
  ·have h1':(r.From != s.Mode)=true:=by simpa using h1
   simp only [h1',Bool.not_true,Jh3,if_false,Option.bind_some,Bool.true_or,if_true];rfl
def AF (t:Ab) (s:Aa):Bool:=decide (s.Mode<t.Modes)&&LB t.Accept s.Mode&&LB s.Need 0
theorem QB (n:Nat) (t:Ab) (s:Aa):DU n t s=some (AF t s):=by
 unfold DU AF
 simp only [JaX]
 by_cases h1:s.Mode<t.Modes
 ·cases h2:LB t.Accept s.Mode<;>simp [h1]
 ·simp [h1]
theorem UO (n:Nat) (t:Ab) (s:Aa):HN n t s=some (AF t s):=by
 unfold HN AF
 simp only [JaY]
 have h0:¬ (0<=s.Mode)->LB t.Accept s.Mode=false:=λ h=>by simp [LB,h]
 by_cases h:0<=s.Mode
 ·by_cases h1:s.Mode<t.Modes
  ·cases h2:LB t.Accept s.Mode<;>simp [h,h1]
  ·simp [h1]
 ·simp [h,h0 h]
theorem eqS (a b:Aa):((a.Mode==b.Mode)&&((a.Last==b.Last)&&((a.Need==b.Need)&&true)))=decide (a=b):=by
 cases a;cases b
 simp [Bool.decide_and]
 rfl
def JC (l:List Aa) (s:Aa):Int:=match l.findIdx? (λ x=>decide (x=s)) with
 | some i=>i
 | none=>-1
theorem UP {l:List Aa} {s:Aa} (hl:l.length<9223372036854775807):Ev (λ n=>Lq n l s) (JC l s):=by
 have loop:Ev (λ n=>whl (λ x=>Dm n l s x) n (0:Int)) (match l.findIdx? (λ x=>decide (x=s)) with|some i=>(.inr (i:Int):Unit⊕Int)|none=>.inl ()):=by
  refine Ev.whl (body:=λ n x=>Dm n l s x) (λ k x=>∃ i:Nat,x=i/\i<=l.length/\k=l.length-i/\∀ j,j<i->∀ y,l[j]? = some y->y≠s) ?_ l.length 0 ⟨0,rfl,by omega,by omega,λ j hj=>by omega⟩
  rintro k x ⟨i,rfl,hi,rfl,hbefore⟩
  by_cases hlt:i<l.length
  ·have hg:l[i]? = some l[i]:=JhS hlt
   have hidx:idx l (i:Int)=some l[i]:=by
    unfold idx
    rw [if_pos (by omega)]
    simp
   by_cases he:l[i]=s
   ·right
    refine Ev.all λ n=>?_
    unfold Dm
    rw [if_pos (by simpa using hlt),hidx]
    simp only [Option.bind_some,eqS,he,decide_true,if_true]
    have:l.findIdx? (λ x=>decide (x=s))=some i:=by
     rw [List.findIdx?_eq_some_iff_getElem]
     refine ⟨hlt,by simpa using he,λ j hj=>?_⟩
     have hj':j<l.length:=by omega
     have:=hbefore j hj l[j] (JhS hj')
     simpa using this
    rw [this]
   ·left
    refine ⟨((i+1:Nat):Int),l.length-(i+1),by omega,⟨i+1,rfl,by omega,rfl,λ j hj y hy=>?_⟩,Ev.all λ n=>?_⟩
    ·by_cases hji:j=i
     ·subst hji;rw [hg] at hy;cases hy;exact he
     ·exact hbefore j (by omega) y hy
    ·unfold Dm
     rw [if_pos (by simpa using hlt),hidx]
     simp only [Option.bind_some,eqS,he,decide_false,Jh3,if_false]
     rw [Ld (by omega) (by omega)]
     rfl
  ·right
   have hi':i=l.length:=by omega
   subst hi'
   refine Ev.all λ n=>?_
   unfold Dm
   rw [if_neg (by simp)]
   have:l.findIdx? (λ x=>decide (x=s))=none:=by
    rw [List.findIdx?_eq_none_iff]
    intro y hy
    obtain ⟨j,hj⟩:=List.mem_iff_getElem?.1 hy
    have:=hbefore j (Ao hj) y hj
    simpa using this
   rw [this]
 refine (Ev.bind loop (g:=λ _ y=>match y with|Sum.inl _=>some (-1)|Sum.inr z=>some z) (z:=JC l s) ?_).congr λ n=>?_
 ·unfold JC
  cases l.findIdx? (λ x=>decide (x=s)) with
  | none=>exact Ev.const
  | some i=>exact Ev.const
 ·rfl
end Go.AI
end
section
namespace Go.AI
theorem V6 (a b:Int) (h:0<=b) (h':b<256):0<=Cn .u8 a b/\Cn .u8 a b<=b:=by
 unfold Cn
 have hb:(BitVec.ofInt 8 b).toNat=b.toNat:=by
  rw [BitVec.toNat_ofInt]
  omega
 have hle:(BitVec.ofInt 8 a &&& BitVec.ofInt 8 b).toNat<=b.toNat:=by
  rw [BitVec.toNat_and,hb];exact Nat.and_le_right
 have e:(BitVec.ofInt IntKind.u8.bits a &&& BitVec.ofInt IntKind.u8.bits b).toNat=(BitVec.ofInt 8 a &&& BitVec.ofInt 8 b).toNat:=rfl
 rw [e,Jc5 (by omega) (by omega)]
 omega
def Mg (r:As):Prop:=0<=r.To/\r.To<2/\0<=r.Right/\r.Right<=63/\r.Print.length<=3
def EJ (t:Ab):Prop:=t.Rules.length<=11/\∀ r∈t.Rules,Mg r
theorem EJ.short {t:Ab} (h:EJ t):JaZ t:=λ r hr=>by have:=(h.2 r hr).2.2.2.2;omega
def InU (s:Aa):Prop:=0<=s.Mode/\s.Mode<2/\0<=s.Last/\s.Last<=5/\0<=s.Need/\s.Need<=63
def Jf7:List Aa:=(List.range 768).map λ i=>⟨(i / 384:Nat),(i / 64 % 6:Nat),(i % 64:Nat)⟩
theorem Ja0 {s:Aa} (h:InU s):s∈Jf7:=by
 obtain ⟨h1,h2,h3,h4,h5,h6⟩:=h
 obtain ⟨m,l,d⟩:=s
 simp only at h1 h2 h3 h4 h5 h6
 simp only [Jf7,List.mem_map,List.mem_range]
 refine ⟨m.toNat*384+l.toNat*64+d.toNat,by omega,?_⟩
 have e1:(m.toNat*384+l.toNat*64+d.toNat) / 384=m.toNat:=by omega
 have e2:(m.toNat*384+l.toNat*64+d.toNat) / 64 % 6=l.toNat:=by omega
 have e3:(m.toNat*384+l.toNat*64+d.toNat) % 64=d.toNat:=by omega
 rw [e1,e2,e3]
 congr 1<;>omega
theorem Ja1 {l m:List Aa} (h:l.Nodup) (hs:∀ x∈l,x∈m):l.length<=m.length:=by
 induction l generalizing m with
 | nil=>simp
 | cons a l ih=>
  rw [List.nodup_cons] at h
  have ha:=hs a (by simp)
  have hlen:(m.erase a).length=m.length-1:=List.length_erase_of_mem ha
  have hpos:0<m.length:=List.length_pos_of_mem ha
  have:=ih (m:=m.erase a) h.2 λ x hx=>by
   have hne:x≠a:=λ e=>h.1 (e▸hx)
   exact (List.mem_erase_of_ne hne).2 (hs x (by simp [hx]))
  simp
  omega
theorem Ja2 {l:List Aa} (h:l.Nodup) (hs:∀ x∈l,InU x):l.length<=768:=by
 have:=Ja1 h λ x hx=>Ja0 (hs x hx)
 simpa [Jf7] using this
theorem Ja3 {t:Ab} (ht:EJ t) {s:Aa} (hs:InU s) {k:Int} (h:(A4 t s k).2=true):InU (A4 t s k).1:=by
 unfold A4 at h ⊢
 split at h
 ·cases h
 ·rename_i hk
  rw [if_neg hk]
  simp only [Jia,decide_eq_true_eq,not_or,Int.not_lt,ge_iff_le,Int.not_le] at hk
  have hmem:(t.Rules[k.toNat]?.getD default)∈t.Rules:=by
   have:k.toNat<t.Rules.length:=by omega
   simp [this]
  have hr:=ht.2 _ hmem
  generalize t.Rules[k.toNat]?.getD default=r at hr h ⊢
  obtain ⟨a1,a2,a3,a4,a5⟩:=hr
  obtain ⟨b1,b2,b3,b4,b5,b6⟩:=hs
  unfold WJ at h ⊢
  split at h
  ·cases h
  ·rename_i h1
   rw [if_neg h1]
   split at h
   ·rename_i h2
    rw [if_pos h2]
    split at h
    ·cases h
    ·rename_i h3
     rw [if_neg h3]
     have:=V6 s.Need r.Right a3 (by omega)
     exact ⟨a1,a2,b3,b4,this.1,by show Cn .u8 s.Need r.Right<=63;omega⟩
   ·rename_i h2
    rw [if_neg h2]
    split at h
    ·cases h
    ·rename_i h3
     rw [if_neg h3]
     have:=UM (R5 r.Print (r.Print.length-1))
     exact ⟨a1,a2,by show 0<=FR _;omega,by show FR _<=5;omega,a3,a4⟩
def Cd:Aa:=⟨0,0,63⟩
def JD (t:Ab) (s:Aa) (st:List Aa) (k:Nat):List Aa:=if (A4 t s k).2=true/\(A4 t s k).1 ∉ st then st++[(A4 t s k).1] else st
def IT (t:Ab) (s:Aa) (m:Nat) (st:List Aa):List Aa:=(List.range m).foldl (JD t s) st
theorem IU (t:Ab) (s:Aa) (m:Nat) (st:List Aa):IT t s (m+1) st=JD t s (IT t s m st) m:=by
 simp [IT,List.range_succ]
def QC (t:Ab):Nat->Nat->List Aa->List Aa
 | 0,_,st=>st
 | f+1,i,st=>match st[i]? with
  | some s=>QC t f (i+1) (IT t s t.Rules.length st)
  | none=>st
def AX (t:Ab):List Aa:=QC t 800 0 [Cd]
structure D0 (t:Ab) (st:List Aa):Prop where
 nodup:st.Nodup
 inU:∀ s∈st,InU s
 first:st[0]? = some Cd
 origin:∀ (j:Nat) (s:Aa),st[j]? = some s->0<j->∃ (i:Nat) (s':Aa) (k:Nat),i<j/\st[i]? = some s'/\k<t.Rules.length/\A4 t s' k=(s,true)
theorem D0.len {t:Ab} {st:List Aa} (h:D0 t st):st.length<=768:=Ja2 h.nodup h.inU
theorem D0.add {t:Ab} (ht:EJ t) {st:List Aa} (h:D0 t st) {i:Nat} {s:Aa} (hi:st[i]? = some s) {k:Nat} (hk:k<t.Rules.length):D0 t (JD t s st k):=by
 unfold JD
 split
 ·rename_i hc
  have hil:=Ao hi
  refine ⟨?_,λ x hx=>?_,?_,λ j x hj h0=>?_⟩
  ·rw [List.nodup_append]
   refine ⟨h.nodup,by simp,λ a ha b hb=>?_⟩
   simp at hb
   subst hb
   exact λ e=>hc.2 (e▸ha)
  ·simp only [List.mem_append,List.mem_singleton] at hx
   rcases hx with hx|rfl
   ·exact h.inU x hx
   ·exact Ja3 ht (h.inU s (JhU hi)) hc.1
  ·rw [Jh0 (by omega)];exact h.first
  ·rcases Nat.lt_or_ge j st.length with hlt|hge
   ·rw [Jh0 hlt] at hj
    obtain ⟨i',s',k',a1,a2,a3,a4⟩:=h.origin j x hj h0
    exact ⟨i',s',k',a1,by rw [Jh0 (by omega)];exact a2,a3,a4⟩
   ·rw [Jh9 hge] at hj
    have:j-st.length=0:=by have:=Ao hj;simp at this;omega
    rw [this] at hj
    simp at hj
    subst hj
    refine ⟨i,s,k,by omega,by rw [Jh0 hil];exact hi,hk,?_⟩
    exact Prod.ext rfl hc.1
 ·exact h
theorem UQ (t:Ab) (s:Aa) (st:List Aa) (k:Nat):st <+: JD t s st k:=by
 unfold JD
 split
 ·exact List.prefix_append _ _
 ·exact List.prefix_refl _
theorem Gq (t:Ab) (s:Aa) (st:List Aa):∀ m,st <+: IT t s m st:=by
 intro m
 induction m with
 | zero=>exact List.prefix_refl _
 | succ m ih=>rw [IU];exact ih.trans (UQ _ _ _ _)
theorem M3 {α:Type} {l m:List α} (h:l <+: m) {i:Nat} {x:α} (hi:l[i]? = some x):m[i]? = some x:=by
 obtain ⟨r,rfl⟩:=h
 rw [Jh0 (Ao hi)];exact hi
theorem D0.exp {t:Ab} (ht:EJ t) {st:List Aa} (h:D0 t st) {i:Nat} {s:Aa} (hi:st[i]? = some s):∀ m,m<=t.Rules.length->D0 t (IT t s m st):=by
 intro m
 induction m with
 | zero=>intro _;exact h
 | succ m ih=>
  intro hm
  rw [IU]
  exact (ih (by omega)).add ht (M3 (Gq t s st m) hi) (by omega)
theorem Ja4 (t:Ab) (s:Aa) (st:List Aa):∀ m k:Nat,k<m->(A4 t s k).2=true->(A4 t s k).1∈IT t s m st:=by
 intro m
 induction m with
 | zero=>intro k hk;omega
 | succ m ih=>
  intro k hk h
  rw [IU]
  by_cases e:k=m
  ·subst e
   unfold JD
   by_cases hc:(A4 t s k).1∈IT t s k st
   ·rw [if_neg (λ hh=>hh.2 hc)];exact hc
   ·rw [if_pos ⟨h,hc⟩];simp
  ·exact (UQ t s _ m).subset (ih k (by omega) h)
def QE (t:Ab) (i:Nat) (st:List Aa):Prop:=∀ (j:Nat) (s:Aa),j<i->st[j]? = some s->∀ k:Nat,k<t.Rules.length->(A4 t s k).2=true->(A4 t s k).1∈st
theorem Jf8 {t:Ab} (ht:EJ t):∀ (f i:Nat) (st:List Aa),D0 t st->QE t i st->768<f+i->D0 t (QC t f i st)/\∀ i',QE t i' (QC t f i st):=by
 intro f
 induction f with
 | zero=>
  intro i st h hd hf
  have:=h.len
  refine ⟨h,λ i' j s hj hs=>?_⟩
  have hs:st[j]? = some s:=hs
  exact hd j s (by have:=Ao hs;omega) hs
 | succ f ih=>
  intro i st h hd hf
  simp only [QC]
  cases hi:st[i]? with
  | none=>
   refine ⟨h,λ i' j s hj hs=>?_⟩
   have hs:st[j]? = some s:=hs
   exact hd j s (by have:=Ao hs;rw [List.getElem?_eq_none_iff] at hi;omega) hs
  | some s=>
   refine ih (i+1) _ (h.exp ht hi _ (Nat.le_refl _)) (λ j x hj hx k hk hk2=>?_) (by omega)
   by_cases e:j=i
   ·subst e
    have:=M3 (Gq t s st t.Rules.length) hi
    rw [this] at hx
    cases hx
    exact Ja4 t s st _ k hk hk2
   ·have hjl:j<st.length:=by have:=Ao hi;omega
    have hxx:st[j]? = some st[j]:=JhS hjl
    have:=M3 (Gq t s st t.Rules.length) hxx
    rw [this] at hx
    cases hx
    exact (Gq t s st t.Rules.length).subset (hd j _ (by omega) hxx k hk hk2)
theorem Dx {t:Ab} (ht:EJ t):D0 t (AX t)/\∀ i,QE t i (AX t):=by
 refine Jf8 ht 800 0 [Cd] ⟨by simp,λ s hs=>?_,rfl,λ j s hj h0=>?_⟩ (λ j s hj=>by omega) (by omega)
 ·simp at hs;subst hs;exact ⟨by decide,by decide,by decide,by decide,by decide,by decide⟩
 ·cases j with
  | zero=>omega
  | succ j=>simp at hj
end Go.AI
end
section
namespace Go.AI
theorem Ev.whlR {σ ρ:Type} {body:Nat->σ->Option (σ⊕ρ)} {R:ρ->Prop} (I:Nat->σ->Prop) (h:∀ k x,I k x->(∃ y j,j<k/\I j y/\Ev (λ n=>body n x) (.inl y))\/∃ r,R r/\Ev (λ n=>body n x) (.inr r)):∀ (k:Nat) (x:σ),I k x->∃ r,R r/\Ev (λ n=>Go.AI.whl (body n) n x) r:=by
 have key:∀ (k:Nat) (x:σ),I k x->∃ r,R r/\∃ N c,∀ n fuel,N<=n->c<=fuel->Go.AI.whl (body n) fuel x=some r:=by
  intro k
  induction k using Nat.strongRecOn with
  | _ k ih=>
   intro x hx
   rcases h k x hx with ⟨y,j,hj,hy,N1,h1⟩|⟨r,hr,N1,h1⟩
   ·obtain ⟨r,hr,N2,c,h2⟩:=ih j hj y hy
    refine ⟨r,hr,max N1 N2,c+1,λ n fuel hn hf=>?_⟩
    cases fuel with
    | zero=>omega
    | succ fuel=>
     have e:=h1 n (by omega)
     simp only at e
     simp only [Go.AI.whl,e]
     exact h2 n fuel (by omega) (by omega)
   ·refine ⟨r,hr,N1,1,λ n fuel hn hf=>?_⟩
    cases fuel with
    | zero=>omega
    | succ fuel=>
     have e:=h1 n hn
     simp only at e
     simp only [Go.AI.whl,e]
 intro k x hx
 obtain ⟨r,hr,N,c,hh⟩:=key k x hx
 exact ⟨r,hr,max N c,λ m hm=>hh m m (by omega) (by omega)⟩
def J5 (st:List Aa) (nb:List (Aa×Int)):Prop:=∀ s,CW s nb=(st.findIdx? λ x=>decide (x=s)).map λ i=>(i:Int)
theorem Do {st:List Aa} {s:Aa} {i:Nat} (hn:st.Nodup) (h:st[i]? = some s):(st.findIdx? λ x=>decide (x=s))=some i:=by
 have hi:=Ao h
 rw [List.findIdx?_eq_some_iff_getElem]
 have he:st[i]=s:=by rw [JhS hi] at h;exact Option.some.inj h
 refine ⟨hi,by simpa using he,λ j hj=>?_⟩
 simp only [Bool.not_eq_true,decide_eq_false_iff_not]
 intro e
 have:=(List.getElem_inj (i:=j) (j:=i) (h₀:=by omega) (h₁:=hi) hn).1 (by rw [e,he])
 omega
theorem GU {st:List Aa} {s:Aa} (h:s ∉ st):(st.findIdx? λ x=>decide (x=s))=none:=by
 rw [List.findIdx?_eq_none_iff]
 intro y hy
 simp only [decide_eq_false_iff_not]
 exact λ e=>h (e▸hy)
theorem NC {κ α:Type} [DecidableEq κ] (k k':κ) (v:α) (m:List (κ×α)):CW k' (DR k v m)=if k'=k then some v else CW k' m:=by
 induction m with
 | nil=>simp [DR,CW]
 | cons p m ih=>
  simp only [DR]
  by_cases h:k=p.1
  ·rw [if_pos h]
   simp only [CW]
   by_cases h':k'=k
   ·simp [h']
   ·have:k'≠p.1:=λ e=>h' (e.trans h.symm)
    simp [h',this]
  ·rw [if_neg h]
   simp only [CW]
   by_cases h':k'=p.1
   ·have:k'≠k:=λ e=>h (e▸h')
    rw [if_pos h',if_neg this,if_pos h']
   ·rw [if_neg h',if_neg h',ih]
theorem J5.snoc {st:List Aa} {nb:List (Aa×Int)} (h:J5 st nb) (hn:st.Nodup) {p:Aa} (hp:p ∉ st):J5 (st++[p]) (DR p (st.length:Nat) nb):=by
 intro s
 rw [NC]
 have hnd:(st++[p]).Nodup:=by
  rw [List.nodup_append]
  exact ⟨hn,by simp,λ a ha b hb=>by simp at hb;subst hb;exact λ e=>hp (e▸ha)⟩
 by_cases e:s=p
 ·subst e
  rw [if_pos rfl,Do hnd (i:=st.length) (by simp)]
  rfl
 ·rw [if_neg e,h s]
  by_cases hs:s∈st
  ·obtain ⟨i,hi⟩:=List.mem_iff_getElem?.1 hs
   rw [Do hn hi,Do hnd (i:=i) (by rw [Jh0 (Ao hi)];exact hi)]
  ·rw [GU hs,GU (by simp [hs,e])]
def Hn (i m j k:Nat):Prop:=j<i\/(j=i/\k<m)
structure C6 (t:Ab) (st:List Aa) (fr:List (List Int)) (i m:Nat):Prop where
 len:fr.length=st.length
 cov:∀ j s k,Hn i m j k->st[j]? = some s->k<t.Rules.length->(A4 t s (k:Nat)).2=true->(A4 t s (k:Nat)).1∈st
 sound:∀ (n:Nat) l,fr[n]? = some l->∀ x∈l,∃ (j:Nat) (s:Aa) (k:Nat) (s':Aa),x=(j:Int)/\st[j]? = some s/\k<t.Rules.length/\st[n]? = some s'/\A4 t s (k:Nat)=(s',true)
 compl:∀ (n:Nat) l,fr[n]? = some l->∀ (j:Nat) (s:Aa) (k:Nat) (s':Aa),Hn i m j k->st[j]? = some s->k<t.Rules.length->st[n]? = some s'->A4 t s (k:Nat)=(s',true)->(j:Int)∈l
 small:∀ (n:Nat) l,fr[n]? = some l->l.length<=i*11+m
theorem C6.snoc {t:Ab} {st:List Aa} {fr:List (List Int)} {i m:Nat} (h:C6 t st fr i m) {p:Aa} (hp:p ∉ st) (hi:i<st.length):C6 t (st++[p]) (fr++[[]]) i m:=by
 have hget:∀ (j:Nat) s,Hn i m j 0\/j<=i->(st++[p])[j]? = some s->st[j]? = some s:=λ j s hj hs=>by
  rcases Nat.lt_or_ge j st.length with hlt|hge
  ·rwa [Jh0 hlt] at hs
  ·rcases hj with (h1|⟨h1,_⟩)|h1<;>omega
 have hle:∀ {j k},Hn i m j k->j<=i:=λ h=>by rcases h with h|⟨h,_⟩<;>omega
 refine ⟨by simp [h.len],λ j s k ht hs hk h2=>?_,λ n l hl x hx=>?_,λ n l hl j s k s' ht hs hk hs' he=>?_,λ n l hl=>?_⟩
 ·exact List.mem_append_left _ (h.cov j s k ht (hget j s (.inr (hle ht)) hs) hk h2)
 ·rcases Nat.lt_or_ge n fr.length with hlt|hge
  ·rw [Jh0 hlt] at hl
   obtain ⟨j,s,k,s',a1,a2,a3,a4,a5⟩:=h.sound n l hl x hx
   exact ⟨j,s,k,s',a1,by rw [Jh0 (Ao a2)];exact a2,a3,by rw [Jh0 (Ao a4)];exact a4,a5⟩
  ·rw [Jh9 hge] at hl
   have:n-fr.length=0:=by have:=Ao hl;simp at this;omega
   rw [this] at hl;simp at hl;subst hl;simp at hx
 ·have hs0:=hget j s (.inr (hle ht)) hs
  have hmem:s'∈st:=by have:=h.cov j s k ht hs0 hk (by rw [he]);rwa [he] at this
  rcases Nat.lt_or_ge n fr.length with hlt|hge
  ·rw [Jh0 hlt] at hl
   rw [Jh0 (by rw [← h.len];exact hlt)] at hs'
   exact h.compl n l hl j s k s' ht hs0 hk hs' he
  ·have hn:n=st.length:=by have:=Ao hs';simp at this;rw [h.len] at hge;omega
   subst hn
   simp at hs'
   subst hs'
   exact absurd hmem hp
 ·rcases Nat.lt_or_ge n fr.length with hlt|hge
  ·rw [Jh0 hlt] at hl;exact h.small n l hl
  ·rw [Jh9 hge] at hl
   have:n-fr.length=0:=by have:=Ao hl;simp at this;omega
   rw [this] at hl;simp at hl;subst hl;simp
theorem C6.put {t:Ab} {st:List Aa} {fr:List (List Int)} {i m:Nat} (h:C6 t st fr i m) (hnd:st.Nodup) {s p:Aa} {q:Nat} {l:List Int} (hs:st[i]? = some s) (hm:m<t.Rules.length) (hst:A4 t s (m:Nat)=(p,true)) (hq:st[q]? = some p) (hl:fr[q]? = some l):C6 t st (fr.set q (l++[(i:Int)])) i (m+1):=by
 have htk:∀ {j k},Hn i (m+1) j k->Hn i m j k\/(j=i/\k=m):=λ {j k} h=>by
  unfold Hn at *
  omega
 have hql:=Ao hl
 refine ⟨by simp [h.len],λ j x k ht hx hk h2=>?_,λ n l' hl' x hx=>?_,λ n l' hl' j x k x' ht hx hk hx' he=>?_,λ n l' hl'=>?_⟩
 ·rcases htk ht with ht|⟨rfl,rfl⟩
  ·exact h.cov j x k ht hx hk h2
  ·rw [hs] at hx;cases hx;rw [hst];exact JhU hq
 ·by_cases e:n=q
  ·subst e
   rw [Jh2 hql] at hl'
   cases hl'
   simp only [List.mem_append,List.mem_singleton] at hx
   rcases hx with hx|rfl
   ·exact h.sound n l hl x hx
   ·exact ⟨i,s,m,p,rfl,hs,hm,hq,hst⟩
  ·rw [Jh7 (Ne.symm e)] at hl';exact h.sound n l' hl' x hx
 ·rcases htk ht with ht|⟨rfl,rfl⟩
  ·by_cases e:n=q
   ·subst e
    rw [Jh2 hql] at hl'
    cases hl'
    exact List.mem_append_left _ (h.compl n l hl j x k x' ht hx hk hx' he)
   ·rw [Jh7 (Ne.symm e)] at hl';exact h.compl n l' hl' j x k x' ht hx hk hx' he
  ·rw [hs] at hx;cases hx
   rw [hst] at he;cases he
   have e:n=q:=by
    have h1:=Ao hx'
    have h2:=Ao hq
    rw [JhS h1] at hx'
    rw [JhS h2] at hq
    exact (List.getElem_inj (h₀:=h1) (h₁:=h2) hnd).1 ((Option.some.inj hx').trans (Option.some.inj hq).symm)
   subst e
   rw [Jh2 hql] at hl'
   cases hl'
   simp
 ·by_cases e:n=q
  ·subst e
   rw [Jh2 hql] at hl'
   cases hl'
   have:=h.small n l hl
   simp;omega
  ·rw [Jh7 (Ne.symm e)] at hl'
   have:=h.small n l' hl'
   omega
theorem C6.skip {t:Ab} {st:List Aa} {fr:List (List Int)} {i m:Nat} (h:C6 t st fr i m) {s:Aa} (hs:st[i]? = some s) (hst:(A4 t s (m:Nat)).2=false):C6 t st fr i (m+1):=by
 have htk:∀ {j k},Hn i (m+1) j k->Hn i m j k\/(j=i/\k=m):=λ {j k} h=>by
  unfold Hn at *
  omega
 refine ⟨h.len,λ j x k ht hx hk h2=>?_,h.sound,λ n l hl j x k x' ht hx hk hx' he=>?_,λ n l hl=>by have:=h.small n l hl;omega⟩
 ·rcases htk ht with ht|⟨rfl,rfl⟩
  ·exact h.cov j x k ht hx hk h2
  ·rw [hs] at hx;cases hx;rw [hst] at h2;cases h2
 ·rcases htk ht with ht|⟨rfl,rfl⟩
  ·exact h.compl n l hl j x k x' ht hx hk hx' he
  ·rw [hs] at hx;cases hx;rw [he] at hst;cases hst
end Go.AI
end
section
namespace Go.AI
theorem JE {α:Type} {l:List α} {i:Nat} {x:α} (h:l[i]? = some x):idx l (i:Int)=some x:=by
 unfold idx
 rw [if_pos (by omega)]
 simpa using h
theorem Fw {α:Type} {eb:Nat} {xs ys:List α} (h:(xs.length+ys.length)*eb<=70368744177664):app eb xs ys=some (xs++ys):=by
 unfold app;rw [if_pos h]
theorem UR {t:Ab} (ht:EJ t) {i m:Nat} {s:Aa} {st:List Aa} {fr:List (List Int)} {nb:List (Aa×Int)} (hF:D0 t st) (hi:st[i]? = some s) (hN:J5 st nb) (hR:C6 t st fr i m) (hm:m<t.Rules.length) :
  ∃ fr' nb',J5 (JD t s st m) nb'/\C6 t (JD t s st m) fr' i (m+1)/\∀ n,Bq n t (i:Int) st fr nb (m:Int)=some (.inl (JD t s st m,fr',nb',((m+1:Nat):Int))):=by
 have hil:=Ao hi
 have hlen:=hF.len
 have hrl:=ht.1
 have hinc:Bp .i64 (m:Int) 1=((m+1:Nat):Int):=by rw [Ld (by omega) (by omega)];rfl
 have hcond:decide ((m:Int)<((t.Rules.length:Nat):Int))=true:=by simpa using hm
 cases hp:(A4 t s (m:Nat)).2 with
 | false=>
  have ha:JD t s st m=st:=by unfold JD;rw [if_neg (by rw [hp];simp)]
  refine ⟨fr,nb,by rw [ha];exact hN,by rw [ha];exact hR.skip hi hp,λ n=>?_⟩
  unfold Bq
  rw [if_pos hcond,JE hi]
  simp only [Option.bind_some,O3 ht.short,hp,Bool.not_false,if_true,Ck,hinc,ha]
 | true=>
  have hpe:A4 t s (m:Nat)=((A4 t s (m:Nat)).1,true):=Prod.ext rfl hp
  generalize hpp:(A4 t s (m:Nat)).1=p at hpe
  by_cases hmem:p∈st
  ·have ha:JD t s st m=st:=by unfold JD;rw [if_neg (by rw [hpp];exact λ hh=>hh.2 hmem)]
   obtain ⟨q,hq⟩:=List.mem_iff_getElem?.1 hmem
   have hql:=Ao hq
   obtain ⟨lq,hfq⟩:∃ lq,fr[q]? = some lq:=⟨_,JhS (by rw [hR.len];exact hql)⟩
   have hsm:=hR.small q _ hfq
   have hget:CW p nb=some (q:Int):=by rw [hN p,Do hF.nodup hq];rfl
   have hiv:i<768:=by omega
   refine ⟨fr.set q (lq++[(i:Int)]),nb,by rw [ha];exact hN,by rw [ha];exact hR.put hF.nodup hi hm hpe hq hfq,λ n=>?_⟩
   unfold Bq
   rw [if_pos hcond,JE hi]
   simp only [Option.bind_some,O3 ht.short,hpe,hget,Option.isSome_some,Bool.not_true,Jh3,if_false,Option.getD_some,CE]
   rw [JE hfq]
   simp only [Option.bind_some]
   rw [Fw (by simp;omega)]
   simp only [Option.bind_some,Ck,hinc,ha,Int.toNat_natCast]
  ·have ha:JD t s st m=st++[p]:=by unfold JD;rw [if_pos ⟨hp,by rw [hpp];exact hmem⟩,hpp]
   have hnd:(st++[p]).Nodup:=by have:=(hF.add ht hi hm).nodup;rwa [ha] at this
   have hget:CW p nb=none:=by rw [hN p,GU hmem];rfl
   have hR':=hR.snoc hmem hil
   have hfq:(fr++[[]])[st.length]? = some ([]:List Int):=by rw [← hR.len];simp
   refine ⟨(fr++[[]]).set st.length ([]++[(i:Int)]),DR p (st.length:Nat) nb,by rw [ha];exact hN.snoc hF.nodup hmem,by rw [ha];exact hR'.put hnd (by rw [Jh0 hil];exact hi) hm hpe (by simp) hfq,λ n=>?_⟩
   unfold Bq
   rw [if_pos hcond,JE hi]
   simp only [Option.bind_some,O3 ht.short,hpe,hget,Option.isSome_none,Bool.not_false,Bool.not_true,Jh3,if_true,if_false]
   rw [Fw (by simp;omega),Option.bind_some,Fw (by simp [hR.len];omega),Option.bind_some]
   simp only [CE]
   rw [JE hfq]
   simp only [Option.bind_some]
   rw [Fw (by simp)]
   simp only [Option.bind_some,Ck,hinc,ha,Int.toNat_natCast]
theorem C6.next {t:Ab} {st:List Aa} {fr:List (List Int)} {i:Nat} (h:C6 t st fr i t.Rules.length) (hr:t.Rules.length<=11):C6 t st fr (i+1) 0:=by
 have htk:∀ {j k},k<t.Rules.length->Hn (i+1) 0 j k->Hn i t.Rules.length j k:=λ {j k} hk h=>by
  unfold Hn at *
  omega
 exact ⟨h.len,λ j s k ht hs hk=>h.cov j s k (htk hk ht) hs hk,h.sound,λ n l hl j s k s' ht hs hk=>h.compl n l hl j s k s' (htk hk ht) hs hk,λ n l hl=>by have:=h.small n l hl;omega⟩
theorem Ja5 {t:Ab} (ht:EJ t) {i:Nat} {s:Aa} {st:List Aa} {fr:List (List Int)} {nb:List (Aa×Int)} (hF:D0 t st) (hi:st[i]? = some s) (hN:J5 st nb) (hR:C6 t st fr i 0) :
  ∃ r:List Aa×List (List Int)×List (Aa×Int),(r.1=IT t s t.Rules.length st/\J5 r.1 r.2.2/\C6 t r.1 r.2.1 (i+1) 0) /\
   Ev (λ n=>whl (λ (x:((List Aa)×(List (List Int))×(List (Aa×Int))×Int))=>Bq n t (i:Int) x.1 x.2.1 x.2.2.1 x.2.2.2) n (st,fr,nb,0)) r:=by
 refine Ev.whlR (body:=λ n x=>Bq n t (i:Int) x.1 x.2.1 x.2.2.1 x.2.2.2) (λ k x=>∃ m:Nat,m<=t.Rules.length/\k=t.Rules.length-m/\x.1=IT t s m st/\x.2.2.2=(m:Int)/\J5 x.1 x.2.2.1/\C6 t x.1 x.2.1 i m) ?_ t.Rules.length (st,fr,nb,0) ⟨0,by omega,by omega,rfl,rfl,hN,hR⟩
 rintro k ⟨st',fr',nb',m'⟩ ⟨m,hm,rfl,h1,h2,h3,h4⟩
 simp only at h1 h2 h3 h4
 subst h1
 subst h2
 rcases Nat.lt_or_ge m t.Rules.length with hlt|hge
 ·left
  have hi':(IT t s m st)[i]? = some s:=M3 (Gq t s st m) hi
  obtain ⟨fr2,nb2,g1,g2,g3⟩:=UR ht (hF.exp ht hi m hm) hi' h3 h4 hlt
  exact ⟨_,t.Rules.length-(m+1),by omega,⟨m+1,hlt,rfl,(IU t s m st).symm,rfl,g1,g2⟩,Ev.all g3⟩
 ·right
  have e:m=t.Rules.length:=by omega
  subst e
  refine ⟨(IT t s t.Rules.length st,fr',nb'),⟨rfl,h3,h4.next ht.1⟩,Ev.all λ n=>?_⟩
  unfold Bq
  rw [if_neg (by simp)]
theorem QF {t:Ab} (ht:EJ t):∃ fr,C6 t (AX t) fr (AX t).length 0/\Ev (λ n=>DT n t) (AX t,fr):=by
 have h0:D0 t [Cd]:=⟨by simp,λ s hs=>by simp at hs;subst hs;exact ⟨by decide,by decide,by decide,by decide,by decide,by decide⟩,rfl,λ j s hj h0=>by cases j with|zero=>omega|succ j=>simp at hj⟩
 have loop:∃ r:List Aa×List (List Int),(r.1=AX t/\C6 t r.1 r.2 r.1.length 0) /\
   Ev (λ n=>whl (λ (x:((List Aa)×(List (List Int))×(List (Aa×Int))×Int))=>Cl n t x.1 x.2.1 x.2.2.1 x.2.2.2) n ([Cd],([[]]:List (List Int)),(DR Cd 0 []),0)) r:=by
  refine Ev.whlR (body:=λ n x=>Cl n t x.1 x.2.1 x.2.2.1 x.2.2.2) (λ k x=>∃ i:Nat,i<=x.1.length/\k=800-i/\QC t (800-i) i x.1=AX t/\x.2.2.2=(i:Int)/\D0 t x.1/\J5 x.1 x.2.2.1/\C6 t x.1 x.2.1 i 0) ?_ 800 _ ⟨0,by simp,by omega,rfl,rfl,h0,?_,?_⟩
  ·rintro k ⟨st,fr,nb,i'⟩ ⟨i,hil,rfl,hb,hi',hF,hN,hR⟩
   simp only at hil hb hi' hF hN hR
   subst hi'
   have hlen:=hF.len
   rcases Nat.lt_or_ge i st.length with hlt|hge
   ·left
    have hi:st[i]? = some st[i]:=JhS hlt
    obtain ⟨r,⟨g1,g2,g3⟩,g4⟩:=Ja5 ht hF hi hN hR
    have hexp:=hF.exp ht hi _ (Nat.le_refl _)
    refine ⟨(r.1,r.2.1,r.2.2,((i+1:Nat):Int)),800-(i+1),by omega,⟨i+1,?_,rfl,?_,rfl,by rw [g1];exact hexp,g2,g3⟩,?_⟩
    ·simp only [g1]
     have:=(Gq t st[i] st t.Rules.length).length_le
     omega
    ·simp only [g1]
     rw [← hb]
     have e:800-i=(800-(i+1))+1:=by omega
     rw [e]
     simp only [QC,hi]
    ·refine (Ev.bind g4 (g:=λ _ y2=>some (.inl (y2.1,y2.2.1,y2.2.2,((i+1:Nat):Int)))) Ev.const).congr λ n=>?_
     unfold Cl
     rw [if_pos (by simpa using hlt)]
     have hinc:Bp .i64 (i:Int) 1=((i+1:Nat):Int):=by rw [Ld (by omega) (by omega)];rfl
     rw [hinc]
   ·right
    have e:i=st.length:=by omega
    subst e
    have hst:st=AX t:=by
     rw [← hb]
     have e:800-st.length=(800-(st.length+1))+1:=by omega
     rw [e]
     simp [QC]
    refine ⟨(st,fr),⟨hst,hR⟩,Ev.all λ n=>?_⟩
    unfold Cl
    rw [if_neg (by simp)]
  ·intro s
   simp only [DR,CW]
   by_cases e:s=Cd
   ·subst e;simp
   ·have:¬ Cd=s:=λ h=>e h.symm
    simp [e,this]
  ·refine ⟨rfl,λ j s k ht=>?_,λ n l hl x hx=>?_,λ n l hl j s k s' ht=>?_,λ n l hl=>?_⟩
   ·unfold Hn at ht;omega
   ·cases n with
    | zero=>simp at hl;subst hl;simp at hx
    | succ n=>simp at hl
   ·unfold Hn at ht;omega
   ·cases n with
    | zero=>simp at hl;subst hl;simp
    | succ n=>simp at hl
 obtain ⟨⟨st,fr⟩,⟨g1,g2⟩,g3⟩:=loop
 simp only at g1 g2
 subst g1
 refine ⟨fr,g2,?_⟩
 have hs:∀ n,IB n=some Cd:=λ n=>rfl
 refine (Ev.bind g3 (g:=λ _ y3=>some (y3.1,y3.2)) Ev.const).congr λ n=>?_
 unfold DT
 rw [hs,Option.bind_some]
theorem V7 {t:Ab} (ht:EJ t):Ev (λ n=>Hd n t) (AX t):=by
 obtain ⟨fr,_,h⟩:=QF ht
 exact (Ev.bind h (g:=λ _ r=>some r.1) Ev.const).congr λ n=>rfl
end Go.AI
end
section
namespace Go.AI
def Tot {α:Type} (f:Nat->Option α) (P:α->Prop):Prop:=∃ z,P z/\Ev f z
def Rd2 {σ ρ:Type} (I:σ->Prop) (P:ρ->Prop):σ⊕ρ->Prop
 | .inl y=>I y
 | .inr r=>P r
variable {α β σ ρ:Type} {P R:α->Prop}
theorem Tot.ev {f:Nat->Option α} {z:α} (h:Tot f (λ x=>x=z)):Ev f z:=by obtain ⟨_,rfl,h⟩:=h;exact h
theorem Ev.tot {f:Nat->Option α} {z:α} (h:Ev f z) (hp:P z):Tot f P:=⟨z,hp,h⟩
theorem Tot.pure {z:α} (h:P z):Tot (λ _=>some z) P:=⟨z,h,Ev.const⟩
theorem Tot.all {f:Nat->Option α} {z:α} (h:∀ n,f n=some z) (hp:P z):Tot f P:=⟨z,hp,Ev.all h⟩
theorem Tot.mono {f:Nat->Option α} (h:Tot f R) (hp:∀ x,R x->P x):Tot f P:=by obtain ⟨z,hz,h⟩:=h;exact ⟨z,hp z hz,h⟩
theorem Tot.bind {f:Nat->Option β} {g:Nat->β->Option α} {R:β->Prop} (h:Tot f R) (k:∀ x,R x->Tot (λ n=>g n x) P):Tot (λ n=>(f n).bind (g n)) P:=by
 obtain ⟨x,hx,h⟩:=h
 obtain ⟨z,hz,h'⟩:=k x hx
 exact ⟨z,hz,Ev.bind h h'⟩
theorem Tot.bindE {f:Nat->Option β} {g:Nat->β->Option α} {x:β} (h:Ev f x) (k:Tot (λ n=>g n x) P):Tot (λ n=>(f n).bind (g n)) P:=by
 obtain ⟨z,hz,h'⟩:=k
 exact ⟨z,hz,Ev.bind h h'⟩
theorem Tot.bindC {x:Option β} {y:β} {g:Nat->β->Option α} (h:x=some y) (k:Tot (λ n=>g n y) P):Tot (λ n=>x.bind (g n)) P:=by subst h;exact k
theorem Tot.bindA {f:Nat->Option β} {y:β} {g:Nat->β->Option α} (h:∀ n,f n=some y) (k:Tot (λ n=>g n y) P):Tot (λ n=>(f n).bind (g n)) P:=Tot.bindE (Ev.all h) k
theorem Tot.ite {c:Bool} {a b:Nat->Option α} (h1:c=true->Tot a P) (h2:c=false->Tot b P):Tot (λ n=>if c=true then a n else b n) P:=by
 cases c with
 | true=>exact h1 rfl
 | false=>exact h2 rfl
theorem Tot.iteT {c:Bool} {a b:Nat->Option α} (h:c=true) (k:Tot a P):Tot (λ n=>if c=true then a n else b n) P:=by subst h;exact k
theorem Tot.iteF {c:Bool} {a b:Nat->Option α} (h:c=false) (k:Tot b P):Tot (λ n=>if c=true then a n else b n) P:=by subst h;exact k
theorem Tot.guard {c:Bool} {f:Nat->Option β} {d:β} {g:Nat->β->Option α} {R:β->Prop} (h:c=true->Tot f R) (k:∀ x,(c=true->R x)->Tot (λ n=>g n x) P):Tot (λ n=>(if c=true then f n else some d).bind (g n)) P:=by
 cases c with
 | true=>exact Tot.bind (h rfl) λ x hx=>k x λ _=>hx
 | false=>exact k d λ h=>by cases h
theorem Tot.congr {f g:Nat->Option α} (h:Tot f P) (e:∀ n,g n=f n):Tot g P:=by obtain ⟨z,hz,h⟩:=h;exact ⟨z,hz,h.congr e⟩
theorem Tot.sum {y:β⊕σ} {f:Nat->β->Option α} {g:Nat->σ->Option α} (h1:∀ b,y=.inl b->Tot (λ n=>f n b) P) (h2:∀ b,y=.inr b->Tot (λ n=>g n b) P):Tot (λ n=>match y with | .inl b=>f n b | .inr b=>g n b) P:=by
 cases y with
 | inl b=>exact h1 b rfl
 | inr b=>exact h2 b rfl
theorem Tot.whl {body:Nat->σ->Option (σ⊕ρ)} {P:ρ->Prop} (I:Nat->σ->Prop) (h:∀ k x,I k x->Tot (λ n=>body n x) (Rd2 (λ y=>∃ j,j<k/\I j y) P)):∀ (k:Nat) (x:σ),I k x->Tot (λ n=>Go.AI.whl (body n) n x) P:=by
 have key:∀ (k:Nat) (x:σ),I k x->∃ r,P r/\∃ N c,∀ n fuel,N<=n->c<=fuel->Go.AI.whl (body n) fuel x=some r:=by
  intro k
  induction k using Nat.strongRecOn with
  | _ k ih=>
   intro x hx
   obtain ⟨z,hz,N1,h1⟩:=h k x hx
   cases z with
   | inl y=>
    obtain ⟨j,hj,hy⟩:=hz
    obtain ⟨r,hr,N2,c,h2⟩:=ih j hj y hy
    refine ⟨r,hr,max N1 N2,c+1,λ n fuel hn hf=>?_⟩
    cases fuel with
    | zero=>omega
    | succ fuel=>
     have e:=h1 n (by omega)
     simp only at e
     simp only [Go.AI.whl,e]
     exact h2 n fuel (by omega) (by omega)
   | inr r=>
    refine ⟨r,hz,N1,1,λ n fuel hn hf=>?_⟩
    cases fuel with
    | zero=>omega
    | succ fuel=>
     have e:=h1 n hn
     simp only at e
     simp only [Go.AI.whl,e]
 intro k x hx
 obtain ⟨r,hr,N,c,hh⟩:=key k x hx
 exact ⟨r,hr,max N c,λ m hm=>hh m m (by omega) (by omega)⟩
theorem Tot.upto {body:Nat->σ->Option (σ⊕ρ)} {P:ρ->Prop} (N:Nat) (I:Nat->σ->Prop)
  (step:∀ i x,i<N->I i x->Tot (λ n=>body n x) (Rd2 (I (i+1)) P))
  (last:∀ x,I N x->Tot (λ n=>body n x) (Rd2 (λ _=>False) P)) (x:σ) (h0:I 0 x):Tot (λ n=>Go.AI.whl (body n) n x) P:=by
 refine Tot.whl (body:=body) (λ k x=>∃ i,i<=N/\k=N-i/\I i x) ?_ N x ⟨0,by omega,by omega,h0⟩
 rintro k x ⟨i,hi,rfl,hx⟩
 rcases Nat.lt_or_ge i N with hlt|hge
 ·refine (step i x hlt hx).mono λ z hz=>?_
  cases z with
  | inl y=>exact ⟨N-(i+1),by omega,i+1,by omega,rfl,hz⟩
  | inr r=>exact hz
 ·have:i=N:=by omega
  subst this
  refine (last x hx).mono λ z hz=>?_
  cases z with
  | inl y=>exact hz.elim
  | inr r=>exact hz
theorem EW {l:List α} {i:Nat} {x:α} (h:l[i]? = some x):idx l (i:Int)=some x:=by
 unfold idx
 rw [if_pos (by omega)]
 simpa using h
theorem By {l:List α} {i:Nat} (h:i<l.length):idx l (i:Int)=some l[i]:=EW (JhS h)
theorem Mh {eb:Nat} {xs ys:List α} (h:(xs.length+ys.length)*eb<=70368744177664):app eb xs ys=some (xs++ys):=by
 unfold app;rw [if_pos h]
theorem QG {l:List α} {i:Nat} {y:α} (h:i<l.length):put l (i:Int) y=some (l.set i y):=by
 unfold put;rw [if_pos (by omega),Int.toNat_natCast]
theorem Jf9 {x y:List UInt8} (h:x.length+y.length<=9223372036854775807):cat x y=some (x++y):=by
 unfold cat;rw [if_pos h]
end Go.AI
end
section
namespace Go.AI
theorem Jcv (a:Int):IntKind.i64.wrap a=if decide (a % 18446744073709551616>=9223372036854775808)=true then a % 18446744073709551616-18446744073709551616 else a % 18446744073709551616:=rfl
theorem w64 {a:Int} (h:-9223372036854775808<=a) (h':a<9223372036854775808):IntKind.i64.wrap a=a:=by
 rw [Jcv]
 simp only [decide_eq_true_eq]
 split<;>omega
theorem Jc6 {a b:Int} (h:-9223372036854775808<=a+b) (h':a+b<9223372036854775808):Bp .i64 a b=a+b:=w64 h h'
theorem Jhd {a b:Int} (h:-9223372036854775808<=a-b) (h':a-b<9223372036854775808):DG .i64 a b=a-b:=w64 h h'
theorem D1 {i:Nat} (h:i<9223372036854775807):Bp .i64 (i:Int) 1=((i+1:Nat):Int):=by rw [Jc6]<;>omega
theorem XM {a m:Int} (h:0<=a) (hm:0<m):CJ a m=a % m/\0<=CJ a m/\CJ a m<m:=by
 have e:CJ a m=a % m:=by unfold CJ;rw [Int.tmod_eq_emod_of_nonneg h]
 rw [e];exact ⟨rfl,Int.emod_nonneg _ (by omega),Int.emod_lt_of_pos _ hm⟩
variable {α β σ ρ:Type}
theorem Jhe [Inhabited α] {l:List α} {i:Int} (h:0<=i) (h':i<l.length):idx l i=some (l.getD i.toNat default):=by
 unfold idx
 rw [if_pos h,List.getD_eq_getElem?_getD,JhS (by omega)];rfl
theorem Ho [Inhabited α] {l:List α} {i:Nat} (h:i<l.length):idx l (i:Int)=some (l.getD i default):=by
 rw [Jhe (by omega) (by omega),Int.toNat_natCast]
theorem Ja6 {l:List α} {a b:Int} (h:0<=a) (h1:a<=b) (h2:b<=l.length):sub l a b=some ((l.take b.toNat).drop a.toNat):=by
 unfold sub;rw [if_pos ⟨h,h1,h2⟩]
theorem HY {l:List α} {k:Nat} (h:k<=l.length):sub l 0 (k:Int)=some (l.take k):=by
 rw [Ja6 (by omega) (by omega) (by omega)];simp
theorem Ja7 {eb:Nat} {k:Int} {z:α} (h:0<=k) (h':k.toNat*eb<=70368744177664):mkl eb k z=some (List.replicate k.toNat z):=by
 unfold mkl;rw [if_pos ⟨h,h'⟩]
theorem IV {b:Bool} (h:b=true):DQ b=some ():=by subst h;rfl
theorem V8 {body:σ->Option (σ⊕ρ)} {r:ρ} (st:Nat->σ) (k:Nat) (step:∀ i,i<k->body (st i)=some (.inl (st (i+1)))) (last:body (st k)=some (.inr r)):∀ n,k<n->whl body n (st 0)=some r:=by
 have key:∀ (j n i:Nat),i+j=k->j<n->whl body n (st i)=some r:=by
  intro j
  induction j with
  | zero=>
   intro n i hi hn
   cases n with
   | zero=>omega
   | succ n=>
    have:i=k:=by omega
    subst this;simp only [whl,last]
  | succ j ih=>
   intro n i hi hn
   cases n with
   | zero=>omega
   | succ n=>simp only [whl,step i (by omega)];exact ih n (i+1) (by omega) (by omega)
 intro n hn
 exact key k n 0 (by omega) hn
theorem Ev.to {body:Nat->σ->Option (σ⊕ρ)} {r:ρ} (st:Nat->σ) (k:Nat) (h:∃ N,∀ n,N<=n->(∀ i,i<k->body n (st i)=some (.inl (st (i+1))))/\body n (st k)=some (.inr r)):Ev (λ n=>Go.AI.whl (body n) n (st 0)) r:=by
 obtain ⟨N,h⟩:=h
 exact ⟨max N (k+1),λ n hn=>V8 st k (h n (by omega)).1 (h n (by omega)).2 n (by omega)⟩
def HZ (N:Nat) (stop:Nat->Option ρ) (d:ρ):ρ:=((List.range N).findSome? stop).getD d
theorem XN {N:Nat} {stop:Nat->Option ρ} {d:ρ} (h:∀ i,i<N->stop i=none):HZ N stop d=d:=by
 unfold HZ
 rw [List.findSome?_eq_none_iff.2 λ i hi=>h i (List.mem_range.1 hi)];rfl
theorem XO {N:Nat} {stop:Nat->Option ρ} {d r:ρ} (k:Nat) (hk:k<N) (hr:stop k=some r) (h:∀ i,i<k->stop i=none):HZ N stop d=r:=by
 unfold HZ
 have:(List.range N).findSome? stop=some r:=by
  have e:List.range N=List.range k++(List.range (N-k)).map (k+·):=by rw [← List.range_add];congr 1;omega
  rw [e,List.findSome?_append,List.findSome?_eq_none_iff.2 λ i hi=>h i (List.mem_range.1 hi)]
  have:N-k=(N-k-1)+1:=by omega
  rw [this,List.range_succ_eq_map]
  simp [hr]
 rw [this];rfl
theorem Rj (N:Nat) (stop:Nat->Option ρ) (d:ρ):((∀ i,i<N->stop i=none)/\HZ N stop d=d)\/∃ k r,k<N/\stop k=some r/\(∀ i,i<k->stop i=none)/\HZ N stop d=r:=by
 by_cases h:∀ i,i<N->stop i=none
 ·exact .inl ⟨h,XN h⟩
 ·right
  have hex:∃ k,k<N/\stop k≠none:=by
   apply Classical.byContradiction
   intro hh
   exact h λ i hi=>Classical.byContradiction λ hn=>hh ⟨i,hi,hn⟩
  have key:∀ m,(∃ k,k<m/\k<N/\stop k≠none)->∃ k,k<N/\stop k≠none/\∀ i,i<k->stop i=none:=by
   intro m
   induction m with
   | zero=>rintro ⟨k,hk,_⟩;omega
   | succ m ih=>
    rintro ⟨k,hk,h1,h2⟩
    by_cases hm:∃ k,k<m/\k<N/\stop k≠none
    ·exact ih hm
    ·refine ⟨k,h1,h2,λ i hi=>Classical.byContradiction λ hn=>hm ⟨i,by omega,by omega,hn⟩⟩
  obtain ⟨k0,h1,h2⟩:=hex
  obtain ⟨k,h3,h4,h5⟩:=key (k0+1) ⟨k0,by omega,h1,h2⟩
  obtain ⟨r,hr⟩:=Option.ne_none_iff_exists'.1 h4
  exact ⟨k,r,h3,hr,h5,XO k h3 hr h5⟩
theorem XP {body:Int->Option (Int⊕ρ)} {N:Nat} (stop:Nat->Option ρ) {d:ρ} (h1:∀ i,i<N->body (i:Int)=some (match stop i with|some r=>.inr r|none=>.inl ((i+1:Nat):Int))) (h2:body (N:Int)=some (.inr d)):∀ n,N<n->whl body n 0=some (HZ N stop d):=by
 intro n hn
 rcases Rj N stop d with ⟨h,e⟩|⟨k,r,hk,hr,h,e⟩
 ·rw [e]
  exact V8 (λ i=>(i:Int)) N (λ i hi=>by rw [h1 i hi,h i hi]) h2 n hn
 ·rw [e]
  exact V8 (λ i=>(i:Int)) k (λ i hi=>by rw [h1 i (by omega),h i hi]) (by rw [h1 k hk,hr]) n (by omega)
theorem Ev.first {body:Nat->Int->Option (Int⊕ρ)} {N:Nat} (stop:Nat->Option ρ) {d:ρ} (h:∃ M,∀ n,M<=n->(∀ i,i<N->body n (i:Int)=some (match stop i with|some r=>.inr r|none=>.inl ((i+1:Nat):Int)))/\body n (N:Int)=some (.inr d)):Ev (λ n=>Go.AI.whl (body n) n 0) (HZ N stop d):=by
 obtain ⟨M,h⟩:=h
 exact ⟨max M (N+1),λ n hn=>XP stop (h n (by omega)).1 (h n (by omega)).2 n (by omega)⟩
theorem Tot.gF {P:α->Prop} {c:Bool} {f:Nat->Option β} {d:β} {g:Nat->β->Option α} (hc:c=false) (k:Tot (λ n=>g n d) P):Tot (λ n=>(if c=true then f n else some d).bind (g n)) P:=by
 subst hc;exact k
noncomputable def lim [Inhabited α] (f:Nat->Option α):α:=@dite α (∃ z,Ev f z) (Classical.propDecidable _) (λ h=>Classical.choose h) λ _=>default
theorem Ev.lim [Inhabited α] {f:Nat->Option α} {z:α} (h:Ev f z):lim f=z:=by
 have hex:∃ z,Ev f z:=⟨z,h⟩
 have e:AI.lim f=Classical.choose hex:=by unfold AI.lim;rw [dif_pos hex]
 rw [e]
 obtain ⟨n,hn⟩:=h
 obtain ⟨m,hm⟩:=Classical.choose_spec hex
 have h1:=hn (max n m) (by omega)
 have h2:=hm (max n m) (by omega)
 rw [h1] at h2;cases h2;rfl
theorem Tot.lim [Inhabited α] {f:Nat->Option α} {P:α->Prop} (h:Tot f P):P (lim f)/\Ev f (lim f):=by
 obtain ⟨z,hz,h⟩:=h
 rw [h.lim];exact ⟨hz,h⟩
theorem Ev.many {f:Nat->Nat->Option α} {z:Nat->α} (N:Nat) (h:∀ i,i<N->Ev (λ n=>f n i) (z i)):∃ M,∀ n,M<=n->∀ i,i<N->f n i=some (z i):=by
 induction N with
 | zero=>exact ⟨0,λ n _ i hi=>by omega⟩
 | succ N ih=>
  obtain ⟨M1,h1⟩:=ih λ i hi=>h i (by omega)
  obtain ⟨M2,h2⟩:=h N (by omega)
  exact ⟨max M1 M2,λ n hn i hi=>by
   by_cases e:i=N
   ·subst e;exact h2 n (by omega)
   ·exact h1 n (by omega) i (by omega)⟩
end Go.AI
end
section
namespace Go.AI
def scan {ρ:Type} (N:Nat) (stop:Nat->Option ρ):Unit⊕ρ:=match (List.range N).findSome? stop with
 | some r=>.inr r
 | none=>.inl ()
theorem F6 {ρ:Type} {body:Nat->Int->Option (Int⊕(Unit⊕ρ))} (N:Nat) (stop:Nat->Option ρ)
  (h:∀ i,i<N->Ev (λ n=>body n (i:Int)) (match stop i with|some r=>.inr (.inr r)|none=>.inl ((i+1:Nat):Int)))
  (h2:Ev (λ n=>body n (N:Int)) (.inr (.inl ()))):Ev (λ n=>whl (body n) n 0) (AI.scan N stop):=by
 have key:∀ (k i:Nat),i+k=N->(List.range N).findSome? stop=((List.range k).map (i+·)).findSome? stop->∃ M c,∀ n fuel,M<=n->c<=fuel->whl (body n) fuel (i:Int)=some (AI.scan N stop):=by
  intro k
  induction k with
  | zero=>
   intro i hi hf
   have:i=N:=by omega
   subst this
   obtain ⟨M,hM⟩:=h2
   refine ⟨M,1,λ n fuel hn hfu=>?_⟩
   obtain ⟨fuel,rfl⟩:∃ f,fuel=f+1:=⟨fuel-1,by omega⟩
   have e:=hM n hn
   simp only at e
   simp only [AI.whl,e]
   unfold AI.scan
   rw [hf];rfl
  | succ k ih=>
   intro i hi hf
   obtain ⟨M,hM⟩:=h i (by omega)
   have hs:(List.range (k+1)).map (i+·)=i::(List.range k).map ((i+1)+·):=by
    rw [List.range_succ_eq_map]
    simp only [List.map_cons,Nat.add_zero,List.map_map,List.cons.injEq,true_and]
    apply List.map_congr_left
    intro a _
    simp only [Function.comp];omega
   rw [hs,List.findSome?_cons] at hf
   cases hst:stop i with
   | some r=>
    rw [hst] at hf hM
    refine ⟨M,1,λ n fuel hn hfu=>?_⟩
    obtain ⟨fuel,rfl⟩:∃ f,fuel=f+1:=⟨fuel-1,by omega⟩
    have e:=hM n hn
    simp only at e
    simp only [AI.whl,e]
    unfold AI.scan
    rw [hf]
   | none=>
    rw [hst] at hf hM
    obtain ⟨M2,c,h3⟩:=ih (i+1) (by omega) hf
    refine ⟨max M M2,c+1,λ n fuel hn hfu=>?_⟩
    obtain ⟨fuel,rfl⟩:∃ f,fuel=f+1:=⟨fuel-1,by omega⟩
    have e:=hM n (by omega)
    simp only at e
    simp only [AI.whl,e]
    exact h3 n fuel (by omega) (by omega)
 obtain ⟨M,c,hh⟩:=key N 0 (by omega) (by simp)
 exact ⟨max M c,λ m hm=>hh m m (by omega) (by omega)⟩
theorem G4 {ρ:Type} {N:Nat} {stop:Nat->Option ρ} (h:∀ i,i<N->stop i=none):scan N stop=.inl ():=by
 unfold scan
 rw [List.findSome?_eq_none_iff.2 λ i hi=>h i (List.mem_range.1 hi)]
theorem G5 {ρ:Type} {N:Nat} {stop:Nat->Option ρ} {i:Nat} (hi:i<N) (h:(stop i).isSome=true):∃ k r,k<N/\stop k=some r/\scan N stop=.inr r:=by
 unfold scan
 cases hf:(List.range N).findSome? stop with
 | none=>rw [List.findSome?_eq_none_iff.1 hf i (List.mem_range.2 hi)] at h;cases h
 | some r=>
  obtain ⟨k,hk,hr⟩:=List.exists_of_findSome?_eq_some hf
  exact ⟨k,r,List.mem_range.1 hk,hr,rfl⟩
def EK (b:UInt8):Int:=(b.toNat:Int)
def Hp (b:UInt8):Bool:=decide (Cn .u8 (EK b) 127>=32)&&decide (Cn .u8 (EK b) 127<=126)
def DA (b:UInt8):Bool:=Cn .u8 (EK b) 127==32
theorem IW {s:List UInt8} {i:Nat} {b:UInt8} (h:s[i]? = some b):Lw s (i:Int)=some (EK b):=by
 rw [M0 (Ao h)]
 unfold R5 EK
 rw [h];rfl
theorem Rk {i n:Nat} (h:i<n):decide ((i:Int)<((n:Nat):Int))=true:=by simpa using h
def Of (s:List UInt8):Int×Int:=match scan s.length (λ i=>if Hp (s.getD i 0) then none else some ((i:Int),(60:Int))) with
 | .inl _=>(((s.length:Nat):Int),0)
 | .inr p=>p
theorem Ch {α:Type} {l:List α} {i:Nat} {d:α} (h:i<l.length):l.getD i d=l[i]:=by
 rw [List.getD_eq_getElem?_getD,JhS h];rfl
theorem Jcw {s:List UInt8} (hl:s.length<9223372036854775807):Ev (λ n=>Iz n s) (Of s):=by
 unfold Iz Of
 refine Ev.bind (F6 s.length (λ i=>if Hp (s.getD i 0) then none else some ((i:Int),(60:Int))) (λ i hi=>Ev.all λ n=>?_) (Ev.all λ n=>?_)) ?_
 ·unfold E0
  have hg:s[i]? = some s[i]:=JhS hi
  rw [if_pos (Rk hi),IW hg,Ch hi]
  have hc:Dr n (EK s[i])=some (Hp s[i]):=rfl
  simp only [Option.bind_some,hc]
  cases Hp s[i] with
  | true=>simp [D1 (show i<9223372036854775807 by omega)]
  | false=>simp
 ·unfold E0
  rw [if_neg (by simp)]
 ·generalize scan s.length _=z;cases z<;>exact Ev.const
theorem Ja8 {s:List UInt8} (hl:s.length<9223372036854775807):Ev (λ n=>MN n s) (Of s):=by
 unfold MN Of
 refine Ev.bind (F6 s.length (λ i=>if Hp (s.getD i 0) then none else some ((i:Int),(60:Int))) (λ i hi=>Ev.all λ n=>?_) (Ev.all λ n=>?_)) ?_
 ·unfold HM
  have hg:s[i]? = some s[i]:=JhS hi
  rw [if_pos (Rk hi),IW hg,Ch hi]
  have hc:H7 n (EK s[i])=some (Hp s[i]):=rfl
  simp only [Option.bind_some,hc]
  cases Hp s[i] with
  | true=>simp [D1 (show i<9223372036854775807 by omega)]
  | false=>simp
 ·unfold HM
  rw [if_neg (by simp)]
 ·generalize scan s.length _=z;cases z<;>exact Ev.const
theorem US {s:List UInt8} (h:s.all Hp=true):Of s=(((s.length:Nat):Int),0):=by
 unfold Of
 rw [G4 λ i hi=>by rw [Ch hi,List.all_eq_true.1 h _ (List.getElem_mem hi)];rfl]
theorem R6 {s:List UInt8} (h:s.all Hp=false):(Of s).2=60:=by
 rw [List.all_eq_false] at h
 obtain ⟨b,hb,hc⟩:=h
 obtain ⟨i,hi,e⟩:=List.getElem_of_mem hb
 unfold Of
 obtain ⟨k,r,hk,hr,hs⟩:=G5 (stop:=λ i=>if Hp (s.getD i 0) then none else some ((i:Int),(60:Int))) hi (by
  rw [Ch hi,e];simp only [Bool.not_eq_true] at hc;rw [hc];rfl)
 rw [hs]
 simp only at hr ⊢
 split at hr
 ·cases hr
 ·cases hr;rfl
theorem XQ {s:List UInt8} (hl:s.length<9223372036854775807):Ev (λ n=>Jl n s) (s.all Hp):=by
 unfold Jl
 refine Ev.bind (Ja8 hl) ?_
 cases h:s.all Hp with
 | true=>rw [US h];exact Ev.const
 | false=>rw [R6 h];exact Ev.const
def Cw (r:As) (m:Int):Bool:=
 r.Print.all Hp&&decide (r.Print.length<=4)&&decide (1<=r.Cells.length)&&decide (r.Cells.length<=4) &&
 (decide (1<=r.Left)&&decide (r.Left<=63)&&decide (1<=r.Right)&&decide (r.Right<=63)&&decide (0<=r.From)&&decide (r.From<m)&&decide (0<=r.To)&&decide (r.To<m)) &&
 r.Cells.all (λ c=>decide (c<63)) &&
 (bif r.Print.any DA then decide (r.Print.length=1)&&decide (r.Cells.length=1)&&r.Cells.any (λ c=>c==0) else !r.Cells.any (λ c=>c==0))
end Go.AI
end
section
namespace Go.AI
theorem XR {r:As} (hl:r.Print.length<9223372036854775807):Ev (λ n=>whl (λ (x:(Bool×Int))=>D8 n r x.1 x.2) n (false,0)) (r.Print.any DA):=by
 refine Ev.whl (body:=λ n x=>D8 n r x.1 x.2) (λ k x=>∃ i:Nat,x.2=(i:Int)/\i<=r.Print.length/\k=r.Print.length-i/\x.1=(r.Print.take i).any DA) ?_ r.Print.length (false,0) ⟨0,rfl,by omega,by omega,by simp⟩
 rintro k ⟨b,i'⟩ ⟨i,h1,hi,rfl,h2⟩
 simp only at h1 h2
 subst h1
 subst h2
 rcases Nat.lt_or_ge i r.Print.length with hlt|hge
 ·left
  have hg:r.Print[i]? = some r.Print[i]:=JhS hlt
  have hcond:decide ((i:Int)<((r.Print.length:Nat):Int))=true:=by simpa using hlt
  refine ⟨((r.Print.take (i+1)).any DA,((i+1:Nat):Int)),r.Print.length-(i+1),by omega,⟨i+1,rfl,by omega,rfl,rfl⟩,Ev.all λ n=>?_⟩
  unfold D8
  rw [if_pos hcond]
  have ht:(r.Print.take (i+1)).any DA=((r.Print.take i).any DA||DA r.Print[i]):=by
   rw [List.take_add_one,hg];simp only [Option.toList_some,List.any_append,List.any_cons,List.any_nil,Bool.or_false]
  have hsp:∀ n,Np n (EK r.Print[i])=some (DA r.Print[i]):=λ n=>rfl
  rw [ht,Ld (by omega) (by omega),IW hg]
  cases (r.Print.take i).any DA with
  | true=>simp
  | false=>simp [hsp]
 ·right
  have e:i=r.Print.length:=by omega
  subst e
  refine Ev.all λ n=>?_
  unfold D8
  rw [if_neg (by simp),List.take_length]
theorem Ev.upto {σ ρ:Type} {body:Nat->σ->Option (σ⊕ρ)} {R:ρ->Prop} (N:Nat) (I:Nat->σ->Prop)
  (step:∀ i x,i<N->I i x->(∃ y,I (i+1) y/\Ev (λ n=>body n x) (.inl y))\/∃ r,R r/\Ev (λ n=>body n x) (.inr r))
  (last:∀ x,I N x->∃ r,R r/\Ev (λ n=>body n x) (.inr r)) (x:σ) (h0:I 0 x):∃ r,R r/\Ev (λ n=>Go.AI.whl (body n) n x) r:=by
 refine Ev.whlR (body:=body) (λ k x=>∃ i,i<=N/\k=N-i/\I i x) ?_ N x ⟨0,by omega,by omega,h0⟩
 rintro k x ⟨i,hi,rfl,hx⟩
 rcases Nat.lt_or_ge i N with hlt|hge
 ·rcases step i x hlt hx with ⟨y,hy,hE⟩|h
  ·exact .inl ⟨y,N-(i+1),by omega,⟨i+1,by omega,rfl,hy⟩,hE⟩
  ·exact .inr h
 ·have:i=N:=by omega
  subst this
  exact .inr (last x hx)
theorem XS {r:As} (hl:r.Cells.length<9223372036854775807) (y:Bool):∃ z:Bool⊕Bool,(if r.Cells.all (λ c=>decide (c<63))=true then z=.inl (r.Cells.any (λ c=>c==0)) else z=.inr false)/\Ev (λ n=>whl (λ (x:(Bool×Int))=>Dl n r y x.1 x.2) n (false,0)) z:=by
 refine Ev.upto (body:=λ n x=>Dl n r y x.1 x.2) r.Cells.length (λ i x=>x.2=(i:Int)/\x.1=(r.Cells.take i).any (λ c=>c==0)/\(r.Cells.take i).all (λ c=>decide (c<63))=true) ?_ ?_ (false,0) ⟨rfl,by simp,by simp⟩
 ·rintro i ⟨b,i'⟩ hlt ⟨h1,h2,h3⟩
  simp only at h1 h2
  subst h1
  subst h2
  have hg:r.Cells[i]? = some r.Cells[i]:=JhS hlt
  have hcond:decide ((i:Int)<((r.Cells.length:Nat):Int))=true:=by simpa using hlt
  by_cases hc:r.Cells[i]<63
  ·left
   refine ⟨((r.Cells.take (i+1)).any (λ c=>c==0),((i+1:Nat):Int)),⟨rfl,rfl,?_⟩,Ev.all λ n=>?_⟩
   ·rw [List.take_add_one,hg];simp only [Option.toList_some,List.all_append,h3,List.all_cons,decide_eq_true hc,List.all_nil,Bool.and_self]
   ·unfold Dl
    have ht:(r.Cells.take (i+1)).any (λ c=>c==0)=((r.Cells.take i).any (λ c=>c==0)||r.Cells[i]==0):=by
     rw [List.take_add_one,hg];simp only [Option.toList_some,List.any_append,List.any_cons,List.any_nil,Bool.or_false]
    rw [if_pos hcond,JE hg,Option.bind_some,if_neg (by simpa using hc),ht,Ld (by omega) (by omega)]
    cases (r.Cells.take i).any (λ c=>c==0) with
    | true=>simp
    | false=>simp
  ·right
   refine ⟨.inr false,?_,Ev.all λ n=>?_⟩
   ·rw [if_neg]
    intro h
    rw [List.all_eq_true] at h
    exact hc (by simpa using h r.Cells[i] (List.getElem_mem hlt))
   ·unfold Dl
    rw [if_pos hcond,JE hg,Option.bind_some,if_pos (by simp;omega)]
 ·rintro ⟨b,i'⟩ ⟨h1,h2,h3⟩
  simp only at h1 h2
  subst h1
  subst h2
  rw [List.take_length] at h3 ⊢
  refine ⟨.inl (r.Cells.any (λ c=>c==0)),by rw [if_pos h3],Ev.all λ n=>?_⟩
  unfold Dl
  rw [if_neg (by simp)]
theorem Ja9 {r:As} (hp:r.Print.length<9223372036854775807) (hc:r.Cells.length<9223372036854775807) (m:Int):Ev (λ n=>Ln n r m) (Cw r m):=by
 obtain ⟨z,hz,hE⟩:=XS hc (r.Print.any DA)
 have h1:=XQ hp
 have h2:=XR (r:=r) hp
 unfold Ln
 refine Ev.bind h1 ?_
 unfold Cw
 generalize r.Print.all Hp=a
 by_cases g1:((((!a)||(decide (((r.Print.length:Nat):Int)>4)))||(decide (((r.Cells.length:Nat):Int)<1)))||(decide (((r.Cells.length:Nat):Int)>4)))=true
 ·simp only [g1,if_true]
  have:(a&&decide (r.Print.length<=4)&&decide (1<=r.Cells.length)&&decide (r.Cells.length<=4))=false:=by
   rw [← Bool.not_eq_true]
   intro h
   simp only [JhT,decide_eq_true_eq] at h
   simp only [Jia,decide_eq_true_eq,Bool.not_eq_true'] at g1
   rcases g1 with ((g|g)|g)|g
   ·rw [g] at h;simp at h
   all_goals omega
  rw [this]
  exact Ev.const
 ·simp only [g1]
  by_cases g2:((((((((decide (r.Left<1))||(decide (r.Left>63)))||(decide (r.Right<1)))||(decide (r.Right>63)))||(decide (r.From<0)))||(decide (r.From>=m)))||(decide (r.To<0)))||(decide (r.To>=m)))=true
  ·simp only [g2,if_true]
   have:(decide (1<=r.Left)&&decide (r.Left<=63)&&decide (1<=r.Right)&&decide (r.Right<=63)&&decide (0<=r.From)&&decide (r.From<m)&&decide (0<=r.To)&&decide (r.To<m))=false:=by
    rw [← Bool.not_eq_true]
    intro h
    simp only [JhT,decide_eq_true_eq] at h
    simp only [Jia,decide_eq_true_eq] at g2
    omega
   rw [this,Bool.and_false]
   exact Ev.const
  ·have e1:(a&&decide (r.Print.length<=4)&&decide (1<=r.Cells.length)&&decide (r.Cells.length<=4))=true:=by
    simp only [Jia,decide_eq_true_eq,Bool.not_eq_true',not_or] at g1
    simp only [JhT,decide_eq_true_eq]
    refine ⟨⟨⟨by simpa using g1.1.1.1,?_⟩,?_⟩,?_⟩<;>omega
   have e2:(decide (1<=r.Left)&&decide (r.Left<=63)&&decide (1<=r.Right)&&decide (r.Right<=63)&&decide (0<=r.From)&&decide (r.From<m)&&decide (0<=r.To)&&decide (r.To<m))=true:=by
    simp only [Jia,decide_eq_true_eq,not_or] at g2
    simp only [JhT,decide_eq_true_eq]
    omega
   rw [e1,e2]
   simp only [g2,Jh3,if_false]
   refine Ev.bind h2 (Ev.bind hE ?_)
   split at hz
   ·rename_i h
    subst hz
    rw [h]
    generalize r.Print.any DA=b
    cases b with
    | false=>exact Ev.const
    | true=>
     refine Ev.all λ n=>?_
     simp only [Bool.not_true,Jh3,if_false,Bool.and_true,Bool.true_and,cond_true]
     congr 3<;>rw [Bool.eq_iff_iff]<;>simp<;>omega
   ·rename_i h
    subst hz
    rw [Bool.not_eq_true] at h
    rw [h]
    exact Ev.const
end Go.AI
end
section
namespace Go.AI
theorem Ev.iteT {α:Type} {c:Bool} {a b:Nat->Option α} {z:α} (h:c=true) (k:Ev a z):Ev (λ n=>if c=true then a n else b n) z:=by subst h;exact k
theorem Ev.iteF {α:Type} {c:Bool} {a b:Nat->Option α} {z:α} (h:c=false) (k:Ev b z):Ev (λ n=>if c=true then a n else b n) z:=by subst h;exact k
theorem Ev.bindC {α β:Type} {x:Option β} {y:β} {g:Nat->β->Option α} {z:α} (h:x=some y) (k:Ev (λ n=>g n y) z):Ev (λ n=>x.bind (g n)) z:=by subst h;exact k
theorem Ev.guard {α β:Type} {c:Bool} {f:Nat->Option β} {d x:β} {g:Nat->β->Option α} {z:α} (h:c=true->Ev f x) (k:Ev (λ n=>g n (if c=true then x else d)) z):Ev (λ n=>(if c=true then f n else some d).bind (g n)) z:=by
 cases c with
 | true=>exact Ev.bind (h rfl) k
 | false=>exact k
theorem Jba {α β:Type} {a:List α} {b:List β}:(((a.length:Nat):Int) != ((b.length:Nat):Int))=decide (a.length≠b.length):=by
 rw [Bool.eq_iff_iff]
 simp only [bne_iff_ne,ne_eq,decide_eq_true_eq]
 omega
theorem R7 {α:Type} [DecidableEq α] [Inhabited α] (a b:List α) (h:a.length=b.length):scan a.length (λ i=>if a.getD i default=b.getD i default then none else some false)=if a=b then .inl () else .inr false:=by
 by_cases e:a=b
 ·subst e
  rw [if_pos rfl]
  exact G4 λ i _=>by rw [if_pos rfl]
 ·rw [if_neg e]
  have:∃ i,i<a.length/\a.getD i default≠b.getD i default:=by
   apply Classical.byContradiction
   intro hn
   refine e (List.ext_getElem h λ i h1 h2=>?_)
   have:=Classical.byContradiction λ hc=>hn ⟨i,h1,hc⟩
   rwa [Ch h1,Ch h2] at this
  obtain ⟨i,hi,hne⟩:=this
  obtain ⟨k,r,_,hr,hs⟩:=G5 (stop:=λ i=>if a.getD i default=b.getD i default then none else some false) hi (by rw [if_neg hne];rfl)
  rw [hs]
  split at hr
  ·cases hr
  ·cases hr;rfl
theorem Tc (a b:List Int) (ha:a.length<9223372036854775807):Ev (λ n=>F5 n a b) (decide (a=b)):=by
 unfold F5
 rw [Jba]
 by_cases h:a.length=b.length
 ·refine Ev.iteF (by simp [h]) ?_
  refine Ev.bind (F6 a.length (λ i=>if a.getD i default=b.getD i default then none else some false) (λ i hi=>Ev.all λ n=>?_) (Ev.all λ n=>?_)) ?_
  ·unfold D9
   rw [if_pos (Rk hi),Ho hi,Ho (by omega)]
   simp only [Option.bind_some]
   by_cases e:a.getD i default=b.getD i default
   ·rw [if_neg (by simp only [bne_iff_ne,ne_eq];exact λ hh=>hh e),if_pos e,D1 (by omega)]
   ·rw [if_pos (by simp only [bne_iff_ne,ne_eq];exact e),if_neg e]
  ·unfold D9
   rw [if_neg (by simp)]
  ·rw [R7 a b h]
   by_cases e:a=b
   ·rw [if_pos e,decide_eq_true e];exact Ev.const
   ·rw [if_neg e,decide_eq_false e];exact Ev.const
 ·refine Ev.iteT (by simp [h]) ?_
  rw [decide_eq_false (λ e=>h (by rw [e]))]
  exact Ev.const
theorem UT (a b:List Int) (ha:a.length<9223372036854775807):Ev (λ n=>GZ n a b) (decide (a=b)):=by
 unfold GZ
 rw [Jba]
 by_cases h:a.length=b.length
 ·refine Ev.iteF (by simp [h]) ?_
  refine Ev.bind (F6 a.length (λ i=>if a.getD i default=b.getD i default then none else some false) (λ i hi=>Ev.all λ n=>?_) (Ev.all λ n=>?_)) ?_
  ·unfold D6
   rw [if_pos (Rk hi),Ho hi,Ho (by omega)]
   simp only [Option.bind_some]
   by_cases e:a.getD i default=b.getD i default
   ·rw [if_neg (by simp only [bne_iff_ne,ne_eq];exact λ hh=>hh e),if_pos e,D1 (by omega)]
   ·rw [if_pos (by simp only [bne_iff_ne,ne_eq];exact e),if_neg e]
  ·unfold D6
   rw [if_neg (by simp)]
  ·rw [R7 a b h]
   by_cases e:a=b
   ·rw [if_pos e,decide_eq_true e];exact Ev.const
   ·rw [if_neg e,decide_eq_false e];exact Ev.const
 ·refine Ev.iteT (by simp [h]) ?_
  rw [decide_eq_false (λ e=>h (by rw [e]))]
  exact Ev.const
theorem WK (a b:As):decide (a=b)=(a.Print==b.Print&&decide (a.Cells=b.Cells)&&a.Left==b.Left&&a.Right==b.Right&&a.From==b.From&&a.To==b.To):=by
 rw [Bool.eq_iff_iff]
 cases a;cases b
 simp only [decide_eq_true_eq,As.mk.injEq,JhT,beq_iff_eq]
 exact ⟨λ ⟨h1,h2,h3,h4,h5,h6⟩=>⟨⟨⟨⟨⟨h1,h2⟩,h3⟩,h4⟩,h5⟩,h6⟩,λ ⟨⟨⟨⟨⟨h1,h2⟩,h3⟩,h4⟩,h5⟩,h6⟩=>⟨h1,h2,h3,h4,h5,h6⟩⟩
theorem UU (a b:As) (ha:a.Cells.length<9223372036854775807):Ev (λ n=>GP n a b) (decide (a=b)):=by
 unfold GP
 refine Ev.guard (λ _=>Tc a.Cells b.Cells ha) (Ev.all λ n=>?_)
 rw [WK]
 cases h:(a.Print==b.Print)<;>simp
theorem Jbb (a b:As) (ha:a.Cells.length<9223372036854775807):Ev (λ n=>G0 n a b) (decide (a=b)):=by
 unfold G0
 refine Ev.guard (λ _=>UT a.Cells b.Cells ha) (Ev.all λ n=>?_)
 rw [WK]
 cases (a.Print==b.Print)<;>cases (a.Left==b.Left)<;>cases (a.Right==b.Right)<;>cases (a.From==b.From)<;>cases (a.To==b.To)<;>simp
theorem UV (b:UInt8):(FR (EK b)==4)=DA b:=by
 have:∀ k:Nat,k<256->(FR (k:Int)==4)=(Cn .u8 (k:Int) 127==32):=by decide +kernel
 exact this b.toNat b.toNat_lt
theorem Jbc {s:List UInt8} {f:UInt8->Bool}:scan s.length (λ i=>if f (s.getD i 0) then some true else none)=if s.any f then .inr true else .inl ():=by
 cases h:s.any f with
 | false=>
  rw [List.any_eq_false] at h
  exact G4 λ i hi=>by rw [Ch hi,if_neg (h _ (List.getElem_mem hi))]
 | true=>
  rw [List.any_eq_true] at h
  obtain ⟨b,hb,hf⟩:=h
  obtain ⟨i,hi,e⟩:=List.getElem_of_mem hb
  obtain ⟨k,r,_,hr,hs⟩:=G5 (stop:=λ i=>if f (s.getD i 0) then some true else none) hi (by rw [Ch hi,e,hf];rfl)
  rw [hs]
  split at hr
  ·cases hr;rfl
  ·cases hr
theorem UW {s:List UInt8} (hl:s.length<9223372036854775807):Ev (λ n=>D4 n s) (s.any DA):=by
 unfold D4
 refine Ev.bind (F6 s.length (λ i=>if DA (s.getD i 0) then some true else none) (λ i hi=>Ev.all λ n=>?_) (Ev.all λ n=>?_)) ?_
 ·unfold CN
  have hg:s[i]? = some s[i]:=JhS hi
  rw [if_pos (Rk hi),IW hg,Ch hi]
  simp only [Option.bind_some,UL,UV]
  cases DA s[i] with
  | true=>simp
  | false=>simp [D1 (show i<9223372036854775807 by omega)]
 ·unfold CN
  rw [if_neg (by simp)]
 ·rw [Jbc]
  cases s.any DA<;>exact Ev.const
theorem XT {l:List Int} {f:Int->Bool}:scan l.length (λ i=>if f (l.getD i 0) then none else some false)=if l.all f then .inl () else .inr false:=by
 cases h:l.all f with
 | true=>
  rw [List.all_eq_true] at h
  exact G4 λ i hi=>by rw [Ch hi,if_pos (h _ (List.getElem_mem hi))]
 | false=>
  rw [List.all_eq_false] at h
  obtain ⟨b,hb,hf⟩:=h
  obtain ⟨i,hi,e⟩:=List.getElem_of_mem hb
  obtain ⟨k,r,_,hr,hs⟩:=G5 (stop:=λ i=>if f (l.getD i 0) then none else some false) hi (by rw [Ch hi,e,if_neg hf];rfl)
  rw [hs]
  split at hr
  ·cases hr
  ·cases hr;rfl
def Og (c:Int):Bool:=decide (c<63)&&!(c==0)
theorem XU {r:As} (hp:r.Print.length<9223372036854775807) (hc:r.Cells.length<9223372036854775807) (m:Int):Ev (λ n=>GY n r m) (Cw r m):=by
 unfold GY
 by_cases g1:(((decide (((r.Print.length:Nat):Int)>4))||(decide (((r.Cells.length:Nat):Int)<1)))||(decide (((r.Cells.length:Nat):Int)>4)))=true
 ·refine Ev.iteT g1 ?_
  have:Cw r m=false:=by
   rw [← Bool.not_eq_true];intro h
   simp only [Cw,JhT,decide_eq_true_eq] at h
   simp only [Jia,decide_eq_true_eq] at g1
   omega
  rw [this];exact Ev.const
 ·rw [Bool.not_eq_true] at g1
  refine Ev.iteF g1 (Ev.bind (Jcw hp) ?_)
  cases ha:r.Print.all Hp with
  | false=>
   refine Ev.iteT (by rw [R6 ha];rfl) ?_
   have:Cw r m=false:=by simp [Cw,ha]
   rw [this];exact Ev.const
  | true=>
   refine Ev.iteF (by rw [US ha];rfl) ?_
   by_cases g2:((((decide (r.Left<1))||(decide (r.Left>63)))||(decide (r.Right<1)))||(decide (r.Right>63)))=true
   ·refine Ev.iteT g2 ?_
    have:Cw r m=false:=by
     rw [← Bool.not_eq_true];intro h
     simp only [Cw,JhT,decide_eq_true_eq] at h
     simp only [Jia,decide_eq_true_eq] at g2
     omega
    rw [this];exact Ev.const
   ·rw [Bool.not_eq_true] at g2
    refine Ev.iteF g2 ?_
    by_cases g3:((((decide (r.From<0))||(decide (r.From>=m)))||(decide (r.To<0)))||(decide (r.To>=m)))=true
    ·refine Ev.iteT g3 ?_
     have:Cw r m=false:=by
      rw [← Bool.not_eq_true];intro h
      simp only [Cw,JhT,decide_eq_true_eq] at h
      simp only [Jia,decide_eq_true_eq] at g3
      omega
     rw [this];exact Ev.const
    ·rw [Bool.not_eq_true] at g3
     refine Ev.iteF g3 (Ev.bind (UW hp) ?_)
     simp only [Bool.or_eq_false_iff,decide_eq_false_iff_not] at g1 g2 g3
     have e1:Cw r m=(r.Cells.all (λ c=>decide (c<63))&&(bif r.Print.any DA then decide (r.Print.length=1)&&decide (r.Cells.length=1)&&r.Cells.any (λ c=>c==0) else !r.Cells.any (λ c=>c==0))):=by
      unfold Cw
      rw [ha]
      have:(true&&decide (r.Print.length<=4)&&decide (1<=r.Cells.length)&&decide (r.Cells.length<=4)&&(decide (1<=r.Left)&&decide (r.Left<=63)&&decide (1<=r.Right)&&decide (r.Right<=63)&&decide (0<=r.From)&&decide (r.From<m)&&decide (0<=r.To)&&decide (r.To<m)))=true:=by
       simp only [JhT,decide_eq_true_eq,true_and]
       omega
      rw [this,Bool.true_and]
     rw [e1]
     cases hsp:r.Print.any DA with
     | true=>
      refine Ev.iteT rfl ?_
      by_cases g4:((((r.Print.length:Nat):Int)==1)&&(((r.Cells.length:Nat):Int)==1))=true
      ·have hl:r.Print.length=1/\r.Cells.length=1:=by
        simp only [JhT,beq_iff_eq] at g4;omega
       obtain ⟨c,hcell⟩:=List.length_eq_one_iff.1 hl.2
       have hi:idx r.Cells 0=some c:=by rw [hcell];rfl
       simp only [g4,if_true,hi,Option.bind_some]
       refine Ev.all λ n=>?_
       rw [hcell]
       simp only [hl.1,List.all_cons,List.all_nil,List.any_cons,List.any_nil,List.length_cons,List.length_nil,Bool.and_true,Bool.or_false,decide_true,Bool.true_and,cond_true]
       cases h0:(c==0) with
       | false=>simp
       | true=>
        have:c=0:=by simpa using h0
        subst this;rfl
      ·rw [Bool.not_eq_true] at g4
       simp only [g4,Jh3,if_false,Option.bind_some,Bool.false_and]
       refine Ev.all λ n=>?_
       have:(decide (r.Print.length=1)&&decide (r.Cells.length=1))=false:=by
        rw [← Bool.not_eq_true];intro h
        simp only [JhT,decide_eq_true_eq] at h
        rw [← Bool.not_eq_true] at g4
        apply g4
        simp [h.1,h.2]
       simp [this]
     | false=>
      refine Ev.iteF rfl ?_
      refine Ev.bind (F6 r.Cells.length (λ i=>if Og (r.Cells.getD i 0) then none else some false) (λ i hi=>Ev.all λ n=>?_) (Ev.all λ n=>?_)) ?_
      ·unfold D5
       rw [if_pos (Rk hi),Ho hi,show r.Cells.getD i default=r.Cells.getD i 0 from rfl]
       generalize r.Cells.getD i 0=c
       simp only [Option.bind_some,IA]
       by_cases hcc:Og c=true
       ·simp only [Og,JhT,decide_eq_true_eq,Bool.not_eq_true',beq_eq_false_iff_ne,ne_eq] at hcc
        rw [if_neg (by simp;omega),if_pos (by simp [Og];omega),D1 (by omega)]
       ·rw [if_pos (by simp [Og] at hcc ⊢;omega),if_neg hcc]
      ·unfold D5
       rw [if_neg (by simp)]
      ·rw [XT]
       have e2:(r.Cells.all (λ c=>decide (c<63))&&!r.Cells.any (λ c=>c==0))=r.Cells.all Og:=by
        rw [Bool.eq_iff_iff]
        simp only [Og,JhT,List.all_eq_true,Bool.not_eq_true',List.any_eq_false,Bool.not_eq_true]
        exact ⟨λ h x hx=>⟨h.1 x hx,h.2 x hx⟩,λ h=>⟨λ x hx=>(h x hx).1,λ x hx=>(h x hx).2⟩⟩
       simp only [cond_false]
       rw [e2]
       cases r.Cells.all Og<;>exact Ev.const
end Go.AI
end
