/- Part 5 of 6 of the proof: lemmas about the model and the program's functions, with no condition beyond those that each states. -/
import Derived.Test.YtjbjbkidckbalaaLD
import Derived.ChangeArms
import Derived.WalkKit
import Derived.ProofKit
import Derived.OpenShut
import Derived.Carry
import Derived.WideKeyArgs
import Derived.ChangeSame
import Derived.KernelRfl
section
namespace Go.AI
open Go.Proofs
set_option maxRecDepth 10000
variable {n:Nat}
section
variable (b2_:Ae) (b4_:Ae) (b5_1_:(List Int)) (b6_:An) (o7_:(List (Ae×Bool))) (j_1:Nat) (x_25:(List (Ae×Bool))) (x38:(List K7)) (x_26:(List (Ae×Bool))) (x_27:Int) (x_28:(List (Ae×Bool))) (x_29:(List (Ae×Bool)))
noncomputable def Jb5:St:=⟨(0,.yld 0)::(1,.ptr 1 0)::(2,.ptr 2 0)::[],[some (.lp Ah [6,12] [.ptr 3 0,.ptr 4 0] 0),some (.box [.ptr 5 0]),some (.box [.d (.int .i64 b2_.At),.d (.int .i64 b2_.State)]),some (.box [.ptr 5 0]),some (.box [.d (.int .i64 b4_.At),.d (.int .i64 b4_.State)]),some (.box [.ptr 6 0,.d (.sl (b5_1_.map eU8)),.mp 7]),some (.box (Ai b6_ (.osl 8 1 0 (b6_.Accepts.length)))),some (.map true false (AH Ap eB o7_)),some (.arr 1 (b6_.Accepts.map eB))]⟩
noncomputable def R5:St:=⟨[],[some (.lp Ah [6,12] [.ptr 3 0,.ptr 4 0] j_1),some (.box [.ptr 5 0]),some (.box [.d (.int .i64 b2_.At),.d (.int .i64 b2_.State)]),some (.box [.ptr 5 0]),some (.box [.d (.int .i64 b4_.At),.d (.int .i64 b4_.State)]),some (.box [.ptr 6 0,.d (.sl (b5_1_.map eU8)),.mp 7]),some (.box (Ai b6_ (.osl 8 1 0 (b6_.Accepts.length)))),some (.map true false (AH Ap eB x_25)),some (.arr 1 (b6_.Accepts.map eB))]⟩
noncomputable def Jb6:St:=⟨(0,.yld 0)::(1,.ptr 1 0)::(2,.ptr 2 0)::(16,.d (.sl (x38.map BT)))::(17,.d (.int .i64 ((x38.length:Nat):Int)))::(18,.d (.int .i64 x_27))::[],[some (.lp Ah [6,12] [.ptr 3 0,.ptr 4 0] 0),some (.box [.ptr 5 0]),some (.box [.d (.int .i64 b2_.At),.d (.int .i64 b2_.State)]),some (.box [.ptr 5 0]),some (.box [.d (.int .i64 b4_.At),.d (.int .i64 b4_.State)]),some (.box [.ptr 6 0,.d (.sl (b5_1_.map eU8)),.mp 7]),some (.box (Ai b6_ (.osl 8 1 0 (b6_.Accepts.length)))),some (.map true false (AH Ap eB x_26)),some (.arr 1 (b6_.Accepts.map eB))]⟩
noncomputable def Jb7:St:=⟨[],[some (.lp Ah [6,12] [.ptr 3 0,.ptr 4 0] 0),some (.box [.ptr 5 0]),some (.box [.d (.int .i64 b2_.At),.d (.int .i64 b2_.State)]),some (.box [.ptr 5 0]),some (.box [.d (.int .i64 b4_.At),.d (.int .i64 b4_.State)]),some (.box [.ptr 6 0,.d (.sl (b5_1_.map eU8)),.mp 7]),some (.box (Ai b6_ (.osl 8 1 0 (b6_.Accepts.length)))),some (.map true false (AH Ap eB x_28)),some (.arr 1 (b6_.Accepts.map eB))]⟩
noncomputable def Jb8:St:=⟨(0,.yld 0)::(1,.ptr 1 0)::(2,.ptr 2 0)::(16,.d (.sl (x38.map BT)))::(17,.d (.int .i64 ((x38.length:Nat):Int)))::(18,.d (.int .i64 x_27))::[],[some (.lp Ah [6,12] [.ptr 3 0,.ptr 4 0] 0),some (.box [.ptr 5 0]),some (.box [.d (.int .i64 b2_.At),.d (.int .i64 b2_.State)]),some (.box [.ptr 5 0]),some (.box [.d (.int .i64 b4_.At),.d (.int .i64 b4_.State)]),some (.box [.ptr 6 0,.d (.sl (b5_1_.map eU8)),.mp 7]),some (.box (Ai b6_ (.osl 8 1 0 (b6_.Accepts.length)))),some (.map true false (AH Ap eB x_29)),some (.arr 1 (b6_.Accepts.map eB))]⟩
noncomputable def Jv:((List (Ae×Bool))⊕(Nat×(List (Ae×Bool))))->Ex->St->Prop:=xS (xX 9 0 (λ (y:(List (Ae×Bool)))=>Jb7 b2_ b4_ b5_1_ b6_ y)) (xL 9 ty Try.f85 (λ (y:(Nat×(List (Ae×Bool))))=>.tup []) (λ (y:(Nat×(List (Ae×Bool))))=>[some (.lp Ah [6,12] [.ptr 3 0,.ptr 4 0] y.1),some (.box [.ptr 5 0]),some (.box [.d (.int .i64 b2_.At),.d (.int .i64 b2_.State)]),some (.box [.ptr 5 0]),some (.box [.d (.int .i64 b4_.At),.d (.int .i64 b4_.State)]),some (.box [.ptr 6 0,.d (.sl (b5_1_.map eU8)),.mp 7]),some (.box (Ai b6_ (.osl 8 1 0 (b6_.Accepts.length)))),some (.map true false (AH Ap eB y.2)),some (.arr 1 (b6_.Accepts.map eB))]))
noncomputable def FM:((List (Ae×Bool))×Int)->St:=(λ (x:((List (Ae×Bool))×Int))=>Jb6 b2_ b4_ b5_1_ b6_ x38 x.1 x.2)
variable {b2_ b4_ b5_1_ b6_ o7_ j_1 x_25 x38 x_26 x_27 x_28 x_29}
theorem Fd (x:((List (Ae×Bool))×Int)) (z:(((List (Ae×Bool))×Int)⊕((List (Ae×Bool))⊕(Nat×(List (Ae×Bool)))))) (H:Bt n b2_ b4_ b5_1_ b6_ x38 x.1 x.2=some z):WP (cxk 53 9) (AC Try.f85) [1,0,0] (AJ 9 (FM b2_ b4_ b5_1_ b6_ x38) (Jv b2_ b4_ b5_1_ b6_) z) (FM b2_ b4_ b5_1_ b6_ x38 x):=by
 obtain ⟨x_26,x_27⟩:=x
 refine sr (ck 1 (en (sq (cn H (λ H=>?_) (λ H=>?_)))))
 ·refine sk (qz (sj (λ (x:(List (Ae×Bool)))=>Jb8 b2_ b4_ b5_1_ b6_ x38 x_27 x) (λ (x:(List (Ae×Bool)))=>BS n x_27 x) z ?_ (λ hFRb_reading_fits_1_J1=>?_)))
  ·intro x_29 H
   exact rz (ck 2 (ae (by cases H;exact og (sg [0,1,2,16,17,18]))))
  refine bk 1 (sr (bx H λ x39 h117 H=>sp (AA BT h117) (ck 3 (en (sq (rx 9 27 (.refl _) (ck 8 (bx H λ l21 h118 H=>sp (MA eU8 1 h118) (bx H λ r31 h119 H=>xs (xok _ _) (g:=true) rfl (Ed) [] ((IX h119).lent rfl) rfl (ck 2 (sp (Av eU8 x39.Cells) (ck 4 (gc 1 (r31==((x39.Cells.length:Nat):Int)) (ck 1 (gc 1 (r31==((x39.Cells.length:Nat):Int)) (ck 1 (gc 1 (r31==((x39.Cells.length:Nat):Int)) (sE (g:=(r31==((x39.Cells.length:Nat):Int))) (λ hg=>Av eU8 x39.Cells) (gc 1 (r31==((x39.Cells.length:Nat):Int)) (ck 1 (gc 2 (r31==((x39.Cells.length:Nat):Int)) (mx (gsp (r31==((x39.Cells.length:Nat):Int)) H (λ hg H=>?_) (λ hg H=>?_))))))))))))))))))))))))
  ·refine bx H λ r32 h120 H=>xy (xok _ _) hg (Cd (λ hh=>hh) (Cd (λ hh=>hh) (Cd (λ hh=>hh) (Ed)))) [0,3,4,5,6,7,8] (MN h120) rfl (nx 30 29 (gc 1 (r31==((x39.Cells.length:Nat):Int)) (mx (pA (nz (qz (cnh H (λ hc59 H=>?_) (λ hc59 H=>?_))))))))
   ·exact re (qR (qr (by cases H;exact lo rfl (rl (s':=R5 b2_ b4_ b5_1_ b6_ r32.1 r32.2) (sg [])))))
   ·exact sk (qN (qs (tr (Wh 0 (jb1 hg hc59) (by kernel_rfl)) (sg [0,1,2,16,17,18])) (hFRb_reading_fits_1_J1 r32.2 H)))
  ·refine gsk hg (.d (.bool false)) (nx 30 29 (gc 1 (r31==((x39.Cells.length:Nat):Int)) (mx (pA (nz (qz (cn H (λ H=>?_) (λ H=>?_))))))))
   ·exact re (qR (qr (by cases H;exact lo rfl (rl (s':=R5 b2_ b4_ b5_1_ b6_ 0 x_26) (sg [])))))
   ·exact sk (qN (qs (sg [0,1,2,16,17,18]) (hFRb_reading_fits_1_J1 x_26 H)))
 ·exact ex 0 (qx (by cases H;exact xo rfl (sg [])))
theorem Lc {z} (H:Cp n b2_ b4_ b5_1_ b6_ o7_=some z):Bk Try.prog 85 [.yld 0,.ptr 1 0,.ptr 2 0] [some (.lp Ah [6,12] [.ptr 3 0,.ptr 4 0] 0),some (.box [.ptr 5 0]),some (.box [.d (.int .i64 b2_.At),.d (.int .i64 b2_.State)]),some (.box [.ptr 5 0]),some (.box [.d (.int .i64 b4_.At),.d (.int .i64 b4_.State)]),some (.box [.ptr 6 0,.d (.sl (b5_1_.map eU8)),.mp 7]),some (.box (Ai b6_ (.osl 8 1 0 (b6_.Accepts.length)))),some (.map true false (AH Ap eB o7_)),some (.arr 1 (b6_.Accepts.map eB))] 9 (.tup []) [some (.lp Ah [6,12] [.ptr 3 0,.ptr 4 0] z.1),some (.box [.ptr 5 0]),some (.box [.d (.int .i64 b2_.At),.d (.int .i64 b2_.State)]),some (.box [.ptr 5 0]),some (.box [.d (.int .i64 b4_.At),.d (.int .i64 b4_.State)]),some (.box [.ptr 6 0,.d (.sl (b5_1_.map eU8)),.mp 7]),some (.box (Ai b6_ (.osl 8 1 0 (b6_.Accepts.length)))),some (.map true false (AH Ap eB z.2)),some (.arr 1 (b6_.Accepts.map eB))]:=by
 refine fL 53 9 (Jb5 b2_ b4_ b5_1_ b6_ o7_) Try.func85 (sr (ck 9 (bx H λ x38 h116 H=>sp (AA (eL BT) h116) (ck 1 (sp (Av BT x38) (ck 1 (en (bk 0 (bx H λ y35 h121 H=>?_)))))))))
 rcases y35 with y36|y37
 ·exact lX Fd h121 (sg [0,1,2,16,17,18]) rfl λ s hE29=>qH (by cases H;exact pL' (rl (s':=R5 b2_ b4_ b5_1_ b6_ 0 y36) (tr (hE29) (sg []))))
 ·exact lL Fd h121 (sg [0,1,2,16,17,18]) rfl λ s hE30=>qR (by cases H;exact pL hE30)
end
section
variable (p0_:AY) (least_1:Int) (x_30:Int) (least_2:Int) (least_3:Int)
def Jha:St:=⟨(0,.dptr (A8 p0_) 0)::[],[]⟩
def Jhb:St:=⟨(0,.dptr (A8 p0_) 0)::(3,.d (.int .i64 least_1))::(10,.d (.sl (p0_.Heads.map Ag)))::(11,.d (.int .i64 ((p0_.Heads.length:Nat):Int)))::(12,.d (.int .i64 x_30))::[],[]⟩
def Jhc:St:=⟨(3,.d (.int .i64 least_2))::[],[]⟩
def Jhd:St:=⟨(0,.dptr (A8 p0_) 0)::(3,.d (.int .i64 least_3))::(10,.d (.sl (p0_.Heads.map Ag)))::(11,.d (.int .i64 ((p0_.Heads.length:Nat):Int)))::(12,.d (.int .i64 x_30))::[],[]⟩
def Ld:Int->Ex->St->Prop:=xX 0 0 (λ (y:Int)=>Jhc y)
def Gj:(Int×Int)->St:=(λ (x:(Int×Int))=>Jhb p0_ x.1 x.2)
variable {p0_ least_1 x_30 least_2 least_3}
theorem Kk (x:(Int×Int)) (z:((Int×Int)⊕Int)) (H:BM n p0_ x.1 x.2=some z):WP (cxk 38 0) (AC Try.f76) [1,1,0,1,0,0] (AJ 0 (Gj p0_) (Ld) z) (Gj p0_ x):=by
 obtain ⟨least_1,x_30⟩:=x
 refine sr (ck 1 (en (sq (cn H (λ H=>?_) (λ H=>?_)))))
 ·refine sk (qz (sj (λ (x:Int)=>Jhd p0_ x_30 x) (λ (x:Int)=>Cb n x_30 x) z ?_ (λ hFRb_branch_least_J1=>?_)))
  ·intro least_3 H
   exact rz (ck 2 (ae (by cases H;exact og (sg [0,3,10,11,12]))))
  refine bk 1 (sr (bx H λ x40 h122 H=>sp (AA Ag h122) (ck 3 (en (sr (ck 2 (bx H λ b5 h123 H=>sp (GP h123) (ck 2 (en (sr (ck 8 (gc 2 (decide (IntKind.i64.wrap b5>=p0_.Next)) (ck 2 (gc 1 ((decide (IntKind.i64.wrap b5>=p0_.Next))&&!(decide (least_1<0))) (pG (g:=decide (IntKind.i64.wrap b5>=p0_.Next)) (v:=.d (.bool ((decide (least_1<0))||(decide (IntKind.i64.wrap b5<least_1))))) (λ hg=>ZA (c:=.gv (decide (IntKind.i64.wrap b5>=p0_.Next)) (.d (.bool (decide (least_1<0))))) (a:=.d (.bool true)) (b:=.gv ((decide (IntKind.i64.wrap b5>=p0_.Next))&&!(decide (least_1<0))) (.d (.bool (decide (IntKind.i64.wrap b5<least_1))))) rfl rfl rfl ((λ hh=>hh) hg) trivial (λ ht=>by rw [(λ hh=>hh) hg,ht];rfl)) (pA (en (cn H (λ H=>?_) (λ H=>?_)))))))))))))))))))
  ·exact rz (ck 2 (ae (qN (qs (sg [0,3,10,11,12]) (hFRb_branch_least_J1 (IntKind.i64.wrap b5) H)))))
  ·exact sk (qN (qs (sg [0,3,10,11,12]) (hFRb_branch_least_J1 least_1 H)))
 ·exact ex 0 (qx (by cases H;exact xo rfl (sg [3])))
theorem Hs {z} (H:Cq n p0_=some z):AF Try.prog 76 [.dptr (A8 p0_) 0] (.d (.int .i64 z)):=by
 exact fO 38 (Jha p0_) Try.func76 (sr (ck 1 (en (sr (ck 1 (en (sq (sr (ck 4 (sp (Av Ag p0_.Heads) (ck 1 (en (bk 0 (bx H λ y38 h124 H=>lX Kk h124 (sg [0,3,10,11,12]) rfl λ s hE31=>qH (qs (hE31) (sr (ck 2 (en (re (by cases H;exact pr rd))))))))))))))))))))
end
section
variable (p0_:Ab) (p1_:(List Int)) (x_32:An) (x_33:(List (Ae×Bool))) (x_34:Int) (r33:An) (r34:((List (Bool×(List Int)))×Int)) (reached_15:(List (Bool×(List Int)))) (r_1:(List (Ae×Bool))) (i_2:Int) (r_2:(List (Ae×Bool))) (x42:(Bool×(List Int))) (r_3:(List (Ae×Bool))) (x_35:Int) (r_4:(List (Ae×Bool))) (r_5:(List (Ae×Bool))) (x43:Int) (r_6:(List (Ae×Bool)))
def Jb9:St:=⟨(0,.agg [.d (.int .i64 p0_.Modes),.d (.int .u8 p0_.Accept),.d (.sl (p0_.Rules.map Ak))])::(1,.d (.sl (p1_.map eU8)))::[],[]⟩
def Jca:St:=⟨(4,.ptr 0 0)::(5,.d (.int .i64 x_34))::[],[some (.box [.ptr 1 0,.d (.sl (p1_.map eU8)),.mp 2]),some (.box (Ai x_32 (.osl 3 1 0 (x_32.Accepts.length)))),some (.map true false (AH Ap eB x_33)),some (.arr 1 (x_32.Accepts.map eB))]⟩
def Jcb:St:=⟨(1,.d (.sl (p1_.map eU8)))::(6,.ptr 0 0)::(7,.osl 1 1 0 (reached_15.length))::(8,.d (.int .i64 r34.2))::(9,.d (.int .i64 i_2))::[],[some (.box [.ptr 2 0]),some (.narr 1 (reached_15.map (eTg 1 Ax))),some (.box [.ptr 3 0,.d (.sl (p1_.map eU8)),.mp 4]),some (.box (Ai r33 (.osl 5 1 0 (r33.Accepts.length)))),some (.map true false (AH Ap eB r_1)),some (.arr 1 (r33.Accepts.map eB))]⟩
def Jcc:St:=⟨(6,.ptr 0 0)::(8,.d (.int .i64 r34.2))::[],[some (.box [.ptr 1 0]),some (.box [.ptr 2 0,.d (.sl (p1_.map eU8)),.mp 3]),some (.box (Ai r33 (.osl 4 1 0 (r33.Accepts.length)))),some (.map true false (AH Ap eB r_2)),some (.arr 1 (r33.Accepts.map eB))]⟩
def Jcd:St:=⟨(1,.d (.sl (p1_.map eU8)))::(6,.ptr 0 0)::(7,.osl 1 1 0 (List.length (List.set reached_15 i_2.toNat (true,x42.2))))::(8,.d (.int .i64 r34.2))::(9,.d (.int .i64 i_2))::(39,.d (.sl (x42.2.map Ax)))::(40,.d (.int .i64 ((x42.2.length:Nat):Int)))::(41,.d (.int .i64 x_35))::[],[some (.box [.ptr 2 0]),some (.narr 1 (List.map (eTg 1 Ax) (List.set reached_15 i_2.toNat (true,x42.2)))),some (.box [.ptr 3 0,.d (.sl (p1_.map eU8)),.mp 4]),some (.box (Ai r33 (.osl 5 1 0 (r33.Accepts.length)))),some (.map true false (AH Ap eB r_3)),some (.arr 1 (r33.Accepts.map eB))]⟩
def Jce:St:=⟨(1,.d (.sl (p1_.map eU8)))::(6,.ptr 0 0)::(7,.osl 1 1 0 (List.length (List.set reached_15 i_2.toNat (true,x42.2))))::(8,.d (.int .i64 r34.2))::(9,.d (.int .i64 i_2))::[],[some (.box [.ptr 2 0]),some (.narr 1 (List.map (eTg 1 Ax) (List.set reached_15 i_2.toNat (true,x42.2)))),some (.box [.ptr 3 0,.d (.sl (p1_.map eU8)),.mp 4]),some (.box (Ai r33 (.osl 5 1 0 (r33.Accepts.length)))),some (.map true false (AH Ap eB r_4)),some (.arr 1 (r33.Accepts.map eB))]⟩
def Jcf:St:=⟨(1,.d (.sl (p1_.map eU8)))::(6,.ptr 0 0)::(7,.osl 1 1 0 (List.length (List.set reached_15 i_2.toNat (true,x42.2))))::(8,.d (.int .i64 r34.2))::(9,.d (.int .i64 i_2))::(39,.d (.sl (x42.2.map Ax)))::(40,.d (.int .i64 ((x42.2.length:Nat):Int)))::(41,.d (.int .i64 x_35))::[],[some (.box [.ptr 2 0]),some (.narr 1 (List.map (eTg 1 Ax) (List.set reached_15 i_2.toNat (true,x42.2)))),some (.box [.ptr 3 0,.d (.sl (p1_.map eU8)),.mp 4]),some (.box (Ai r33 (.osl 5 1 0 (r33.Accepts.length)))),some (.map true false (AH Ap eB r_5)),some (.arr 1 (r33.Accepts.map eB))]⟩
def Jcg:St:=⟨(1,.d (.sl (p1_.map eU8)))::(6,.ptr 0 0)::(7,.osl 1 1 0 (List.length (List.set reached_15 i_2.toNat (true,x42.2))))::(8,.d (.int .i64 r34.2))::(9,.d (.int .i64 i_2))::(12,.ptr 2 0)::(39,.d (.sl (x42.2.map Ax)))::(40,.d (.int .i64 ((x42.2.length:Nat):Int)))::(41,.d (.int .i64 x_35))::[],[some (.box [.ptr 3 0]),some (.narr 1 (List.map (eTg 1 Ax) (List.set reached_15 i_2.toNat (true,x42.2)))),some (.box [.d (.int .i64 i_2),.d (.int .i64 x43)]),some (.box [.ptr 4 0,.d (.sl (p1_.map eU8)),.mp 5]),some (.box (Ai r33 (.osl 6 1 0 (r33.Accepts.length)))),some (.map true false (AH Ap eB r_6)),some (.arr 1 (r33.Accepts.map eB))]⟩
def MO:(List (Ae×Bool))->Ex->St->Prop:=xX 0 2 (λ (y:(List (Ae×Bool)))=>Jce p1_ r33 r34 reached_15 i_2 x42 y)
def Ht:((List (Ae×Bool))×Int)->St:=(λ (x:((List (Ae×Bool))×Int))=>Jcd p1_ r33 r34 reached_15 i_2 x42 x.1 x.2)
def MP:(List (Ae×Bool))->Ex->St->Prop:=xX 0 0 (λ (y:(List (Ae×Bool)))=>Jcc p1_ r33 r34 y)
def Hu:((List (Bool×(List Int)))×(List (Ae×Bool))×Int)->St:=(λ (x:((List (Bool×(List Int)))×(List (Ae×Bool))×Int))=>Jcb p1_ r33 r34 x.1 x.2.1 x.2.2)
variable {p0_ p1_ x_32 x_33 x_34 r33 r34 reached_15 r_1 i_2 r_2 x42 r_3 x_35 r_4 r_5 x43 r_6}
theorem LU (x:((List (Ae×Bool))×Int)) (z:(((List (Ae×Bool))×Int)⊕(List (Ae×Bool)))) (H:BQ n p1_ r33 r34 reached_15 i_2 x42 x.1 x.2=some z):WP (cxk 88 0) (AC Try.f60) [1,1,1,0,1,0,0,1,0,0,1,0,0] (AJ 0 (Ht p1_ r33 r34 reached_15 i_2 x42) (MO p1_ r33 r34 reached_15 i_2 x42) z) (Ht p1_ r33 r34 reached_15 i_2 x42 x):=by
 obtain ⟨r_3,x_35⟩:=x
 refine sr (ck 1 (en (sq (cn H (λ H=>?_) (λ H=>?_)))))
 ·refine sk (qz (sj (λ (x:(List (Ae×Bool)))=>Jcf p1_ r33 r34 reached_15 i_2 x42 x_35 x) (λ (x:(List (Ae×Bool)))=>Dl n x_35 x) z ?_ (λ hFRb_newReading_J1=>?_)))
  ·intro r_5 H
   exact rz (ck 2 (ae (by cases H;exact og (gP [1,6,7,8,9,39,40,41] [0,1,2,3,4,5] (po1 (pn1 (eTg 1 Ax) (List.set reached_15 i_2.toNat (true,x42.2)) (po1 (po1 (po1 (po1 (Pl.z)))))))))))
  refine bk 3 (sr (bx H λ x43 h133 H=>sp (AA Ax h133) (ck 2 (en (sr (ck 5 (en (sj (λ (x:(List (Ae×Bool)))=>Jcg p1_ r33 r34 reached_15 i_2 x42 x_35 x43 x) (λ (x:(List (Ae×Bool)))=>B9 n p1_ r33 i_2 x_35 x43 x) z ?_ (λ hFRb_newReading_J2=>?_)))))))))
  ·intro r_6 H
   refine sr (ck 2 (bx H λ r35 h134 H=>lt [3,4,5,6] (E5 h134) (en (bk 4 (bx H λ r36 h135 H=>rf [.exit 4] [6,12] [9,7,8,0,2,3,4,5,6] r36.1 (Lc h135) rfl (jn H (λ H=>?_) (λ H=>?_)))))))
   ·exact qN (qN (qs (gP [1,6,7,8,9,39,40,41] [0,1,3,4,5,6] (po1 (pn1 (eTg 1 Ax) (List.set reached_15 i_2.toNat (true,x42.2)) (po1 (po1 (po1 (po1 (Pl.z)))))))) (hFRb_newReading_J1 r36.2 H)))
   ·refine jx 0 4 H (λ H=>?_) (λ H=>?_)
    ·exact qH (qN (qs (gP [1,6,7,8,9,39,40,41] [0,1,3,4,5,6] (po1 (pn1 (eTg 1 Ax) (List.set reached_15 i_2.toNat (true,x42.2)) (po1 (po1 (po1 (po1 (Pl.z)))))))) (hFRb_newReading_J1 r36.2 H)))
    ·cases H
  refine sr (ck 2 (sp (Av eU8 p1_) (ck 3 (gc 6 (i_2==((p1_.length:Nat):Int)) (ck 1 (bx H λ x44 h136 H=>sE (λ hg=>Bc 5 1 (C6 h136 hg)) (sE (g:=(i_2==((p1_.length:Nat):Int))) (λ hg=>DD eB 5 0 (ty 4) (C6 h136 hg)) (pA (en (cn H (λ H=>?_) (λ H=>?_)))))))))))
  ·exact rz (ck 5 (sp (Ke (enc:=eB) (encK:=Ap) (k:=4) (e1:=λ x=>.bool x) (m:=r_3) (l:=[.d (.int .i64 i_2),.d (.int .i64 x43)]) (key:=({ At:=i_2,State:=x43 }:Ae)) (y:=true) (v:=.d (.bool true)) (vz:=[.bool false]) LF) (ae (qs (gP [1,6,7,8,9,12,39,40,41] [0,1,6,2,3,4,5] (po1 (pn1 (eTg 1 Ax) (List.set reached_15 i_2.toNat (true,x42.2)) (po1 (po1 (po1 (po1 (po1 (Pl.z))))))))) (hFRb_newReading_J2 (El ({ At:=i_2,State:=x43 }:Ae) true r_3) H)))))
  ·exact sk (qs (gP [1,6,7,8,9,12,39,40,41] [0,1,6,2,3,4,5] (po1 (pn1 (eTg 1 Ax) (List.set reached_15 i_2.toNat (true,x42.2)) (po1 (po1 (po1 (po1 (po1 (Pl.z))))))))) (hFRb_newReading_J2 r_3 H))
 ·exact ex 2 (qx (by cases H;exact xo rfl (gP [1,6,7,8,9] [0,1,2,3,4,5] (po1 (pn1 (eTg 1 Ax) (List.set reached_15 i_2.toNat (true,x42.2)) (po1 (po1 (po1 (po1 (Pl.z))))))))))
theorem LV (x:((List (Bool×(List Int)))×(List (Ae×Bool))×Int)) (z:(((List (Bool×(List Int)))×(List (Ae×Bool))×Int)⊕(List (Ae×Bool)))) (H:Ca n p1_ r33 r34 x.1 x.2.1 x.2.2=some z):WP (cxk 88 0) (AC Try.f60) [1,1,1,0,1,0,0] (AJ 0 (Hu p1_ r33 r34) (MP p1_ r33 r34) z) (Hu p1_ r33 r34 x):=by
 obtain ⟨reached_15,r_1,i_2⟩:=x
 refine sq (sr (ck 2 (en (cn H (λ H=>?_) (λ H=>?_)))))
 ·exact sk (qz (sq (bk 1 (sq (bx H λ x42 h132 H=>rg (YD (enc:=Ax) (xss:=reached_15) (sz:=1) (isz:=1) 1 (by kernel_rfl) h132) (ck 2 (sp (Bc 1 1 h132) (sp (RR (encN:=(eTg 1 Ax)) (row:=[.d (.sl (x42.2.map Ax))]) (k:=1) (sz:=1) (off:=0) (t:=ty 33) (v:=.d (.sl (x42.2.map Ax))) h132) (sp (Av Ax x42.2) (ck 1 (en (bk 2 (bx H λ y40 h137 H=>lX LU h137 (tr (tr (tr (scl (encN:=(eTg 1 Ax)) (xss:=reached_15) i_2 [.d (.sl (x42.2.map Ax))] 1 1 (true,x42.2)) (sn 7 1 1 (lsS reached_15 i_2.toNat (true,x42.2)))) (sn 36 1 1 (lsS reached_15 i_2.toNat (true,x42.2)))) (gP [1,6,7,8,9,39,40,41] [0,1,2,3,4,5] (po1 (pn1 (eTg 1 Ax) (List.set reached_15 i_2.toNat (true,x42.2)) (po1 (po1 (po1 (po1 (Pl.z))))))))) rfl λ s hE33=>qH (qN (qs (hE33) (rz (ck 3 (ae (by cases H;exact og (gP [1,6,7,8,9] [0,1,2,3,4,5] (po1 (pn1 (eTg 1 Ax) (List.set reached_15 i_2.toNat (true,x42.2)) (po1 (po1 (po1 (po1 (Pl.z)))))))))))))))))))))))))))
 ·exact ex 0 (qx (by cases H;exact xo rfl (sg [6,8])))
theorem IG {z} (H:CY n p0_ p1_=some z):Bk Try.prog 60 [.agg (AL p0_),.d (.sl (p1_.map eU8))] [] 0 (.tup [.ptr 0 0,.d (.int .i64 z.2.2)]) [some (.box [.ptr 1 0,.d (.sl (p1_.map eU8)),.mp 2]),some (.box (Ai z.1 (.osl 3 1 0 (z.1.Accepts.length)))),some (.map true false (AH Ap eB z.2.1)),some (.arr 1 (z.1.Accepts.map eB))]:=by
 exact fL 88 0 (Jb9 p0_ p1_) Try.func60 (sr (ck 3 (en (sr (ck 1 (bx H λ r33 h130 H=>lt [] (KQ h130) (ck 6 (en (sr (ck 5 (bx H λ r34 h131 H=>lt [1,2] (H6 h131) (tb (f:=HU (Ef [1,2] 6 2)) [some (.box (AL p0_)),some (.box (Ai r33 (.osl 2 1 0 (r33.Accepts.length)))),some (.arr 1 (r33.Accepts.map eB)),some (.map true false (AH Ap eB [])),some (.box [.ptr 1 0,.d (.sl (p1_.map eU8)),.mp 3]),some (.box [.ptr 4 0]),some (.narr 1 (r34.1.map (eTg 1 Ax)))] (po1 (po1 (po1 (po1 (po1 (po1 (pn1 (eTg 1 Ax) r34.1 (Pl.z)))))))) (ck 5 (en (sq (sr (ck 1 (sp (Av eU8 p1_) (ck 1 (en (bk 0 (bx H λ y41 h138 H=>lX LV h138 (gP [1,6,7,8,9] [5,6,4,1,3,2] (po1 (pn1 (eTg 1 Ax) r34.1 (po1 (po1 (po1 (po1 (Pl.z)))))))) rfl λ s hE34=>qH (qs (hE34) (sr (ck 4 (en (re (by cases H;exact pL (rl (s':=Jca p1_ r33 y41 r34.2) (sg [4,5]))))))))))))))))))))))))))))))
end
section
variable (b0_1_:(List Int)) (b1_:An) (o2_:(List (Ae×Bool)))
def Jch:St:=⟨(0,.ptr 0 0)::[],[some (.box [.ptr 1 0,.d (.sl (b0_1_.map eU8)),.mp 2]),some (.box (Ai b1_ (.osl 3 1 0 (b1_.Accepts.length)))),some (.map true false (AH Ap eB o2_)),some (.arr 1 (b1_.Accepts.map eB))]⟩
def Jci:St:=⟨(2,.clo 74 [.ptr 4 0])::[],[some (.box [.ptr 1 0,.d (.sl (b0_1_.map eU8)),.mp 2]),some (.box (Ai b1_ (.osl 3 1 0 (b1_.Accepts.length)))),some (.map true false (AH Ap eB o2_)),some (.arr 1 (b1_.Accepts.map eB)),some (.box [.ptr 0 0])]⟩
variable {b0_1_ b1_ o2_}
theorem Ha {z} (H:Dm n b0_1_ b1_ o2_=some z):Bk Try.prog 61 [.ptr 0 0] [some (.box [.ptr 1 0,.d (.sl (b0_1_.map eU8)),.mp 2]),some (.box (Ai b1_ (.osl 3 1 0 (b1_.Accepts.length)))),some (.map true false (AH Ap eB o2_)),some (.arr 1 (b1_.Accepts.map eB))] 4 (.clo 74 [.ptr 4 0]) [some (.box [.ptr 1 0,.d (.sl (b0_1_.map eU8)),.mp 2]),some (.box (Ai b1_ (.osl 3 1 0 (b1_.Accepts.length)))),some (.map true false (AH Ap eB o2_)),some (.arr 1 (b1_.Accepts.map eB)),some (.box [.ptr 0 0])]:=by
 exact fL 4 4 (Jch b0_1_ b1_ o2_) Try.func61 (sr (ck 2 (en (sr (xm (xok _ _) (ck 1 (en (re (by cases H;exact pL (rl (s':=Jci b0_1_ b1_ o2_) (sg [2])))))))))))
end
section
variable (p0_:Ac) (o3_:(List (Ac×Bool))) (o4_:(List Ac)) (o5_:(List Ac)) (x_36:(List (Ac×Bool))) (x_37:(List Ac)) (x_38:(List Ac))
def Jcj:St:=⟨(0,.agg [.d (.int .i64 p0_.Spot.At),.d (.int .i64 p0_.Spot.State),.d (.str p0_.Rest)])::(1,.ptr 0 0)::(2,.ptr 1 0)::(3,.ptr 2 0)::[],[some (.box [.mp 3]),some (.box [.osl 4 3 0 (o4_.length)]),some (.box [.osl 5 3 0 (o5_.length)]),some (.map true false (AH Ag eB o3_)),some (.arr 3 (o4_.map Ag)),some (.arr 3 (o5_.map Ag))]⟩
def R6:St:=⟨[],[some (.box [.mp 3]),some (.box [.osl 6 3 0 (x_37.length)]),some (.box [.osl 7 3 0 (x_38.length)]),some (.map true false (AH Ag eB x_36)),none,none,some (.arr 3 (x_37.map Ag)),some (.arr 3 (x_38.map Ag))]⟩
variable {p0_ o3_ o4_ o5_ x_36 x_37 x_38}
theorem DF {z} (H:A3 n p0_ o3_ o4_ o5_=some z):Bk Try.prog 86 [.agg (JbI p0_),.ptr 0 0,.ptr 1 0,.ptr 2 0] [some (.box [.mp 3]),some (.box [.osl 4 3 0 (o4_.length)]),some (.box [.osl 5 3 0 (o5_.length)]),some (.map true false (AH Ag eB o3_)),some (.arr 3 (o4_.map Ag)),some (.arr 3 (o5_.map Ag))] 6 (.tup []) [some (.box [.mp 3]),some (.box [.osl 6 3 0 (z.2.1.length)]),some (.box [.osl 7 3 0 (z.2.2.length)]),some (.map true false (AH Ag eB z.1)),none,none,some (.arr 3 (z.2.1.map Ag)),some (.arr 3 (z.2.2.map Ag))]:=by
 refine fL 21 6 (Jcj p0_ o3_ o4_ o5_) Try.func86 (sr (ck 1 (en (sq (sr (ck 2 (sp (FY (enc:=eB) (encK:=Ag) (k:=3) (e1:=λ x=>.bool x) (m:=o3_) (l:=[.d (.int .i64 p0_.Spot.At),.d (.int .i64 p0_.Spot.State),.d (.str p0_.Rest)]) (key:=p0_) (z:=false) (vz:=[.bool false]) JbJ false) (en (cn H (λ H=>?_) (λ H=>?_))))))))))
 ·exact re (qr (by cases H;exact pL (rl (s':=R6 o3_ o4_ o5_) (tr (tr (BU (k:=4) (sz:=3) 1 0 (o4_.map Ag) (o4_.length) (by kernel_rfl) Bf leM rfl) (BU (k:=5) (sz:=3) 2 0 (o5_.map Ag) (o5_.length) (by kernel_rfl) Bf leM rfl)) (sg [])))))
 ·refine sk (qz (sr (ck 2 (sp (Ke (enc:=eB) (encK:=Ag) (k:=3) (e1:=λ x=>.bool x) (m:=o3_) (l:=[.d (.int .i64 p0_.Spot.At),.d (.int .i64 p0_.Spot.State),.d (.str p0_.Rest)]) (key:=p0_) (y:=true) (v:=.d (.bool true)) (vz:=[.bool false]) JbJ) (en (sr (ck 3 (en (cn H (λ H=>?_) (λ H=>?_))))))))))
  ·exact rz (ck 3 (bx H λ l23 h139 H=>sp (Bm Ag 4 3 h139) (ck 1 (ae (by cases H;exact pL' (rl (s':=R6 (El p0_ true o3_) l23 o5_) (tr (BU (k:=5) (sz:=3) 2 0 (o5_.map Ag) (o5_.length) (by kernel_rfl) Bf leM rfl) (sg []))))))))
  ·exact rz (ck 3 (bx H λ l24 h140 H=>sp (Bm Ag 5 3 h140) (ck 1 (ae (by cases H;exact pL' (rl (s':=R6 (El p0_ true o3_) o4_ l24) (tr (BU (k:=4) (sz:=3) 1 0 (o4_.map Ag) (o4_.length) (by kernel_rfl) Bf leM rfl) (sg []))))))))
end
noncomputable def Jck (p1_:(List UInt8)) (p2_:Ae) (b3_1_:(List Int)) (b7_:An) (o8_:(List (Ae×Bool))) (o9_:(List (Ac×Bool))) (o10_:(List Ac)) (o11_:(List Ac)):St:=⟨(77,.agg [.d (.int .i64 p2_.At),.d (.int .i64 p2_.State)])::(76,.d (.str p1_))::(2,.ptr 1 0)::(9,.ptr 2 0)::[],[some (.lp Al [2,9] [.ptr 1 0,.ptr 2 0] 0),some (.box [.ptr 3 0]),some (.box [.clo 86 [.ptr 4 0,.ptr 5 0,.ptr 6 0]]),some (.box [.ptr 7 0,.d (.sl (b3_1_.map eU8)),.mp 8]),some (.box [.mp 9]),some (.box [.osl 10 3 0 (o10_.length)]),some (.box [.osl 11 3 0 (o11_.length)]),some (.box (Ai b7_ (.osl 12 1 0 (b7_.Accepts.length)))),some (.map true false (AH Ap eB o8_)),some (.map true false (AH Ag eB o9_)),some (.arr 3 (o10_.map Ag)),some (.arr 3 (o11_.map Ag)),some (.arr 1 (b7_.Accepts.map eB))]⟩
noncomputable def Wn (b3_1_:(List Int)) (b7_:An) (o8_:(List (Ae×Bool))) (x_39:(List (Ac×Bool))) (x_40:(List Ac)) (x_41:(List Ac)):St:=⟨[],[some (.lp Al [2,9] [.ptr 1 0,.ptr 2 0] 1),some (.box [.ptr 3 0]),some (.box [.clo 86 [.ptr 4 0,.ptr 5 0,.ptr 6 0]]),some (.box [.ptr 7 0,.d (.sl (b3_1_.map eU8)),.mp 8]),some (.box [.mp 9]),some (.box [.osl 13 3 0 (x_40.length)]),some (.box [.osl 14 3 0 (x_41.length)]),some (.box (Ai b7_ (.osl 15 1 0 (b7_.Accepts.length)))),some (.map true false (AH Ap eB o8_)),some (.map true false (AH Ag eB x_39)),none,none,none,some (.arr 3 (x_40.map Ag)),some (.arr 3 (x_41.map Ag)),some (.arr 1 (b7_.Accepts.map eB))]⟩
section
variable (p1_:(List UInt8)) (p2_:Ae) (b3_1_:(List Int)) (b7_:An) (o8_:(List (Ae×Bool))) (o9_:(List (Ac×Bool))) (o10_:(List Ac)) (o11_:(List Ac))
variable {p1_ p2_ b3_1_ b7_ o8_ o9_ o10_ o11_}
theorem Jw {z} (H:B0 n p1_ p2_ b3_1_ b7_ o8_ o9_ o10_ o11_=some z):PR Try.prog [.d (.str p1_),.agg [.d (.int .i64 p2_.At),.d (.int .i64 p2_.State)]] [some (.lp Al [2,9] [.ptr 1 0,.ptr 2 0] 0),some (.box [.ptr 3 0]),some (.box [.clo 86 [.ptr 4 0,.ptr 5 0,.ptr 6 0]]),some (.box [.ptr 7 0,.d (.sl (b3_1_.map eU8)),.mp 8]),some (.box [.mp 9]),some (.box [.osl 10 3 0 (o10_.length)]),some (.box [.osl 11 3 0 (o11_.length)]),some (.box (Ai b7_ (.osl 12 1 0 (b7_.Accepts.length)))),some (.map true false (AH Ap eB o8_)),some (.map true false (AH Ag eB o9_)),some (.arr 3 (o10_.map Ag)),some (.arr 3 (o11_.map Ag)),some (.arr 1 (b7_.Accepts.map eB))] 13 0 [some (.lp Al [2,9] [.ptr 1 0,.ptr 2 0] 0),some (.box [.ptr 3 0]),some (.box [.clo 86 [.ptr 4 0,.ptr 5 0,.ptr 6 0]]),some (.box [.ptr 7 0,.d (.sl (b3_1_.map eU8)),.mp 8]),some (.box [.mp 9]),some (.box [.osl 13 3 0 (z.2.1.length)]),some (.box [.osl 14 3 0 (z.2.2.length)]),some (.box (Ai b7_ (.osl 15 1 0 (b7_.Accepts.length)))),some (.map true false (AH Ap eB o8_)),some (.map true false (AH Ag eB z.1)),none,none,none,some (.arr 3 (z.2.1.map Ag)),some (.arr 3 (z.2.2.map Ag)),some (.arr 1 (b7_.Accepts.map eB))]:=by
 refine fk (C:=AC Try.f75) (p:=[1,1,1,1,1,1,0,0,0,1,0,1,1,1,1,0]) 92 [76,77] [] (ts:=[2,9]) (vs:=[.ptr 1 0,.ptr 2 0]) (Jck p1_ p2_ b3_1_ b7_ o8_ o9_ o10_ o11_) follows (YE 92 13) (sr (ck 1 (en (rz (ck 2 (ae (aq (js:=[]) (bk 5 (sr (ck 5 (sp (FY (enc:=eB) (encK:=Ap) (k:=8) (e1:=λ x=>.bool x) (m:=o8_) (l:=[.d (.int .i64 p2_.At),.d (.int .i64 p2_.State)]) (key:=p2_) (z:=false) (vz:=[.bool false]) LF false) (en (cn H (λ H=>?_) (λ H=>?_))))))))))))))
 ·exact rz (ck 4 (bx H λ r37 h141 H=>xc (Jkn _ _) [4,5,6,9,10,11] (DF h141) (ae (qN (by cases H;exact rq (s':=Wn b3_1_ b7_ o8_ r37.1 r37.2.1 r37.2.2) (tr (BU (k:=12) (sz:=1) 7 1 (b7_.Accepts.map eB) (b7_.Accepts.length) (by kernel_rfl) Bf leM rfl) (sg [])))))))
 ·exact sk (qN (by cases H;exact rq (s':=Wn b3_1_ b7_ o8_ o9_ o10_ o11_) (tr (tr (tr (BU (k:=10) (sz:=3) 5 0 (o10_.map Ag) (o10_.length) (by kernel_rfl) Bf leM rfl) (BU (k:=11) (sz:=3) 6 0 (o11_.map Ag) (o11_.length) (by kernel_rfl) Bf leM rfl)) (BU (k:=12) (sz:=1) 7 1 (b7_.Accepts.map eB) (b7_.Accepts.length) (by kernel_rfl) Bf leM rfl)) (sg []))))
end
section
variable (b2_:Ae) (b5_1_:(List Int)) (b9_:An) (o10_:(List (Ae×Bool))) (o11_:(List (Ac×Bool))) (o12_:(List Ac)) (o13_:(List Ac)) (x_42:(List (Ac×Bool))) (x_43:(List Ac)) (x_44:(List Ac)) (x45:(List K7)) (x_45:(List (Ac×Bool))) (x_46:(List Ac)) (x_47:(List Ac)) (x_48:Int) (x_49:(List (Ac×Bool))) (x_50:(List Ac)) (x_51:(List Ac)) (x_52:(List (Ac×Bool))) (x_53:(List Ac)) (x_54:(List Ac))
noncomputable def Jcl:St:=⟨(0,.yld 0)::(1,.ptr 1 0)::(2,.ptr 2 0)::[],[some (.lp Al [2,9] [.ptr 3 0,.ptr 4 0] 0),some (.box [.ptr 5 0]),some (.box [.d (.int .i64 b2_.At),.d (.int .i64 b2_.State)]),some (.box [.ptr 5 0]),some (.box [.clo 86 [.ptr 6 0,.ptr 7 0,.ptr 8 0]]),some (.box [.ptr 9 0,.d (.sl (b5_1_.map eU8)),.mp 10]),some (.box [.mp 11]),some (.box [.osl 12 3 0 (o12_.length)]),some (.box [.osl 13 3 0 (o13_.length)]),some (.box (Ai b9_ (.osl 14 1 0 (b9_.Accepts.length)))),some (.map true false (AH Ap eB o10_)),some (.map true false (AH Ag eB o11_)),some (.arr 3 (o12_.map Ag)),some (.arr 3 (o13_.map Ag)),some (.arr 1 (b9_.Accepts.map eB))]⟩
noncomputable def R7:St:=⟨[],[some (.lp Al [2,9] [.ptr 3 0,.ptr 4 0] 0),some (.box [.ptr 5 0]),some (.box [.d (.int .i64 b2_.At),.d (.int .i64 b2_.State)]),some (.box [.ptr 5 0]),some (.box [.clo 86 [.ptr 6 0,.ptr 7 0,.ptr 8 0]]),some (.box [.ptr 9 0,.d (.sl (b5_1_.map eU8)),.mp 10]),some (.box [.mp 11]),some (.box [.osl 15 3 0 (x_43.length)]),some (.box [.osl 16 3 0 (x_44.length)]),some (.box (Ai b9_ (.osl 17 1 0 (b9_.Accepts.length)))),some (.map true false (AH Ap eB o10_)),some (.map true false (AH Ag eB x_42)),none,none,none,some (.arr 3 (x_43.map Ag)),some (.arr 3 (x_44.map Ag)),some (.arr 1 (b9_.Accepts.map eB))]⟩
noncomputable def Jcm:St:=⟨(0,.yld 0)::(1,.ptr 1 0)::(2,.ptr 2 0)::(16,.d (.sl (x45.map BT)))::(17,.d (.int .i64 ((x45.length:Nat):Int)))::(18,.d (.int .i64 x_48))::[],[some (.lp Al [2,9] [.ptr 3 0,.ptr 4 0] 0),some (.box [.ptr 5 0]),some (.box [.d (.int .i64 b2_.At),.d (.int .i64 b2_.State)]),some (.box [.ptr 5 0]),some (.box [.clo 86 [.ptr 6 0,.ptr 7 0,.ptr 8 0]]),some (.box [.ptr 9 0,.d (.sl (b5_1_.map eU8)),.mp 10]),some (.box [.mp 11]),some (.box [.osl 15 3 0 (x_46.length)]),some (.box [.osl 16 3 0 (x_47.length)]),some (.box (Ai b9_ (.osl 17 1 0 (b9_.Accepts.length)))),some (.map true false (AH Ap eB o10_)),some (.map true false (AH Ag eB x_45)),none,none,none,some (.arr 3 (x_46.map Ag)),some (.arr 3 (x_47.map Ag)),some (.arr 1 (b9_.Accepts.map eB))]⟩
noncomputable def Jcn:St:=⟨[],[some (.lp Al [2,9] [.ptr 3 0,.ptr 4 0] 0),some (.box [.ptr 5 0]),some (.box [.d (.int .i64 b2_.At),.d (.int .i64 b2_.State)]),some (.box [.ptr 5 0]),some (.box [.clo 86 [.ptr 6 0,.ptr 7 0,.ptr 8 0]]),some (.box [.ptr 9 0,.d (.sl (b5_1_.map eU8)),.mp 10]),some (.box [.mp 11]),some (.box [.osl 15 3 0 (x_50.length)]),some (.box [.osl 16 3 0 (x_51.length)]),some (.box (Ai b9_ (.osl 17 1 0 (b9_.Accepts.length)))),some (.map true false (AH Ap eB o10_)),some (.map true false (AH Ag eB x_49)),none,none,none,some (.arr 3 (x_50.map Ag)),some (.arr 3 (x_51.map Ag)),some (.arr 1 (b9_.Accepts.map eB))]⟩
noncomputable def Jco:St:=⟨(0,.yld 0)::(1,.ptr 1 0)::(2,.ptr 2 0)::(16,.d (.sl (x45.map BT)))::(17,.d (.int .i64 ((x45.length:Nat):Int)))::(18,.d (.int .i64 x_48))::[],[some (.lp Al [2,9] [.ptr 3 0,.ptr 4 0] 0),some (.box [.ptr 5 0]),some (.box [.d (.int .i64 b2_.At),.d (.int .i64 b2_.State)]),some (.box [.ptr 5 0]),some (.box [.clo 86 [.ptr 6 0,.ptr 7 0,.ptr 8 0]]),some (.box [.ptr 9 0,.d (.sl (b5_1_.map eU8)),.mp 10]),some (.box [.mp 11]),some (.box [.osl 15 3 0 (x_53.length)]),some (.box [.osl 16 3 0 (x_54.length)]),some (.box (Ai b9_ (.osl 17 1 0 (b9_.Accepts.length)))),some (.map true false (AH Ap eB o10_)),some (.map true false (AH Ag eB x_52)),none,none,none,some (.arr 3 (x_53.map Ag)),some (.arr 3 (x_54.map Ag)),some (.arr 1 (b9_.Accepts.map eB))]⟩
noncomputable def IY:(((List (Ac×Bool))×(List Ac)×(List Ac))⊕((List (Ac×Bool))×(List Ac)×(List Ac)))->Ex->St->Prop:=xS (xX 15 0 (λ (y:((List (Ac×Bool))×(List Ac)×(List Ac)))=>Jcn b2_ b5_1_ b9_ o10_ y.1 y.2.1 y.2.2)) (xL 15 ty Try.f85 (λ (y:((List (Ac×Bool))×(List Ac)×(List Ac)))=>.tup []) (λ (y:((List (Ac×Bool))×(List Ac)×(List Ac)))=>[some (.lp Al [2,9] [.ptr 3 0,.ptr 4 0] 0),some (.box [.ptr 5 0]),some (.box [.d (.int .i64 b2_.At),.d (.int .i64 b2_.State)]),some (.box [.ptr 5 0]),some (.box [.clo 86 [.ptr 6 0,.ptr 7 0,.ptr 8 0]]),some (.box [.ptr 9 0,.d (.sl (b5_1_.map eU8)),.mp 10]),some (.box [.mp 11]),some (.box [.osl 15 3 0 (y.2.1.length)]),some (.box [.osl 16 3 0 (y.2.2.length)]),some (.box (Ai b9_ (.osl 17 1 0 (b9_.Accepts.length)))),some (.map true false (AH Ap eB o10_)),some (.map true false (AH Ag eB y.1)),none,none,none,some (.arr 3 (y.2.1.map Ag)),some (.arr 3 (y.2.2.map Ag)),some (.arr 1 (b9_.Accepts.map eB))]))
noncomputable def Fe:((List (Ac×Bool))×(List Ac)×(List Ac)×Int)->St:=(λ (x:((List (Ac×Bool))×(List Ac)×(List Ac)×Int))=>Jcm b2_ b5_1_ b9_ o10_ x45 x.1 x.2.1 x.2.2.1 x.2.2.2)
variable {b2_ b5_1_ b9_ o10_ o11_ o12_ o13_ x_42 x_43 x_44 x45 x_45 x_46 x_47 x_48 x_49 x_50 x_51 x_52 x_53 x_54}
theorem EV (x:((List (Ac×Bool))×(List Ac)×(List Ac)×Int)) (z:(((List (Ac×Bool))×(List Ac)×(List Ac)×Int)⊕(((List (Ac×Bool))×(List Ac)×(List Ac))⊕((List (Ac×Bool))×(List Ac)×(List Ac))))) (H:Bn n b2_ b5_1_ b9_ o10_ x45 x.1 x.2.1 x.2.2.1 x.2.2.2=some z):WP (cxk 53 15) (AC Try.f85) [1,0,0] (AJ 15 (Fe b2_ b5_1_ b9_ o10_ x45) (IY b2_ b5_1_ b9_ o10_) z) (Fe b2_ b5_1_ b9_ o10_ x45 x):=by
 obtain ⟨x_45,x_46,x_47,x_48⟩:=x
 refine sr (ck 1 (en (sq (cn H (λ H=>?_) (λ H=>?_)))))
 ·refine sk (qz (sj (λ (x:((List (Ac×Bool))×(List Ac)×(List Ac)))=>Jco b2_ b5_1_ b9_ o10_ x45 x_48 x.1 x.2.1 x.2.2) (λ (x:((List (Ac×Bool))×(List Ac)×(List Ac)))=>BF n x_48 x.1 x.2.1 x.2.2) z ?_ (λ hFRb_reading_fits_1x_J1=>?_)))
  ·rintro ⟨x_52,x_53,x_54⟩ H
   exact rz (ck 2 (ae (by cases H;exact og (sg [0,1,2,16,17,18]))))
  refine bk 1 (sr (bx H λ x46 h143 H=>sp (AA BT h143) (ck 3 (en (sq (rx 9 27 (.refl _) (ck 8 (bx H λ l25 h144 H=>sp (MA eU8 1 h144) (bx H λ r38 h145 H=>xs (xok _ _) (g:=true) rfl (Ed) [] ((IX h145).lent rfl) rfl (ck 2 (sp (Av eU8 x46.Cells) (ck 4 (gc 1 (r38==((x46.Cells.length:Nat):Int)) (ck 1 (gc 1 (r38==((x46.Cells.length:Nat):Int)) (ck 1 (gc 1 (r38==((x46.Cells.length:Nat):Int)) (sE (g:=(r38==((x46.Cells.length:Nat):Int))) (λ hg=>Av eU8 x46.Cells) (gc 1 (r38==((x46.Cells.length:Nat):Int)) (ck 1 (gc 2 (r38==((x46.Cells.length:Nat):Int)) (mx (gsp (r38==((x46.Cells.length:Nat):Int)) H (λ hg H=>?_) (λ hg H=>?_))))))))))))))))))))))))
  ·refine bx H λ r39 h146 H=>xy (xok _ _) hg (Cd (λ hh=>hh) (Cd (λ hh=>hh) (Cd (λ hh=>hh) (Ed)))) [0,3,4,5,6,7,8,9,10,11,15,16,17] (Jw h146) rfl (nx 30 29 (gc 1 (r38==((x46.Cells.length:Nat):Int)) (mx (pA (nz (qz (cn H (λ H=>?_) (λ H=>?_))))))))
   ·exact re (qR (qr (by cases H;exact lo rfl (rl (s':=R7 b2_ b5_1_ b9_ o10_ r39.1 r39.2.1 r39.2.2) (sg [])))))
   ·exact sk (qN (qs (sg [0,1,2,16,17,18]) (hFRb_reading_fits_1x_J1 (r39.1,r39.2.1,r39.2.2) H)))
  ·refine gsk hg (.d (.bool false)) (nx 30 29 (gc 1 (r38==((x46.Cells.length:Nat):Int)) (mx (pA (nz (qz (cn H (λ H=>?_) (λ H=>?_))))))))
   ·exact re (qR (qr (by cases H;exact lo rfl (rl (s':=R7 b2_ b5_1_ b9_ o10_ x_45 x_46 x_47) (sg [])))))
   ·exact sk (qN (qs (sg [0,1,2,16,17,18]) (hFRb_reading_fits_1x_J1 (x_45,x_46,x_47) H)))
 ·exact ex 0 (qx (by cases H;exact xo rfl (sg [])))
theorem F7 {z} (H:BN n b2_ b5_1_ b9_ o10_ o11_ o12_ o13_=some z):Bk Try.prog 85 [.yld 0,.ptr 1 0,.ptr 2 0] [some (.lp Al [2,9] [.ptr 3 0,.ptr 4 0] 0),some (.box [.ptr 5 0]),some (.box [.d (.int .i64 b2_.At),.d (.int .i64 b2_.State)]),some (.box [.ptr 5 0]),some (.box [.clo 86 [.ptr 6 0,.ptr 7 0,.ptr 8 0]]),some (.box [.ptr 9 0,.d (.sl (b5_1_.map eU8)),.mp 10]),some (.box [.mp 11]),some (.box [.osl 12 3 0 (o12_.length)]),some (.box [.osl 13 3 0 (o13_.length)]),some (.box (Ai b9_ (.osl 14 1 0 (b9_.Accepts.length)))),some (.map true false (AH Ap eB o10_)),some (.map true false (AH Ag eB o11_)),some (.arr 3 (o12_.map Ag)),some (.arr 3 (o13_.map Ag)),some (.arr 1 (b9_.Accepts.map eB))] 15 (.tup []) [some (.lp Al [2,9] [.ptr 3 0,.ptr 4 0] 0),some (.box [.ptr 5 0]),some (.box [.d (.int .i64 b2_.At),.d (.int .i64 b2_.State)]),some (.box [.ptr 5 0]),some (.box [.clo 86 [.ptr 6 0,.ptr 7 0,.ptr 8 0]]),some (.box [.ptr 9 0,.d (.sl (b5_1_.map eU8)),.mp 10]),some (.box [.mp 11]),some (.box [.osl 15 3 0 (z.2.1.length)]),some (.box [.osl 16 3 0 (z.2.2.length)]),some (.box (Ai b9_ (.osl 17 1 0 (b9_.Accepts.length)))),some (.map true false (AH Ap eB o10_)),some (.map true false (AH Ag eB z.1)),none,none,none,some (.arr 3 (z.2.1.map Ag)),some (.arr 3 (z.2.2.map Ag)),some (.arr 1 (b9_.Accepts.map eB))]:=by
 refine fL 53 15 (Jcl b2_ b5_1_ b9_ o10_ o11_ o12_ o13_) Try.func85 (sr (ck 9 (bx H λ x45 h142 H=>sp (AA (eL BT) h142) (ck 1 (sp (Av BT x45) (ck 1 (en (bk 0 (bx H λ y42 h147 H=>?_)))))))))
 rcases y42 with y43|y44
 ·exact lX EV h147 (tr (tr (tr (BU (k:=12) (sz:=3) 7 0 (o12_.map Ag) (o12_.length) (by kernel_rfl) Bf leM rfl) (BU (k:=13) (sz:=3) 8 0 (o13_.map Ag) (o13_.length) (by kernel_rfl) Bf leM rfl)) (BU (k:=14) (sz:=1) 9 1 (b9_.Accepts.map eB) (b9_.Accepts.length) (by kernel_rfl) Bf leM rfl)) (sg [0,1,2,16,17,18])) rfl λ s hE35=>qH (by cases H;exact pL' (rl (s':=R7 b2_ b5_1_ b9_ o10_ y43.1 y43.2.1 y43.2.2) (tr (hE35) (sg []))))
 ·exact lL EV h147 (tr (tr (tr (BU (k:=12) (sz:=3) 7 0 (o12_.map Ag) (o12_.length) (by kernel_rfl) Bf leM rfl) (BU (k:=13) (sz:=3) 8 0 (o13_.map Ag) (o13_.length) (by kernel_rfl) Bf leM rfl)) (BU (k:=14) (sz:=1) 9 1 (b9_.Accepts.map eB) (b9_.Accepts.length) (by kernel_rfl) Bf leM rfl)) (sg [0,1,2,16,17,18])) rfl λ s hE36=>qR (by cases H;exact pL hE36)
end
section
variable (o0_:(List Ac)) (x_55:(List Ac))
def Jcp:St:=⟨(0,.osl 0 3 0 (o0_.length))::[],[some (.arr 3 (o0_.map Ag))]⟩
def Jcq:St:=⟨(2,.osl 1 3 0 (x_55.length))::[],[none,some (.arr 3 (x_55.map Ag))]⟩
variable {o0_ x_55}
theorem PU {z} (H:Jr n o0_=some z):Bk Try.prog 87 [.osl 0 3 0 (o0_.length)] [some (.arr 3 (o0_.map Ag))] 1 (.osl 1 3 0 (z.length)) [none,some (.arr 3 (z.map Ag))]:=by
 exact fL 9 1 (Jcp o0_) Try.func87 (sr (ck 1 (en (sr (ck 5 (bx H λ l26 h148 H=>sp (JeN 0 3 h148) (ck 1 (en (re (by cases H;exact pL (rl (s':=Jcq z) (tr (Np (k:=0) (sz:=3) 2 (z.map Ag) (z.length) (by kernel_rfl) (GL h148) (IT (enc:=Ag) h148) (GN h148)) (sg [2])))))))))))))
end
section
variable (p1_:(List Ac)) (b0_1_:(List Int)) (b1_:An) (o2_:(List (Ae×Bool))) (x_56:(List Ac)) (x_57:Bool) (open_8:(List Ac)) (found_1:(List Ac)) (add_13:(List (Ac×Bool))) (x_58:Int) (open_9:(List Ac)) (found_2:(List Ac)) (add_14:(List (Ac×Bool))) (open_10:(List Ac)) (found_3:(List Ac)) (add_15:(List (Ac×Bool))) (open_11:(List Ac)) (found_4:(List Ac)) (add_16:(List (Ac×Bool))) (ends_1:Bool) (found_5:(List Ac)) (ends_2:Bool) (x48:Ac) (l27:(List Ac)) (ends_3:Bool)
def Jcr:St:=⟨(0,.ptr 0 0)::(1,.d (.sl (p1_.map Ag)))::[],[some (.box [.ptr 1 0,.d (.sl (b0_1_.map eU8)),.mp 2]),some (.box (Ai b1_ (.osl 3 1 0 (b1_.Accepts.length)))),some (.map true false (AH Ap eB o2_)),some (.arr 1 (b1_.Accepts.map eB))]⟩
def Jcs:St:=⟨(4,.d (.sl (x_56.map Ag)))::(5,.d (.bool x_57))::[],[some (.box [.ptr 1 0,.d (.sl (b0_1_.map eU8)),.mp 2]),some (.box (Ai b1_ (.osl 4 1 0 (b1_.Accepts.length)))),some (.map true false (AH Ap eB o2_)),none,some (.arr 1 (b1_.Accepts.map eB))]⟩
def Jct:St:=⟨(2,.ptr 4 0)::(7,.ptr 5 0)::(8,.ptr 6 0)::(9,.ptr 7 0)::(10,.d (.bool false))::(18,.d (.sl (p1_.map Ag)))::(19,.d (.int .i64 ((p1_.length:Nat):Int)))::(20,.d (.int .i64 x_58))::[],[some (.box [.ptr 1 0,.d (.sl (b0_1_.map eU8)),.mp 2]),some (.box (Ai b1_ (.osl 3 1 0 (b1_.Accepts.length)))),some (.map true false (AH Ap eB o2_)),some (.arr 1 (b1_.Accepts.map eB)),some (.box [.ptr 0 0]),some (.box [.osl 8 3 0 (open_8.length)]),some (.box [.osl 9 3 0 (found_1.length)]),some (.box [.clo 86 [.ptr 10 0,.ptr 5 0,.ptr 6 0]]),some (.arr 3 (open_8.map Ag)),some (.arr 3 (found_1.map Ag)),some (.box [.mp 11]),some (.map true false (AH Ag eB add_13))]⟩
def Jcu:St:=⟨(2,.ptr 4 0)::(7,.ptr 5 0)::(8,.ptr 6 0)::(9,.ptr 7 0)::(10,.d (.bool false))::[],[some (.box [.ptr 1 0,.d (.sl (b0_1_.map eU8)),.mp 2]),some (.box (Ai b1_ (.osl 3 1 0 (b1_.Accepts.length)))),some (.map true false (AH Ap eB o2_)),some (.arr 1 (b1_.Accepts.map eB)),some (.box [.ptr 0 0]),some (.box [.osl 8 3 0 (open_9.length)]),some (.box [.osl 9 3 0 (found_2.length)]),some (.box [.clo 86 [.ptr 10 0,.ptr 5 0,.ptr 6 0]]),some (.arr 3 (open_9.map Ag)),some (.arr 3 (found_2.map Ag)),some (.box [.mp 11]),some (.map true false (AH Ag eB add_14))]⟩
def Jcv:St:=⟨(2,.ptr 4 0)::(7,.ptr 5 0)::(8,.ptr 6 0)::(9,.ptr 7 0)::(10,.d (.bool false))::(18,.d (.sl (p1_.map Ag)))::(19,.d (.int .i64 ((p1_.length:Nat):Int)))::(20,.d (.int .i64 x_58))::[],[some (.box [.ptr 1 0,.d (.sl (b0_1_.map eU8)),.mp 2]),some (.box (Ai b1_ (.osl 3 1 0 (b1_.Accepts.length)))),some (.map true false (AH Ap eB o2_)),some (.arr 1 (b1_.Accepts.map eB)),some (.box [.ptr 0 0]),some (.box [.osl 8 3 0 (open_10.length)]),some (.box [.osl 9 3 0 (found_3.length)]),some (.box [.clo 86 [.ptr 10 0,.ptr 5 0,.ptr 6 0]]),some (.arr 3 (open_10.map Ag)),some (.arr 3 (found_3.map Ag)),some (.box [.mp 11]),some (.map true false (AH Ag eB add_15))]⟩
def Jx:((List Ac)×(List Ac)×(List (Ac×Bool)))->Ex->St->Prop:=xX 4 0 (λ (y:((List Ac)×(List Ac)×(List (Ac×Bool))))=>Jcu b0_1_ b1_ o2_ y.1 y.2.1 y.2.2)
def FN:((List Ac)×(List Ac)×(List (Ac×Bool))×Int)->St:=(λ (x:((List Ac)×(List Ac)×(List (Ac×Bool))×Int))=>Jct p1_ b0_1_ b1_ o2_ x.1 x.2.1 x.2.2.1 x.2.2.2)
def Jcw:St:=⟨(2,.ptr 4 0)::(7,.ptr 5 0)::(8,.ptr 6 0)::(9,.ptr 7 0)::(10,.d (.bool ends_1))::[],[some (.box [.ptr 1 0,.d (.sl (b0_1_.map eU8)),.mp 2]),some (.box (Ai b1_ (.osl 8 1 0 (b1_.Accepts.length)))),some (.map true false (AH Ap eB o2_)),none,some (.box [.ptr 0 0]),some (.box [.osl 9 3 0 (open_11.length)]),some (.box [.osl 10 3 0 (found_4.length)]),some (.box [.clo 86 [.ptr 11 0,.ptr 5 0,.ptr 6 0]]),some (.arr 1 (b1_.Accepts.map eB)),some (.arr 3 (open_11.map Ag)),some (.arr 3 (found_4.map Ag)),some (.box [.mp 12]),some (.map true false (AH Ag eB add_16))]⟩
def Jcx:St:=⟨(8,.ptr 4 0)::(10,.d (.bool ends_2))::[],[some (.box [.ptr 1 0,.d (.sl (b0_1_.map eU8)),.mp 2]),some (.box (Ai b1_ (.osl 5 1 0 (b1_.Accepts.length)))),some (.map true false (AH Ap eB o2_)),none,some (.box [.osl 6 3 0 (found_5.length)]),some (.arr 1 (b1_.Accepts.map eB)),some (.arr 3 (found_5.map Ag))]⟩
def Jcy:St:=⟨(2,.ptr 4 0)::(7,.ptr 5 0)::(8,.ptr 6 0)::(9,.ptr 7 0)::(10,.d (.bool ends_3))::(13,.ptr 8 0)::[],[some (.box [.ptr 1 0,.d (.sl (b0_1_.map eU8)),.mp 2]),some (.box (Ai b1_ (.osl 9 1 0 (b1_.Accepts.length)))),some (.map true false (AH Ap eB o2_)),none,some (.box [.ptr 0 0]),some (.box [.osl 10 3 0 (l27.length)]),some (.box [.osl 11 3 0 (found_4.length)]),some (.box [.clo 86 [.ptr 12 0,.ptr 5 0,.ptr 6 0]]),some (.box (JbI x48)),some (.arr 1 (b1_.Accepts.map eB)),some (.arr 3 (l27.map Ag)),some (.arr 3 (found_4.map Ag)),some (.box [.mp 13]),some (.map true false (AH Ag eB add_16))]⟩
def Jy:((List Ac)×Bool)->Ex->St->Prop:=xX 4 2 (λ (y:((List Ac)×Bool))=>Jcx b0_1_ b1_ o2_ y.1 y.2)
def FO:((List Ac)×(List Ac)×(List (Ac×Bool))×Bool)->St:=(λ (x:((List Ac)×(List Ac)×(List (Ac×Bool))×Bool))=>Jcw b0_1_ b1_ o2_ x.1 x.2.1 x.2.2.1 x.2.2.2)
variable {p1_ b0_1_ b1_ o2_ x_56 x_57 open_8 found_1 add_13 x_58 open_9 found_2 add_14 open_10 found_3 add_15 open_11 found_4 add_16 ends_1 found_5 ends_2 x48 l27 ends_3}
theorem IZ (x:((List Ac)×(List Ac)×(List (Ac×Bool))×Int)) (z:(((List Ac)×(List Ac)×(List (Ac×Bool))×Int)⊕((List Ac)×(List Ac)×(List (Ac×Bool))))) (H:C2 n p1_ b0_1_ b1_ o2_ x.1 x.2.1 x.2.2.1 x.2.2.2=some z):WP (cxk 92 4) (AC Try.f75) [1,1,1,1,1,0,1,0,0] (AJ 4 (FN p1_ b0_1_ b1_ o2_) (Jx b0_1_ b1_ o2_) z) (FN p1_ b0_1_ b1_ o2_ x):=by
 obtain ⟨open_8,found_1,add_13,x_58⟩:=x
 refine sr (ck 1 (en (sq (cn H (λ H=>?_) (λ H=>?_)))))
 ·refine sk (qz (sj (λ (x:((List Ac)×(List Ac)×(List (Ac×Bool))))=>Jcv p1_ b0_1_ b1_ o2_ x_58 x.1 x.2.1 x.2.2) (λ (x:((List Ac)×(List Ac)×(List (Ac×Bool))))=>Cl n x_58 x.1 x.2.1 x.2.2) z ?_ (λ hFRb_reading_spread_J1=>?_)))
  ·rintro ⟨open_10,found_3,add_15⟩ H
   exact rz (ck 2 (ae (by cases H;exact og (sg [2,7,8,9,10,18,19,20]))))
  refine bk 1 (sr (bx H λ x47 h149 H=>sp (AA Ag h149) (ck 3 (en (sr (ck 6 (sp (FY (enc:=eB) (encK:=Ap) (k:=2) (e1:=λ x=>.bool x) (m:=o2_) (l:=[.d (.int .i64 x47.Spot.At),.d (.int .i64 x47.Spot.State)]) (key:=x47.Spot) (z:=false) (vz:=[.bool false]) LF false) (en (cn H (λ H=>?_) (λ H=>?_))))))))))
  ·exact rz (ck 2 (bx H λ r40 h150 H=>xc (xok _ _) [10,5,6,11,8,9] (DF h150) (ae (qN (qs (sg [2,7,8,9,10,18,19,20]) (hFRb_reading_spread_J1 (r40.2.1,r40.2.2,r40.1) H))))))
  ·exact sk (qN (qs (sg [2,7,8,9,10,18,19,20]) (hFRb_reading_spread_J1 (open_8,found_1,add_13) H)))
 ·exact ex 0 (qx (by cases H;exact xo rfl (sg [2,7,8,9,10])))
theorem I0 (x:((List Ac)×(List Ac)×(List (Ac×Bool))×Bool)) (z:(((List Ac)×(List Ac)×(List (Ac×Bool))×Bool)⊕((List Ac)×Bool))) (H:C3 n b0_1_ b1_ o2_ x.1 x.2.1 x.2.2.1 x.2.2.2=some z):WP (cxk 92 4) (AC Try.f75) [1,1,1,1,1,1,0,0,0] (AJ 4 (FO b0_1_ b1_ o2_) (Jy b0_1_ b1_ o2_) z) (FO b0_1_ b1_ o2_ x):=by
 obtain ⟨open_11,found_4,add_16,ends_1⟩:=x
 refine sq (sr (ck 3 (en (cn H (λ H=>?_) (λ H=>?_)))))
 ·refine sk (qz (bk 3 (sr (ck 4 (bx H λ x48 h152 H=>sp (Bc 9 3 h152) (sp (DD Ag 9 0 (ty 128) h152) (ck 2 (en (sr (ck 4 (bx H λ l27 h153 H=>sp (IU 9 3 h153) (ck 1 (en (sj (λ (x:Bool)=>Jcy b0_1_ b1_ o2_ found_4 add_16 x48 l27 x) (λ (x:Bool)=>Cm n b0_1_ b1_ o2_ found_4 add_16 x48 l27 x) z ?_ (λ hFRb_reading_spread_J2=>?_)))))))))))))))
  ·intro ends_3 H
   refine sr (ck 3 (bx H λ r41 h154 H=>lt [0,1,2,9] (E5 h154) (en (bk 4 (bx H λ r42 h155 H=>rf [] [2,9] [16,14,15,4,7,0,12,5,6,1,2,13,10,11,9] 0 (F7 h155) rfl (jn H (λ H=>?_) (λ H=>?_)))))))
   ·exact qN (qN (by cases H;exact og (sg [2,7,8,9,10])))
   ·cases H
  refine sq (rg (BU (k:=9) (sz:=3) 5 0 (l27.map Ag) (l27.length) (by kernel_rfl) (GL h153) (IT (enc:=Ag) h153) (GN h153)) (ck 7 (sp (Av eU8 b0_1_) (ck 3 (gc 6 (x48.Spot.At==((b0_1_.length:Nat):Int)) (ck 1 (gc 2 (x48.Spot.At==((b0_1_.length:Nat):Int)) (bx H λ x49 h156 H=>sE (λ hg=>Bc 8 1 (C6 h156 hg)) (sE (g:=(x48.Spot.At==((b0_1_.length:Nat):Int))) (λ hg=>DD eB 8 0 (ty 4) (C6 h156 hg)) (pA (en (cn H (λ H=>?_) (λ H=>?_)))))))))))))
  ·exact rz (ck 1 (ae (qs (sg [2,7,8,9,10,13]) (hFRb_reading_spread_J2 true H))))
  ·exact sk (qs (sg [2,7,8,9,10,13]) (hFRb_reading_spread_J2 ends_1 H))
 ·exact ex 2 (qx (by cases H;exact xo rfl (sg [8,10])))
theorem Gk {z} (H:BY n p1_ b0_1_ b1_ o2_=some z):Bk Try.prog 75 [.ptr 0 0,.d (.sl (p1_.map Ag))] [some (.box [.ptr 1 0,.d (.sl (b0_1_.map eU8)),.mp 2]),some (.box (Ai b1_ (.osl 3 1 0 (b1_.Accepts.length)))),some (.map true false (AH Ap eB o2_)),some (.arr 1 (b1_.Accepts.map eB))] 4 (.tup [.d (.sl (z.1.map Ag)),.d (.bool z.2)]) [some (.box [.ptr 1 0,.d (.sl (b0_1_.map eU8)),.mp 2]),some (.box (Ai b1_ (.osl 4 1 0 (b1_.Accepts.length)))),some (.map true false (AH Ap eB o2_)),none,some (.arr 1 (b1_.Accepts.map eB))]:=by
 exact fL 92 4 (Jcr p1_ b0_1_ b1_ o2_) Try.func75 (sr (ck 3 (en (sr (ck 3 (en (sr (ck 2 (en (sr (xm (xok _ _) (ck 2 (en (sr (ck 1 (en (sq (sr (ck 1 (sp (Av Ag p1_) (ck 1 (en (bk 0 (bx H λ y45 h151 H=>lX IZ h151 (tr (tr (Dh 7 0 3 (by kernel_rfl)) (Dh 8 0 3 (by kernel_rfl))) (sg [2,7,8,9,10,18,19,20])) rfl λ s hE37=>qH (qs (hE37) (sq (bk 2 (bx H λ y46 h157 H=>lX I0 h157 (tr (BU (k:=3) (sz:=1) 1 1 (b1_.Accepts.map eB) (b1_.Accepts.length) (by kernel_rfl) Bf leM rfl) (sg [2,7,8,9,10])) rfl λ s hE38=>qH (qs (hE38) (sr (ck 1 (bx H λ r43 h158 H=>lt [6] (PU h158) (ck 3 (en (re (by cases H;exact pL (rl (s':=Jcs b0_1_ b1_ o2_ r43 y46.2) (tr (fz (enc:=Ag) (xs:=r43) 4 7 3) (sg [4,5])))))))))))))))))))))))))))))))))))))))
end
noncomputable def Jcz (p1_:(List UInt8)) (b1_0_:(List Int)) (b2_0_:(List UInt8)) (b3_0_:Int) (b4_0_:Int):St:=⟨(21,.d (.str p1_))::(3,.ptr 1 0)::(4,.ptr 2 0)::(5,.ptr 3 0)::(6,.ptr 4 0)::[],[some (.lp A4 [3,4,5,6] [.ptr 1 0,.ptr 2 0,.ptr 3 0,.ptr 4 0] 0),some (.box [.d (.sl (b1_0_.map eU8))]),some (.box [.d (.str b2_0_)]),some (.box [.d (.int .i64 b3_0_)]),some (.box [.d (.int .i64 b4_0_)])]⟩
noncomputable def JcA (p1_:(List UInt8)) (b1_0_:(List Int)):St:=⟨[],[some (.lp A4 [3,4,5,6] [.ptr 1 0,.ptr 2 0,.ptr 3 0,.ptr 4 0] 1),some (.box [.d (.sl (b1_0_.map eU8))]),some (.box [.d (.str p1_)]),some (.box [.d (.int .i64 ((b1_0_.length:Nat):Int))]),some (.box [.d (.int .i64 0)])]⟩
section
variable (p1_:(List UInt8)) (b1_0_:(List Int)) (b2_0_:(List UInt8)) (b3_0_:Int) (b4_0_:Int)
variable {p1_ b1_0_ b2_0_ b3_0_ b4_0_}
theorem MY {z} (H:H2 n p1_ b1_0_ b2_0_ b3_0_ b4_0_=some z):PR Try.prog [.d (.str p1_)] [some (.lp A4 [3,4,5,6] [.ptr 1 0,.ptr 2 0,.ptr 3 0,.ptr 4 0] 0),some (.box [.d (.sl (b1_0_.map eU8))]),some (.box [.d (.str b2_0_)]),some (.box [.d (.int .i64 b3_0_)]),some (.box [.d (.int .i64 b4_0_)])] 5 2 [some (.lp A4 [3,4,5,6] [.ptr 1 0,.ptr 2 0,.ptr 3 0,.ptr 4 0] 2),some (.box [.d (.sl (b1_0_.map eU8))]),some (.box [.d (.str p1_)]),some (.box [.d (.int .i64 ((b1_0_.length:Nat):Int))]),some (.box [.d (.int .i64 0)])]:=by
 exact fk (C:=AC Try.f41) (p:=[1,1,1,0,1,0]) 27 [21] [.ret] (ts:=[3,4,5,6]) (vs:=[.ptr 1 0,.ptr 2 0,.ptr 3 0,.ptr 4 0]) (Jcz p1_ b1_0_ b2_0_ b3_0_ b4_0_) follows (YE 27 5) (rz (ck 1 (ae (aq (js:=[.ret]) (bk 1 (sr (ck 2 (sp (Av eU8 b1_0_) (ck 3 (en (re (qR (by cases H;exact rq (s':=JcA p1_ b1_0_) (sg []))))))))))))))
end
section
variable (p0_:Int) (p1_:Int) (o0_:(List AY)) (x_59:(List Ac)) (x50:AY) (l_4:(List Ac)) (x_60:Int) (l_5:(List Ac)) (l_6:(List Ac))
def JcB:St:=⟨(0,.eptr 0 2 (0+Int.toNat p0_) 0)::(1,.d (.int .u8 p1_))::[],[some (.arr 2 (o0_.map A8))]⟩
def JcC:St:=⟨(4,.osl 1 3 0 (x_59.length))::[],[some (.arr 2 (o0_.map A8)),some (.arr 3 (x_59.map Ag))]⟩
def JcD:St:=⟨(1,.d (.int .u8 p1_))::(5,.osl 1 3 0 (l_4.length))::(11,.d (.sl (x50.Heads.map Ag)))::(12,.d (.int .i64 ((x50.Heads.length:Nat):Int)))::(13,.d (.int .i64 x_60))::[],[some (.arr 2 (o0_.map A8)),some (.arr 3 (l_4.map Ag))]⟩
def JcE:St:=⟨(5,.osl 1 3 0 (l_5.length))::[],[some (.arr 2 (o0_.map A8)),some (.arr 3 (l_5.map Ag))]⟩
def JcF:St:=⟨(1,.d (.int .u8 p1_))::(5,.osl 1 3 0 (l_6.length))::(11,.d (.sl (x50.Heads.map Ag)))::(12,.d (.int .i64 ((x50.Heads.length:Nat):Int)))::(13,.d (.int .i64 x_60))::[],[some (.arr 2 (o0_.map A8)),some (.arr 3 (l_6.map Ag))]⟩
def Jz:(List Ac)->Ex->St->Prop:=xX 1 0 (λ (y:(List Ac))=>JcE o0_ y)
def FP:((List Ac)×Int)->St:=(λ (x:((List Ac)×Int))=>JcD p1_ o0_ x50 x.1 x.2)
variable {p0_ p1_ o0_ x_59 x50 l_4 x_60 l_5 l_6}
theorem I1 (x:((List Ac)×Int)) (z:(((List Ac)×Int)⊕(List Ac))) (H:Bu n p1_ o0_ x50 x.1 x.2=some z):WP (cxk 33 1) (AC Try.f77) [1,1,0,1,0,0] (AJ 1 (FP p1_ o0_ x50) (Jz o0_) z) (FP p1_ o0_ x50 x):=by
 obtain ⟨l_4,x_60⟩:=x
 refine sr (ck 1 (en (sq (cn H (λ H=>?_) (λ H=>?_)))))
 ·refine sk (qz (sj (λ (x:(List Ac))=>JcF p1_ o0_ x50 x_60 x) (λ (x:(List Ac))=>Co n x_60 x) z ?_ (λ hFRb_branch_behindx_J1=>?_)))
  ·intro l_6 H
   exact rz (ck 2 (ae (by cases H;exact og (sg [1,5,11,12,13]))))
  refine bk 1 (sr (bx H λ x51 h160 H=>sp (AA Ag h160) (ck 3 (en (sr (ck 2 (bx H λ b7 h161 H=>sp (GP h161) (ck 2 (en (cn H (λ H=>?_) (λ H=>?_)))))))))))
  ·exact rz (ck 5 (bx H λ s2 h162 H=>sp (YA h162) (ck 2 (bx H λ l28 h163 H=>sp (Bm Ag 1 3 h163) (ck 1 (ae (qN (qs (sg [1,5,11,12,13]) (hFRb_branch_behindx_J1 l28 H)))))))))
  ·exact sk (qN (qs (sg [1,5,11,12,13]) (hFRb_branch_behindx_J1 l_4 H)))
 ·exact ex 0 (qx (by cases H;exact xo rfl (sg [5])))
theorem Gl {z} (H:BZ n p0_ p1_ o0_=some z):Bk Try.prog 77 [.eptr 0 2 (0+Int.toNat p0_) 0,.d (.int .u8 p1_)] [some (.arr 2 (o0_.map A8))] 1 (.osl 1 3 0 (z.length)) [some (.arr 2 (o0_.map A8)),some (.arr 3 (z.map Ag))]:=by
 exact fL 33 1 (JcB p0_ p1_ o0_) Try.func77 (sr (ck 1 (en (sr (ck 1 (en (sq (sr (ck 3 (bx H λ x50 h159 H=>sp (DD A8 0 0 (ty 124) h159) (sp (Av Ag x50.Heads) (ck 1 (en (bk 0 (bx H λ y47 h164 H=>lX I1 h164 (tr (Aw.nilo 5 3 (by kernel_rfl)) (sg [1,5,11,12,13])) rfl λ s hE39=>qH (qs (hE39) (sr (ck 2 (en (re (by cases H;exact pL (rl (s':=JcC o0_ z) (sg [4])))))))))))))))))))))))
end
section
variable (b0_1_:(List Int)) (b2_:An) (o1_:(List Ac)) (o3_:(List (Ae×Bool))) (x_61:(List Ac)) (x_62:Bool) (open_12:(List Ac)) (found_6:(List Ac)) (add_17:(List (Ac×Bool))) (x_63:Int) (open_13:(List Ac)) (found_7:(List Ac)) (add_18:(List (Ac×Bool))) (open_14:(List Ac)) (found_8:(List Ac)) (add_19:(List (Ac×Bool))) (open_15:(List Ac)) (found_9:(List Ac)) (add_20:(List (Ac×Bool))) (ends_4:Bool) (found_10:(List Ac)) (ends_5:Bool) (x53:Ac) (l29:(List Ac)) (ends_6:Bool)
def JcG:St:=⟨(0,.ptr 0 0)::(1,.osl 1 3 0 (o1_.length))::[],[some (.box [.ptr 2 0,.d (.sl (b0_1_.map eU8)),.mp 3]),some (.arr 3 (o1_.map Ag)),some (.box (Ai b2_ (.osl 4 1 0 (b2_.Accepts.length)))),some (.map true false (AH Ap eB o3_)),some (.arr 1 (b2_.Accepts.map eB))]⟩
def JcH:St:=⟨(4,.d (.sl (x_61.map Ag)))::(5,.d (.bool x_62))::[],[some (.box [.ptr 2 0,.d (.sl (b0_1_.map eU8)),.mp 3]),some (.arr 3 (o1_.map Ag)),some (.box (Ai b2_ (.osl 5 1 0 (b2_.Accepts.length)))),some (.map true false (AH Ap eB o3_)),none,some (.arr 1 (b2_.Accepts.map eB))]⟩
def JcI:St:=⟨(2,.ptr 5 0)::(7,.ptr 6 0)::(8,.ptr 7 0)::(9,.ptr 8 0)::(10,.d (.bool false))::(18,.osl 1 3 0 (o1_.length))::(19,.d (.int .i64 ((o1_.length:Nat):Int)))::(20,.d (.int .i64 x_63))::[],[some (.box [.ptr 2 0,.d (.sl (b0_1_.map eU8)),.mp 3]),some (.arr 3 (o1_.map Ag)),some (.box (Ai b2_ (.osl 4 1 0 (b2_.Accepts.length)))),some (.map true false (AH Ap eB o3_)),some (.arr 1 (b2_.Accepts.map eB)),some (.box [.ptr 0 0]),some (.box [.osl 9 3 0 (open_12.length)]),some (.box [.osl 10 3 0 (found_6.length)]),some (.box [.clo 86 [.ptr 11 0,.ptr 6 0,.ptr 7 0]]),some (.arr 3 (open_12.map Ag)),some (.arr 3 (found_6.map Ag)),some (.box [.mp 12]),some (.map true false (AH Ag eB add_17))]⟩
def JcJ:St:=⟨(2,.ptr 5 0)::(7,.ptr 6 0)::(8,.ptr 7 0)::(9,.ptr 8 0)::(10,.d (.bool false))::[],[some (.box [.ptr 2 0,.d (.sl (b0_1_.map eU8)),.mp 3]),some (.arr 3 (o1_.map Ag)),some (.box (Ai b2_ (.osl 4 1 0 (b2_.Accepts.length)))),some (.map true false (AH Ap eB o3_)),some (.arr 1 (b2_.Accepts.map eB)),some (.box [.ptr 0 0]),some (.box [.osl 9 3 0 (open_13.length)]),some (.box [.osl 10 3 0 (found_7.length)]),some (.box [.clo 86 [.ptr 11 0,.ptr 6 0,.ptr 7 0]]),some (.arr 3 (open_13.map Ag)),some (.arr 3 (found_7.map Ag)),some (.box [.mp 12]),some (.map true false (AH Ag eB add_18))]⟩
def JcK:St:=⟨(2,.ptr 5 0)::(7,.ptr 6 0)::(8,.ptr 7 0)::(9,.ptr 8 0)::(10,.d (.bool false))::(18,.osl 1 3 0 (o1_.length))::(19,.d (.int .i64 ((o1_.length:Nat):Int)))::(20,.d (.int .i64 x_63))::[],[some (.box [.ptr 2 0,.d (.sl (b0_1_.map eU8)),.mp 3]),some (.arr 3 (o1_.map Ag)),some (.box (Ai b2_ (.osl 4 1 0 (b2_.Accepts.length)))),some (.map true false (AH Ap eB o3_)),some (.arr 1 (b2_.Accepts.map eB)),some (.box [.ptr 0 0]),some (.box [.osl 9 3 0 (open_14.length)]),some (.box [.osl 10 3 0 (found_8.length)]),some (.box [.clo 86 [.ptr 11 0,.ptr 6 0,.ptr 7 0]]),some (.arr 3 (open_14.map Ag)),some (.arr 3 (found_8.map Ag)),some (.box [.mp 12]),some (.map true false (AH Ag eB add_19))]⟩
def I2:((List Ac)×(List Ac)×(List (Ac×Bool)))->Ex->St->Prop:=xX 5 0 (λ (y:((List Ac)×(List Ac)×(List (Ac×Bool))))=>JcJ b0_1_ b2_ o1_ o3_ y.1 y.2.1 y.2.2)
def Ff:((List Ac)×(List Ac)×(List (Ac×Bool))×Int)->St:=(λ (x:((List Ac)×(List Ac)×(List (Ac×Bool))×Int))=>JcI b0_1_ b2_ o1_ o3_ x.1 x.2.1 x.2.2.1 x.2.2.2)
def JcL:St:=⟨(2,.ptr 5 0)::(7,.ptr 6 0)::(8,.ptr 7 0)::(9,.ptr 8 0)::(10,.d (.bool ends_4))::[],[some (.box [.ptr 2 0,.d (.sl (b0_1_.map eU8)),.mp 3]),some (.arr 3 (o1_.map Ag)),some (.box (Ai b2_ (.osl 9 1 0 (b2_.Accepts.length)))),some (.map true false (AH Ap eB o3_)),none,some (.box [.ptr 0 0]),some (.box [.osl 10 3 0 (open_15.length)]),some (.box [.osl 11 3 0 (found_9.length)]),some (.box [.clo 86 [.ptr 12 0,.ptr 6 0,.ptr 7 0]]),some (.arr 1 (b2_.Accepts.map eB)),some (.arr 3 (open_15.map Ag)),some (.arr 3 (found_9.map Ag)),some (.box [.mp 13]),some (.map true false (AH Ag eB add_20))]⟩
def JcM:St:=⟨(8,.ptr 5 0)::(10,.d (.bool ends_5))::[],[some (.box [.ptr 2 0,.d (.sl (b0_1_.map eU8)),.mp 3]),some (.arr 3 (o1_.map Ag)),some (.box (Ai b2_ (.osl 6 1 0 (b2_.Accepts.length)))),some (.map true false (AH Ap eB o3_)),none,some (.box [.osl 7 3 0 (found_10.length)]),some (.arr 1 (b2_.Accepts.map eB)),some (.arr 3 (found_10.map Ag))]⟩
def JcN:St:=⟨(2,.ptr 5 0)::(7,.ptr 6 0)::(8,.ptr 7 0)::(9,.ptr 8 0)::(10,.d (.bool ends_6))::(13,.ptr 9 0)::[],[some (.box [.ptr 2 0,.d (.sl (b0_1_.map eU8)),.mp 3]),some (.arr 3 (o1_.map Ag)),some (.box (Ai b2_ (.osl 10 1 0 (b2_.Accepts.length)))),some (.map true false (AH Ap eB o3_)),none,some (.box [.ptr 0 0]),some (.box [.osl 11 3 0 (l29.length)]),some (.box [.osl 12 3 0 (found_9.length)]),some (.box [.clo 86 [.ptr 13 0,.ptr 6 0,.ptr 7 0]]),some (.box (JbI x53)),some (.arr 1 (b2_.Accepts.map eB)),some (.arr 3 (l29.map Ag)),some (.arr 3 (found_9.map Ag)),some (.box [.mp 14]),some (.map true false (AH Ag eB add_20))]⟩
def I3:((List Ac)×Bool)->Ex->St->Prop:=xX 5 2 (λ (y:((List Ac)×Bool))=>JcM b0_1_ b2_ o1_ o3_ y.1 y.2)
def Fg:((List Ac)×(List Ac)×(List (Ac×Bool))×Bool)->St:=(λ (x:((List Ac)×(List Ac)×(List (Ac×Bool))×Bool))=>JcL b0_1_ b2_ o1_ o3_ x.1 x.2.1 x.2.2.1 x.2.2.2)
variable {b0_1_ b2_ o1_ o3_ x_61 x_62 open_12 found_6 add_17 x_63 open_13 found_7 add_18 open_14 found_8 add_19 open_15 found_9 add_20 ends_4 found_10 ends_5 x53 l29 ends_6}
theorem Il (x:((List Ac)×(List Ac)×(List (Ac×Bool))×Int)) (z:(((List Ac)×(List Ac)×(List (Ac×Bool))×Int)⊕((List Ac)×(List Ac)×(List (Ac×Bool))))) (H:Bo n b0_1_ b2_ o1_ o3_ x.1 x.2.1 x.2.2.1 x.2.2.2=some z):WP (cxk 92 5) (AC Try.f75) [1,1,1,1,1,0,1,0,0] (AJ 5 (Ff b0_1_ b2_ o1_ o3_) (I2 b0_1_ b2_ o1_ o3_) z) (Ff b0_1_ b2_ o1_ o3_ x):=by
 obtain ⟨open_12,found_6,add_17,x_63⟩:=x
 refine sr (ck 1 (en (sq (cn H (λ H=>?_) (λ H=>?_)))))
 ·refine sk (qz (sj (λ (x:((List Ac)×(List Ac)×(List (Ac×Bool))))=>JcK b0_1_ b2_ o1_ o3_ x_63 x.1 x.2.1 x.2.2) (λ (x:((List Ac)×(List Ac)×(List (Ac×Bool))))=>BG n x_63 x.1 x.2.1 x.2.2) z ?_ (λ hFRb_reading_spreadx_J1=>?_)))
  ·rintro ⟨open_14,found_8,add_19⟩ H
   exact rz (ck 2 (ae (by cases H;exact og (sg [2,7,8,9,10,18,19,20]))))
  refine bk 1 (sr (bx H λ x52 h165 H=>sp (Bc 1 3 h165) (sp (DD Ag 1 0 (ty 128) h165) (ck 2 (en (sr (ck 6 (sp (FY (enc:=eB) (encK:=Ap) (k:=3) (e1:=λ x=>.bool x) (m:=o3_) (l:=[.d (.int .i64 x52.Spot.At),.d (.int .i64 x52.Spot.State)]) (key:=x52.Spot) (z:=false) (vz:=[.bool false]) LF false) (en (cn H (λ H=>?_) (λ H=>?_)))))))))))
  ·exact rz (ck 2 (bx H λ r44 h166 H=>xc (xok _ _) [11,6,7,12,9,10] (DF h166) (ae (qN (qs (sg [2,7,8,9,10,18,19,20]) (hFRb_reading_spreadx_J1 (r44.2.1,r44.2.2,r44.1) H))))))
  ·exact sk (qN (qs (sg [2,7,8,9,10,18,19,20]) (hFRb_reading_spreadx_J1 (open_12,found_6,add_17) H)))
 ·exact ex 0 (qx (by cases H;exact xo rfl (sg [2,7,8,9,10])))
theorem Im (x:((List Ac)×(List Ac)×(List (Ac×Bool))×Bool)) (z:(((List Ac)×(List Ac)×(List (Ac×Bool))×Bool)⊕((List Ac)×Bool))) (H:BH n b0_1_ b2_ o1_ o3_ x.1 x.2.1 x.2.2.1 x.2.2.2=some z):WP (cxk 92 5) (AC Try.f75) [1,1,1,1,1,1,0,0,0] (AJ 5 (Fg b0_1_ b2_ o1_ o3_) (I3 b0_1_ b2_ o1_ o3_) z) (Fg b0_1_ b2_ o1_ o3_ x):=by
 obtain ⟨open_15,found_9,add_20,ends_4⟩:=x
 refine sq (sr (ck 3 (en (cn H (λ H=>?_) (λ H=>?_)))))
 ·refine sk (qz (bk 3 (sr (ck 4 (bx H λ x53 h168 H=>sp (Bc 10 3 h168) (sp (DD Ag 10 0 (ty 128) h168) (ck 2 (en (sr (ck 4 (bx H λ l29 h169 H=>sp (IU 10 3 h169) (ck 1 (en (sj (λ (x:Bool)=>JcN b0_1_ b2_ o1_ o3_ found_9 add_20 x53 l29 x) (λ (x:Bool)=>Bp n b0_1_ b2_ o3_ found_9 add_20 x53 l29 x) z ?_ (λ hFRb_reading_spreadx_J2=>?_)))))))))))))))
  ·intro ends_6 H
   refine sr (ck 3 (bx H λ r45 h170 H=>lt [0,2,3,10] (E5 h170) (en (bk 4 (bx H λ r46 h171 H=>rf [] [2,9] [17,15,16,5,8,0,13,6,7,2,3,14,11,12,10] 0 (F7 h171) rfl (jn H (λ H=>?_) (λ H=>?_)))))))
   ·exact qN (qN (by cases H;exact og (sg [2,7,8,9,10])))
   ·cases H
  refine sq (rg (BU (k:=10) (sz:=3) 6 0 (l29.map Ag) (l29.length) (by kernel_rfl) (GL h169) (IT (enc:=Ag) h169) (GN h169)) (ck 7 (sp (Av eU8 b0_1_) (ck 3 (gc 6 (x53.Spot.At==((b0_1_.length:Nat):Int)) (ck 1 (gc 2 (x53.Spot.At==((b0_1_.length:Nat):Int)) (bx H λ x54 h172 H=>sE (λ hg=>Bc 9 1 (C6 h172 hg)) (sE (g:=(x53.Spot.At==((b0_1_.length:Nat):Int))) (λ hg=>DD eB 9 0 (ty 4) (C6 h172 hg)) (pA (en (cn H (λ H=>?_) (λ H=>?_)))))))))))))
  ·exact rz (ck 1 (ae (qs (sg [2,7,8,9,10,13]) (hFRb_reading_spreadx_J2 true H))))
  ·exact sk (qs (sg [2,7,8,9,10,13]) (hFRb_reading_spreadx_J2 ends_4 H))
 ·exact ex 2 (qx (by cases H;exact xo rfl (sg [8,10])))
theorem F8 {z} (H:Bd n b0_1_ b2_ o1_ o3_=some z):Bk Try.prog 75 [.ptr 0 0,.osl 1 3 0 (o1_.length)] [some (.box [.ptr 2 0,.d (.sl (b0_1_.map eU8)),.mp 3]),some (.arr 3 (o1_.map Ag)),some (.box (Ai b2_ (.osl 4 1 0 (b2_.Accepts.length)))),some (.map true false (AH Ap eB o3_)),some (.arr 1 (b2_.Accepts.map eB))] 5 (.tup [.d (.sl (z.1.map Ag)),.d (.bool z.2)]) [some (.box [.ptr 2 0,.d (.sl (b0_1_.map eU8)),.mp 3]),some (.arr 3 (o1_.map Ag)),some (.box (Ai b2_ (.osl 5 1 0 (b2_.Accepts.length)))),some (.map true false (AH Ap eB o3_)),none,some (.arr 1 (b2_.Accepts.map eB))]:=by
 exact fL 92 5 (JcG b0_1_ b2_ o1_ o3_) Try.func75 (sr (ck 3 (en (sr (ck 3 (en (sr (ck 2 (en (sr (xm (xok _ _) (ck 2 (en (sr (ck 1 (en (sq (sr (ck 3 (en (bk 0 (bx H λ y48 h167 H=>lX Il h167 (tr (tr (Dh 8 0 3 (by kernel_rfl)) (Dh 9 0 3 (by kernel_rfl))) (sg [2,7,8,9,10,18,19,20])) rfl λ s hE40=>qH (qs (hE40) (sq (bk 2 (bx H λ y49 h173 H=>lX Im h173 (tr (BU (k:=4) (sz:=1) 2 1 (b2_.Accepts.map eB) (b2_.Accepts.length) (by kernel_rfl) Bf leM rfl) (sg [2,7,8,9,10])) rfl λ s hE41=>qH (qs (hE41) (sr (ck 1 (bx H λ r47 h174 H=>lt [7] (PU h174) (ck 3 (en (re (by cases H;exact pL (rl (s':=JcH b0_1_ b2_ o1_ o3_ r47 y49.2) (tr (fz (enc:=Ag) (xs:=r47) 4 8 3) (sg [4,5])))))))))))))))))))))))))))))))))))))
end
section
variable (b2_0_:(List Int)) (b3_0_:(List UInt8)) (b4_0_:Int) (b5_0_:Int) (b6_1_:(List Int)) (b7_:An) (o8_:(List (Ae×Bool))) (j_2:Nat) (x_64:(List UInt8)) (x_65:Int) (x_66:Int) (r48:((List Ac)×Bool)) (x_67:(List UInt8)) (x_68:Int) (x_69:Int) (x_70:(List UInt8)) (x_71:Int) (x_72:Int) (text_1:(List Int)) (stack_1:(List AY)) (x_73:(List UInt8)) (x_74:Int) (x_75:Int) (l32:(List AY)) (l33:(List Int)) (r51:((List Ac)×Bool)) (x_76:(List UInt8)) (x_77:Int) (x_78:Int)
noncomputable def JcO:St:=⟨(0,.yld 0)::(1,.ptr 1 0)::[],[some (.lp A4 [3,4,5,6] [.ptr 2 0,.ptr 3 0,.ptr 4 0,.ptr 5 0] 0),some (.box [.ptr 6 0]),some (.box [.d (.sl (b2_0_.map eU8))]),some (.box [.d (.str b3_0_)]),some (.box [.d (.int .i64 b4_0_)]),some (.box [.d (.int .i64 b5_0_)]),some (.box [.ptr 7 0,.d (.sl (b6_1_.map eU8)),.mp 8]),some (.box (Ai b7_ (.osl 9 1 0 (b7_.Accepts.length)))),some (.map true false (AH Ap eB o8_)),some (.arr 1 (b7_.Accepts.map eB))]⟩
noncomputable def LW:St:=⟨[],[some (.lp A4 [3,4,5,6] [.ptr 2 0,.ptr 3 0,.ptr 4 0,.ptr 5 0] j_2),some (.box [.ptr 6 0]),some (.box [.d (.sl (b2_0_.map eU8))]),some (.box [.d (.str x_64)]),some (.box [.d (.int .i64 x_65)]),some (.box [.d (.int .i64 x_66)]),some (.box [.ptr 7 0,.d (.sl (b6_1_.map eU8)),.mp 8]),some (.box (Ai b7_ (.osl 10 1 0 (b7_.Accepts.length)))),some (.map true false (AH Ap eB o8_)),none,some (.arr 1 (b7_.Accepts.map eB))]⟩
noncomputable def JcP:St:=⟨(0,.yld 0)::(1,.ptr 1 0)::(3,.osl 10 1 0 (List.length ([]:List Int)))::(4,.d (.sl (r48.1.map Ag)))::[],[some (.lp A4 [3,4,5,6] [.ptr 2 0,.ptr 3 0,.ptr 4 0,.ptr 5 0] 0),some (.box [.ptr 6 0]),some (.box [.d (.sl (b2_0_.map eU8))]),some (.box [.d (.str x_67)]),some (.box [.d (.int .i64 x_68)]),some (.box [.d (.int .i64 x_69)]),some (.box [.ptr 7 0,.d (.sl (b6_1_.map eU8)),.mp 8]),some (.box (Ai b7_ (.osl 11 1 0 (b7_.Accepts.length)))),some (.map true false (AH Ap eB o8_)),none,some (.arr 1 (List.map eU8 ([]:List Int))),some (.arr 1 (b7_.Accepts.map eB))]⟩
noncomputable def JcQ:St:=⟨(0,.yld 0)::(1,.ptr 1 0)::(3,.osl 10 1 0 (text_1.length))::(6,.osl 11 2 0 (stack_1.length))::[],[some (.lp A4 [3,4,5,6] [.ptr 2 0,.ptr 3 0,.ptr 4 0,.ptr 5 0] 0),some (.box [.ptr 6 0]),some (.box [.d (.sl (b2_0_.map eU8))]),some (.box [.d (.str x_70)]),some (.box [.d (.int .i64 x_71)]),some (.box [.d (.int .i64 x_72)]),some (.box [.ptr 7 0,.d (.sl (b6_1_.map eU8)),.mp 8]),some (.box (Ai b7_ (.osl 12 1 0 (b7_.Accepts.length)))),some (.map true false (AH Ap eB o8_)),none,some (.arr 1 (text_1.map eU8)),some (.arr 2 (stack_1.map A8)),some (.arr 1 (b7_.Accepts.map eB))]⟩
noncomputable def JcR:St:=⟨[],[some (.lp A4 [3,4,5,6] [.ptr 2 0,.ptr 3 0,.ptr 4 0,.ptr 5 0] 0),some (.box [.ptr 6 0]),some (.box [.d (.sl (b2_0_.map eU8))]),some (.box [.d (.str x_73)]),some (.box [.d (.int .i64 x_74)]),some (.box [.d (.int .i64 x_75)]),some (.box [.ptr 7 0,.d (.sl (b6_1_.map eU8)),.mp 8]),some (.box (Ai b7_ (.osl 10 1 0 (b7_.Accepts.length)))),some (.map true false (AH Ap eB o8_)),none,some (.arr 1 (b7_.Accepts.map eB))]⟩
noncomputable def JcS:St:=⟨(0,.yld 0)::(1,.ptr 1 0)::(3,.osl 10 1 0 (l33.length))::(4,.d (.sl (r51.1.map Ag)))::(6,.osl 11 2 0 (l32.length))::[],[some (.lp A4 [3,4,5,6] [.ptr 2 0,.ptr 3 0,.ptr 4 0,.ptr 5 0] 0),some (.box [.ptr 6 0]),some (.box [.d (.sl (b2_0_.map eU8))]),some (.box [.d (.str x_76)]),some (.box [.d (.int .i64 x_77)]),some (.box [.d (.int .i64 x_78)]),some (.box [.ptr 7 0,.d (.sl (b6_1_.map eU8)),.mp 8]),some (.box (Ai b7_ (.osl 12 1 0 (b7_.Accepts.length)))),some (.map true false (AH Ap eB o8_)),none,some (.arr 1 (l33.map eU8)),some (.arr 2 (l32.map A8)),some (.arr 1 (b7_.Accepts.map eB))]⟩
noncomputable def I4:(((List UInt8)×Int×Int)⊕(Nat×(List UInt8)×Int×Int))->Ex->St->Prop:=xS (xX 10 0 (λ (y:((List UInt8)×Int×Int))=>JcR b2_0_ b6_1_ b7_ o8_ y.1 y.2.1 y.2.2)) (xL 10 ty Try.f74 (λ (y:(Nat×(List UInt8)×Int×Int))=>.tup []) (λ (y:(Nat×(List UInt8)×Int×Int))=>[some (.lp A4 [3,4,5,6] [.ptr 2 0,.ptr 3 0,.ptr 4 0,.ptr 5 0] y.1),some (.box [.ptr 6 0]),some (.box [.d (.sl (b2_0_.map eU8))]),some (.box [.d (.str y.2.1)]),some (.box [.d (.int .i64 y.2.2.1)]),some (.box [.d (.int .i64 y.2.2.2)]),some (.box [.ptr 7 0,.d (.sl (b6_1_.map eU8)),.mp 8]),some (.box (Ai b7_ (.osl 10 1 0 (b7_.Accepts.length)))),some (.map true false (AH Ap eB o8_)),none,some (.arr 1 (b7_.Accepts.map eB))]))
noncomputable def Fh:((List UInt8)×Int×Int×(List Int)×(List AY))->St:=(λ (x:((List UInt8)×Int×Int×(List Int)×(List AY)))=>JcQ b2_0_ b6_1_ b7_ o8_ x.1 x.2.1 x.2.2.1 x.2.2.2.1 x.2.2.2.2)
variable {b2_0_ b3_0_ b4_0_ b5_0_ b6_1_ b7_ o8_ j_2 x_64 x_65 x_66 r48 x_67 x_68 x_69 x_70 x_71 x_72 text_1 stack_1 x_73 x_74 x_75 l32 l33 r51 x_76 x_77 x_78}
theorem EW (x:((List UInt8)×Int×Int×(List Int)×(List AY))) (z:(((List UInt8)×Int×Int×(List Int)×(List AY))⊕(((List UInt8)×Int×Int)⊕(Nat×(List UInt8)×Int×Int)))) (H:A7 n b2_0_ b6_1_ b7_ o8_ x.1 x.2.1 x.2.2.1 x.2.2.2.1 x.2.2.2.2=some z):WP (cxk 81 10) (AC Try.f74) [1,1,1,1,0,0] (AJ 10 (Fh b2_0_ b6_1_ b7_ o8_) (I4 b2_0_ b6_1_ b7_ o8_) z) (Fh b2_0_ b6_1_ b7_ o8_ x):=by
 obtain ⟨x_70,x_71,x_72,text_1,stack_1⟩:=x
 refine sq (sr (ck 3 (en (cn H (λ H=>?_) (λ H=>?_)))))
 ·refine sk (qz (bk 1 (sr (ck 4 (bx H λ x55 h176 H=>sp (Bc 11 2 h176) (ck 1 (en (sr (ck 1 (bx H λ r49 h177 H=>cb (ks:=[11]) (obl:=[(0+Int.toNat (Ec .i64 ((stack_1.length:Nat):Int) 1)+1,List.length (stack_1.map A8))]) false (leK (Jjj (enc:=A8) h176) (leZ)) (DK (Jff h176) rfl) (Hs h177) (Or.inr trivial) rfl (ck 1 (en (sq (sr (ck 2 (en (cn H (λ H=>?_) (λ H=>?_))))))))))))))))))
  ·exact sr (ck 4 (bx H λ l30 h178 H=>sp (IU 11 2 h178) (ck 1 (en (sq (rg (Np (k:=11) (sz:=2) 6 (l30.map A8) (l30.length) (by kernel_rfl) (GL h178) (IT (enc:=A8) h178) (GN h178)) (ck 5 (bx H λ l31 h179 H=>sp (IU 10 1 h179) (ck 1 (en (ex 1 (qx (qH (by cases H;exact og (tr (Np (k:=10) (sz:=1) 3 (l31.map eU8) (l31.length) (by kernel_rfl) (GL h179) (IT (enc:=eU8) h179) (GN h179)) (sg [0,1,3,6]))))))))))))))))
  ·refine sk (qz (sr (ck 5 (bx H λ l32 h180 H=>stA A8 11 1 (ty 3) h176 h180 (en (sq (rg (tr (tr (tr (sn 6 11 2 (Di h180)) (sn 26 11 2 (Di h180))) (sn 29 11 2 (Di h180))) (sn 30 11 2 (Di h180))) (ck 4 (bx H λ l33 h181 H=>sp (Bm eU8 10 1 h181) (ck 1 (en (sq (rx 4 5 (.refl _) (ck 4 (bx H λ r50 h182 H=>xs (xok _ _) (g:=true) rfl (Ed) [11] (Gl h182) rfl (mx (bx H λ r51 h183 H=>lt [6,15,7,8,12] (F8 h183) (nx 11 10 (ck 4 (mx (ck 1 (nz (qz (sj (λ (x:((List UInt8)×Int×Int))=>JcS b2_0_ b6_1_ b7_ o8_ l32 l33 r51 x.1 x.2.1 x.2.2) (λ (x:((List UInt8)×Int×Int))=>BI n l32 l33 r51 x.1 x.2.1 x.2.2) z ?_ (λ hFRb_reading_texts_1_J2=>?_)))))))))))))))))))))))))
   ·rintro ⟨x_76,x_77,x_78⟩ H
    exact rz (ck 4 (bx H λ l34 h184 H=>sp (Bm A8 11 2 h184) (ck 1 (ae (qN (by cases H;exact og (sg [0,1,3,6])))))))
   refine sr (ck 4 (gsp r51.2 H (λ hg H=>?_) (λ hg H=>?_)))
   ·refine bx H λ s3 h185 H=>xv (xok _ _) hg (Cd (λ hh=>hh) (Ed)) 14 h185 (bx H λ r52 h186 H=>xy (xok _ _) hg (Cd (λ hh=>hh) (Cd (λ hh=>hh) (Ed))) [0,2,3,4,5] (MY h186) rfl (gc 1 r51.2 (pA (en (cnh H (λ hc86 H=>?_) (λ hc86 H=>?_))))))
    ·exact re (qr (qR (by cases H;exact lo rfl (rl (s':=LW b2_0_ b6_1_ b7_ o8_ 2 s3 ((b2_0_.length:Nat):Int) 0) (sg [])))))
    ·exact sk (qs (tr (Wh 0 (jb1 hg hc86) (by kernel_rfl)) (sg [0,1,3,4,6])) (hFRb_reading_texts_1_J2 (s3,((b2_0_.length:Nat):Int),0) H))
   ·refine gsk hg (.d (.str [])) (gsk hg (.d (.bool false)) (gc 1 r51.2 (pA (en (cn H (λ H=>?_) (λ H=>?_))))))
    ·exact re (qr (qR (by cases H;exact lo rfl (rl (s':=LW b2_0_ b6_1_ b7_ o8_ 0 x_70 x_71 x_72) (sg [])))))
    ·exact sk (qs (sg [0,1,3,4,6]) (hFRb_reading_texts_1_J2 (x_70,x_71,x_72) H))
 ·exact ex 0 (qx (by cases H;exact xo rfl (sg [])))
theorem Kl {z} (H:Cc n b2_0_ b3_0_ b4_0_ b5_0_ b6_1_ b7_ o8_=some z):Bk Try.prog 74 [.yld 0,.ptr 1 0] [some (.lp A4 [3,4,5,6] [.ptr 2 0,.ptr 3 0,.ptr 4 0,.ptr 5 0] 0),some (.box [.ptr 6 0]),some (.box [.d (.sl (b2_0_.map eU8))]),some (.box [.d (.str b3_0_)]),some (.box [.d (.int .i64 b4_0_)]),some (.box [.d (.int .i64 b5_0_)]),some (.box [.ptr 7 0,.d (.sl (b6_1_.map eU8)),.mp 8]),some (.box (Ai b7_ (.osl 9 1 0 (b7_.Accepts.length)))),some (.map true false (AH Ap eB o8_)),some (.arr 1 (b7_.Accepts.map eB))] 10 (.tup []) [some (.lp A4 [3,4,5,6] [.ptr 2 0,.ptr 3 0,.ptr 4 0,.ptr 5 0] z.1),some (.box [.ptr 6 0]),some (.box [.d (.sl (b2_0_.map eU8))]),some (.box [.d (.str z.2.1)]),some (.box [.d (.int .i64 z.2.2.1)]),some (.box [.d (.int .i64 z.2.2.2)]),some (.box [.ptr 7 0,.d (.sl (b6_1_.map eU8)),.mp 8]),some (.box (Ai b7_ (.osl 10 1 0 (b7_.Accepts.length)))),some (.map true false (AH Ap eB o8_)),none,some (.arr 1 (b7_.Accepts.map eB))]:=by
 refine fL 81 10 (JcO b2_0_ b3_0_ b4_0_ b5_0_ b6_1_ b7_ o8_) Try.func74 (sr (ck 1 (en (sr (ck 3 (sF (bx H λ r48 h175 H=>lt [6,7,8,9] (Gk h175) (ck 5 (en (sj (λ (x:((List UInt8)×Int×Int))=>JcP b2_0_ b6_1_ b7_ o8_ r48 x.1 x.2.1 x.2.2) (λ (x:((List UInt8)×Int×Int))=>BJ n b2_0_ b6_1_ b7_ o8_ r48 x.1 x.2.1 x.2.2) z ?_ (λ hFRb_reading_texts_1_J1=>?_)))))))))))
 ·rintro ⟨x_67,x_68,x_69⟩ H
  refine sr (ck 4 (en (bk 0 (bx H λ y50 h187 H=>?_))))
  rcases y50 with y51|y52
  ·exact lX EW h187 (sg [0,1,3,6]) rfl λ s hE42=>qH (by cases H;exact pL' (rl (s':=LW b2_0_ b6_1_ b7_ o8_ 0 y51.1 y51.2.1 y51.2.2) (tr (hE42) (sg []))))
  ·exact lL EW h187 (sg [0,1,3,6]) rfl λ s hE43=>qR (by cases H;exact pL hE43)
 refine sr (ck 3 (gsp r48.2 H (λ hg H=>?_) (λ hg H=>?_)))
 ·refine bx H λ r53 h188 H=>xy (xok _ _) hg (Cd (λ hh=>hh) (Ed)) [0,2,3,4,5] (MY h188) rfl (gc 1 r48.2 (pA (en (cnh H (λ hc88 H=>?_) (λ hc88 H=>?_)))))
  ·exact re (qr (by cases H;exact pL (rl (s':=LW b2_0_ b6_1_ b7_ o8_ 2 [] ((b2_0_.length:Nat):Int) 0) (sg []))))
  ·exact sk (qs (tr (tr (Wh 0 (jb1 hg hc88) (by kernel_rfl)) (Aw.nilo 3 1 (by kernel_rfl))) (sg [0,1,3,4])) (hFRb_reading_texts_1_J1 ([],((b2_0_.length:Nat):Int),0) H))
 ·refine gsk hg (.d (.bool false)) (gc 1 r48.2 (pA (en (cn H (λ H=>?_) (λ H=>?_)))))
  ·exact re (qr (by cases H;exact pL (rl (s':=LW b2_0_ b6_1_ b7_ o8_ 0 b3_0_ b4_0_ b5_0_) (sg []))))
  ·exact sk (qs (tr (Aw.nilo 3 1 (by kernel_rfl)) (sg [0,1,3,4])) (hFRb_reading_texts_1_J1 (b3_0_,b4_0_,b5_0_) H))
end
section
variable (p0_:Ab) (p1_:(List Int))
def Jhe:St:=⟨(0,.agg [.d (.int .i64 p0_.Modes),.d (.int .u8 p0_.Accept),.d (.sl (p0_.Rules.map Ak))])::(1,.d (.sl (p1_.map eU8)))::[],[]⟩
variable {p0_ p1_}
theorem IH {z} (H:FZ n p0_ p1_=some z):AF Try.prog 41 [.agg (AL p0_),.d (.sl (p1_.map eU8))] (.tup [.d (.str z.1),.d (.int .i64 z.2.1),.d (.int .i64 z.2.2)]):=by
 refine fO 27 (Jhe p0_ p1_) Try.func41 (sr (ck 5 (en (sq (sr (ck 1 (bx H λ r54 h189 H=>ca false (Ki h189) (ck 1 (en (cn H (λ H=>?_) (λ H=>?_)))))))))))
 ·exact sr (ck 3 (en (re (qr (by cases H;exact pr rdT)))))
 ·refine sk (qz (sr (ck 2 (bx H λ r55 h190 H=>lt [] (IG h190) (ck 5 (en (sq (sr (ck 1 (bx H λ r56 h191 H=>lt [5,6,7,8] (Ha h191) (en (bk 0 (bx H λ r57 h192 H=>rf [.ret] [3,4,5,6] [10,9,1,2,3,4,5,6,7,8] r57.1 (Kl h192) rfl (jn H (λ H=>?_) (λ H=>?_)))))))))))))))
  ·exact qN (qz (sr (ck 5 (en (re (by cases H;exact pr rdT))))))
  ·refine jr 0 H (λ H=>?_) (λ H=>?_)
   ·exact qR (qr (by cases H;exact pr rdT))
   ·cases H
end
noncomputable def JcT (p1_:(List UInt8)) (b1_0_:Int) (b3_0_:Int) (o5_:(List (List UInt8))) (o6_:(List (List UInt8))):St:=⟨(25,.d (.str p1_))::(5,.ptr 1 0)::(6,.ptr 2 0)::(7,.ptr 3 0)::(10,.ptr 4 0)::[],[some (.lp AQ [5,6,7,10] [.ptr 1 0,.ptr 2 0,.ptr 3 0,.ptr 4 0] 0),some (.box [.d (.int .i64 b1_0_)]),some (.box [.osl 5 1 0 (o5_.length)]),some (.box [.d (.int .i64 b3_0_)]),some (.box [.osl 6 1 0 (o6_.length)]),some (.arr 1 (o5_.map eS)),some (.arr 1 (o6_.map eS))]⟩
noncomputable def Wo (b1_0_:Int) (x_79:Int) (x_80:(List (List UInt8))) (x_81:(List (List UInt8))):St:=⟨[],[some (.lp AQ [5,6,7,10] [.ptr 1 0,.ptr 2 0,.ptr 3 0,.ptr 4 0] 1),some (.box [.d (.int .i64 b1_0_)]),some (.box [.osl 7 1 0 (x_80.length)]),some (.box [.d (.int .i64 x_79)]),some (.box [.osl 8 1 0 (x_81.length)]),none,none,some (.arr 1 (x_80.map eS)),some (.arr 1 (x_81.map eS))]⟩
section
variable (p1_:(List UInt8)) (b1_0_:Int) (b3_0_:Int) (o5_:(List (List UInt8))) (o6_:(List (List UInt8)))
variable {p1_ b1_0_ b3_0_ o5_ o6_}
theorem LX {z} (H:Es n p1_ b1_0_ b3_0_ o5_ o6_=some z):PR Try.prog [.d (.str p1_)] [some (.lp AQ [5,6,7,10] [.ptr 1 0,.ptr 2 0,.ptr 3 0,.ptr 4 0] 0),some (.box [.d (.int .i64 b1_0_)]),some (.box [.osl 5 1 0 (o5_.length)]),some (.box [.d (.int .i64 b3_0_)]),some (.box [.osl 6 1 0 (o6_.length)]),some (.arr 1 (o5_.map eS)),some (.arr 1 (o6_.map eS))] 7 z.1 [some (.lp AQ [5,6,7,10] [.ptr 1 0,.ptr 2 0,.ptr 3 0,.ptr 4 0] z.1),some (.box [.d (.int .i64 b1_0_)]),some (.box [.osl 7 1 0 (z.2.2.1.length)]),some (.box [.d (.int .i64 z.2.1)]),some (.box [.osl 8 1 0 (z.2.2.2.length)]),none,none,some (.arr 1 (z.2.2.1.map eS)),some (.arr 1 (z.2.2.2.map eS))]:=by
 refine fk (C:=AC Try.f43) (p:=[1,1,1,1,1,0,1,0]) 35 [25] [.ret] (ts:=[5,6,7,10]) (vs:=[.ptr 1 0,.ptr 2 0,.ptr 3 0,.ptr 4 0]) (JcT p1_ b1_0_ b3_0_ o5_ o6_) follows (YE 35 7) (rz (ck 1 (ae (aq (js:=[.ret]) (bk 1 (sq (sr (ck 4 (en (cn H (λ H=>?_) (λ H=>?_)))))))))))
 ·exact sr (ck 2 (en (re (qr (qR (by cases H;exact rq (s':=Wo b1_0_ 2 ([]:List (List UInt8)) o6_) (tr (tr (tr (Dh 2 0 1 (by kernel_rfl)) (BU (k:=6) (sz:=1) 4 0 (o6_.map eS) (o6_.length) (by kernel_rfl) Bf leM rfl)) (UC 5 rfl)) (sg []))))))))
 ·exact sk (qz (rz (ck 3 (bx H λ l35 h193 H=>sp (Bm eS 6 1 h193) (ck 1 (ae (qN (by cases H;exact rq (s':=Wo b1_0_ b3_0_ o5_ l35) (tr (BU (k:=5) (sz:=1) 2 0 (o5_.map eS) (o5_.length) (by kernel_rfl) Bf leM rfl) (sg []))))))))))
end
end Go.AI
end
section
namespace Go.AI
open Go.Proofs
set_option maxRecDepth 10000
variable {n:Nat}
section
variable (b2_0_:Int) (b4_0_:Int) (b6_1_:(List Int)) (b9_:An) (o7_:(List (List UInt8))) (o8_:(List (List UInt8))) (o10_:(List (Ae×Bool))) (j_3:Nat) (x_82:Int) (x_83:(List (List UInt8))) (x_84:(List (List UInt8))) (r58:((List Ac)×Bool)) (x_85:Int) (x_86:(List (List UInt8))) (x_87:(List (List UInt8))) (x_88:Int) (text_2:(List Int)) (stack_2:(List AY)) (x_89:(List (List UInt8))) (x_90:(List (List UInt8))) (x_91:Int) (x_92:(List (List UInt8))) (x_93:(List (List UInt8))) (l38:(List AY)) (l39:(List Int)) (r61:((List Ac)×Bool)) (x_94:Int) (x_95:(List (List UInt8))) (x_96:(List (List UInt8)))
noncomputable def JcU:St:=⟨(0,.yld 0)::(1,.ptr 1 0)::[],[some (.lp AQ [5,6,7,10] [.ptr 2 0,.ptr 3 0,.ptr 4 0,.ptr 5 0] 0),some (.box [.ptr 6 0]),some (.box [.d (.int .i64 b2_0_)]),some (.box [.osl 7 1 0 (o7_.length)]),some (.box [.d (.int .i64 b4_0_)]),some (.box [.osl 8 1 0 (o8_.length)]),some (.box [.ptr 9 0,.d (.sl (b6_1_.map eU8)),.mp 10]),some (.arr 1 (o7_.map eS)),some (.arr 1 (o8_.map eS)),some (.box (Ai b9_ (.osl 11 1 0 (b9_.Accepts.length)))),some (.map true false (AH Ap eB o10_)),some (.arr 1 (b9_.Accepts.map eB))]⟩
noncomputable def LY:St:=⟨[],[some (.lp AQ [5,6,7,10] [.ptr 2 0,.ptr 3 0,.ptr 4 0,.ptr 5 0] j_3),some (.box [.ptr 6 0]),some (.box [.d (.int .i64 b2_0_)]),some (.box [.osl 12 1 0 (x_83.length)]),some (.box [.d (.int .i64 x_82)]),some (.box [.osl 13 1 0 (x_84.length)]),some (.box [.ptr 9 0,.d (.sl (b6_1_.map eU8)),.mp 10]),none,none,some (.box (Ai b9_ (.osl 14 1 0 (b9_.Accepts.length)))),some (.map true false (AH Ap eB o10_)),none,some (.arr 1 (x_83.map eS)),some (.arr 1 (x_84.map eS)),some (.arr 1 (b9_.Accepts.map eB))]⟩
noncomputable def JcV:St:=⟨(0,.yld 0)::(1,.ptr 1 0)::(3,.osl 12 1 0 (List.length ([]:List Int)))::(4,.d (.sl (r58.1.map Ag)))::[],[some (.lp AQ [5,6,7,10] [.ptr 2 0,.ptr 3 0,.ptr 4 0,.ptr 5 0] 0),some (.box [.ptr 6 0]),some (.box [.d (.int .i64 b2_0_)]),some (.box [.osl 13 1 0 (x_86.length)]),some (.box [.d (.int .i64 x_85)]),some (.box [.osl 14 1 0 (x_87.length)]),some (.box [.ptr 9 0,.d (.sl (b6_1_.map eU8)),.mp 10]),none,none,some (.box (Ai b9_ (.osl 15 1 0 (b9_.Accepts.length)))),some (.map true false (AH Ap eB o10_)),none,some (.arr 1 (List.map eU8 ([]:List Int))),some (.arr 1 (x_86.map eS)),some (.arr 1 (x_87.map eS)),some (.arr 1 (b9_.Accepts.map eB))]⟩
noncomputable def JcW:St:=⟨(0,.yld 0)::(1,.ptr 1 0)::(3,.osl 12 1 0 (text_2.length))::(6,.osl 13 2 0 (stack_2.length))::[],[some (.lp AQ [5,6,7,10] [.ptr 2 0,.ptr 3 0,.ptr 4 0,.ptr 5 0] 0),some (.box [.ptr 6 0]),some (.box [.d (.int .i64 b2_0_)]),some (.box [.osl 14 1 0 (x_89.length)]),some (.box [.d (.int .i64 x_88)]),some (.box [.osl 15 1 0 (x_90.length)]),some (.box [.ptr 9 0,.d (.sl (b6_1_.map eU8)),.mp 10]),none,none,some (.box (Ai b9_ (.osl 16 1 0 (b9_.Accepts.length)))),some (.map true false (AH Ap eB o10_)),none,some (.arr 1 (text_2.map eU8)),some (.arr 2 (stack_2.map A8)),some (.arr 1 (x_89.map eS)),some (.arr 1 (x_90.map eS)),some (.arr 1 (b9_.Accepts.map eB))]⟩
noncomputable def JcX:St:=⟨[],[some (.lp AQ [5,6,7,10] [.ptr 2 0,.ptr 3 0,.ptr 4 0,.ptr 5 0] 0),some (.box [.ptr 6 0]),some (.box [.d (.int .i64 b2_0_)]),some (.box [.osl 12 1 0 (x_92.length)]),some (.box [.d (.int .i64 x_91)]),some (.box [.osl 13 1 0 (x_93.length)]),some (.box [.ptr 9 0,.d (.sl (b6_1_.map eU8)),.mp 10]),none,none,some (.box (Ai b9_ (.osl 14 1 0 (b9_.Accepts.length)))),some (.map true false (AH Ap eB o10_)),none,some (.arr 1 (x_92.map eS)),some (.arr 1 (x_93.map eS)),some (.arr 1 (b9_.Accepts.map eB))]⟩
noncomputable def JcY:St:=⟨(0,.yld 0)::(1,.ptr 1 0)::(3,.osl 12 1 0 (l39.length))::(4,.d (.sl (r61.1.map Ag)))::(6,.osl 13 2 0 (l38.length))::[],[some (.lp AQ [5,6,7,10] [.ptr 2 0,.ptr 3 0,.ptr 4 0,.ptr 5 0] 0),some (.box [.ptr 6 0]),some (.box [.d (.int .i64 b2_0_)]),some (.box [.osl 14 1 0 (x_95.length)]),some (.box [.d (.int .i64 x_94)]),some (.box [.osl 15 1 0 (x_96.length)]),some (.box [.ptr 9 0,.d (.sl (b6_1_.map eU8)),.mp 10]),none,none,some (.box (Ai b9_ (.osl 16 1 0 (b9_.Accepts.length)))),some (.map true false (AH Ap eB o10_)),none,some (.arr 1 (l39.map eU8)),some (.arr 2 (l38.map A8)),some (.arr 1 (x_95.map eS)),some (.arr 1 (x_96.map eS)),some (.arr 1 (b9_.Accepts.map eB))]⟩
noncomputable def In:((Int×(List (List UInt8))×(List (List UInt8)))⊕(Nat×Int×(List (List UInt8))×(List (List UInt8))))->Ex->St->Prop:=xS (xX 12 0 (λ (y:(Int×(List (List UInt8))×(List (List UInt8))))=>JcX b2_0_ b6_1_ b9_ o10_ y.1 y.2.1 y.2.2)) (xL 12 ty Try.f74 (λ (y:(Nat×Int×(List (List UInt8))×(List (List UInt8))))=>.tup []) (λ (y:(Nat×Int×(List (List UInt8))×(List (List UInt8))))=>[some (.lp AQ [5,6,7,10] [.ptr 2 0,.ptr 3 0,.ptr 4 0,.ptr 5 0] y.1),some (.box [.ptr 6 0]),some (.box [.d (.int .i64 b2_0_)]),some (.box [.osl 12 1 0 (y.2.2.1.length)]),some (.box [.d (.int .i64 y.2.1)]),some (.box [.osl 13 1 0 (y.2.2.2.length)]),some (.box [.ptr 9 0,.d (.sl (b6_1_.map eU8)),.mp 10]),none,none,some (.box (Ai b9_ (.osl 14 1 0 (b9_.Accepts.length)))),some (.map true false (AH Ap eB o10_)),none,some (.arr 1 (y.2.2.1.map eS)),some (.arr 1 (y.2.2.2.map eS)),some (.arr 1 (b9_.Accepts.map eB))]))
noncomputable def EX:(Int×(List Int)×(List AY)×(List (List UInt8))×(List (List UInt8)))->St:=(λ (x:(Int×(List Int)×(List AY)×(List (List UInt8))×(List (List UInt8))))=>JcW b2_0_ b6_1_ b9_ o10_ x.1 x.2.1 x.2.2.1 x.2.2.2.1 x.2.2.2.2)
variable {b2_0_ b4_0_ b6_1_ b9_ o7_ o8_ o10_ j_3 x_82 x_83 x_84 r58 x_85 x_86 x_87 x_88 text_2 stack_2 x_89 x_90 x_91 x_92 x_93 l38 l39 r61 x_94 x_95 x_96}
theorem Ez (x:(Int×(List Int)×(List AY)×(List (List UInt8))×(List (List UInt8)))) (z:((Int×(List Int)×(List AY)×(List (List UInt8))×(List (List UInt8)))⊕((Int×(List (List UInt8))×(List (List UInt8)))⊕(Nat×Int×(List (List UInt8))×(List (List UInt8)))))) (H:A6 n b2_0_ b6_1_ b9_ o10_ x.1 x.2.1 x.2.2.1 x.2.2.2.1 x.2.2.2.2=some z):WP (cxk 81 12) (AC Try.f74) [1,1,1,1,0,0] (AJ 12 (EX b2_0_ b6_1_ b9_ o10_) (In b2_0_ b6_1_ b9_ o10_) z) (EX b2_0_ b6_1_ b9_ o10_ x):=by
 obtain ⟨x_88,text_2,stack_2,x_89,x_90⟩:=x
 refine sq (sr (ck 3 (en (cn H (λ H=>?_) (λ H=>?_)))))
 ·refine sk (qz (bk 1 (sr (ck 4 (bx H λ x56 h195 H=>sp (Bc 13 2 h195) (ck 1 (en (sr (ck 1 (bx H λ r59 h196 H=>cb (ks:=[13]) (obl:=[(0+Int.toNat (Ec .i64 ((stack_2.length:Nat):Int) 1)+1,List.length (stack_2.map A8))]) false (leK (Jjj (enc:=A8) h195) (leZ)) (DK (Jff h195) rfl) (Hs h196) (Or.inr trivial) rfl (ck 1 (en (sq (sr (ck 2 (en (cn H (λ H=>?_) (λ H=>?_))))))))))))))))))
  ·exact sr (ck 4 (bx H λ l36 h197 H=>sp (IU 13 2 h197) (ck 1 (en (sq (rg (Np (k:=13) (sz:=2) 6 (l36.map A8) (l36.length) (by kernel_rfl) (GL h197) (IT (enc:=A8) h197) (GN h197)) (ck 5 (bx H λ l37 h198 H=>sp (IU 12 1 h198) (ck 1 (en (ex 1 (qx (qH (by cases H;exact og (tr (Np (k:=12) (sz:=1) 3 (l37.map eU8) (l37.length) (by kernel_rfl) (GL h198) (IT (enc:=eU8) h198) (GN h198)) (sg [0,1,3,6]))))))))))))))))
  ·refine sk (qz (sr (ck 5 (bx H λ l38 h199 H=>stA A8 13 1 (ty 3) h195 h199 (en (sq (rg (tr (tr (tr (sn 6 13 2 (Di h199)) (sn 26 13 2 (Di h199))) (sn 29 13 2 (Di h199))) (sn 30 13 2 (Di h199))) (ck 4 (bx H λ l39 h200 H=>sp (Bm eU8 12 1 h200) (ck 1 (en (sq (rx 4 5 (.refl _) (ck 4 (bx H λ r60 h201 H=>xs (xok _ _) (g:=true) rfl (Ed) [13] (Gl h201) rfl (mx (bx H λ r61 h202 H=>lt [6,19,9,10,16] (F8 h202) (nx 11 10 (ck 4 (mx (ck 1 (nz (qz (sj (λ (x:(Int×(List (List UInt8))×(List (List UInt8))))=>JcY b2_0_ b6_1_ b9_ o10_ l38 l39 r61 x.1 x.2.1 x.2.2) (λ (x:(Int×(List (List UInt8))×(List (List UInt8))))=>Bg n l38 l39 r61 x.1 x.2.1 x.2.2) z ?_ (λ hFRb_reading_texts_1x_J2=>?_)))))))))))))))))))))))))
   ·rintro ⟨x_94,x_95,x_96⟩ H
    exact rz (ck 4 (bx H λ l40 h203 H=>sp (Bm A8 13 2 h203) (ck 1 (ae (qN (by cases H;exact og (sg [0,1,3,6])))))))
   refine sr (ck 4 (gsp r61.2 H (λ hg H=>?_) (λ hg H=>?_)))
   ·refine bx H λ s4 h204 H=>xv (xok _ _) hg (Cd (λ hh=>hh) (Ed)) 18 h204 (bx H λ r62 h205 H=>xy (xok _ _) hg (Cd (λ hh=>hh) (Cd (λ hh=>hh) (Ed))) [0,2,3,4,5,14,15] (LX h205) rfl (gc 1 r61.2 (pA (en (cnh H (λ hc94 H=>?_) (λ hc94 H=>?_))))))
    ·exact re (qr (qR (by cases H;exact lo rfl (rl (s':=LY b2_0_ b6_1_ b9_ o10_ r62.1 r62.2.1 r62.2.2.1 r62.2.2.2) (sg [])))))
    ·exact sk (qs (tr (Wh 0 (jb1 hg hc94) (by kernel_rfl)) (sg [0,1,3,4,6])) (hFRb_reading_texts_1x_J2 (r62.2.1,r62.2.2.1,r62.2.2.2) H))
   ·refine gsk hg (.d (.str [])) (gsk hg (.d (.bool false)) (gc 1 r61.2 (pA (en (cn H (λ H=>?_) (λ H=>?_))))))
    ·exact re (qr (qR (by cases H;exact lo rfl (rl (s':=LY b2_0_ b6_1_ b9_ o10_ 0 x_88 x_89 x_90) (sg [])))))
    ·exact sk (qs (sg [0,1,3,4,6]) (hFRb_reading_texts_1x_J2 (x_88,x_89,x_90) H))
 ·exact ex 0 (qx (by cases H;exact xo rfl (sg [])))
theorem JA {z} (H:B1 n b2_0_ b4_0_ b6_1_ b9_ o7_ o8_ o10_=some z):Bk Try.prog 74 [.yld 0,.ptr 1 0] [some (.lp AQ [5,6,7,10] [.ptr 2 0,.ptr 3 0,.ptr 4 0,.ptr 5 0] 0),some (.box [.ptr 6 0]),some (.box [.d (.int .i64 b2_0_)]),some (.box [.osl 7 1 0 (o7_.length)]),some (.box [.d (.int .i64 b4_0_)]),some (.box [.osl 8 1 0 (o8_.length)]),some (.box [.ptr 9 0,.d (.sl (b6_1_.map eU8)),.mp 10]),some (.arr 1 (o7_.map eS)),some (.arr 1 (o8_.map eS)),some (.box (Ai b9_ (.osl 11 1 0 (b9_.Accepts.length)))),some (.map true false (AH Ap eB o10_)),some (.arr 1 (b9_.Accepts.map eB))] 12 (.tup []) [some (.lp AQ [5,6,7,10] [.ptr 2 0,.ptr 3 0,.ptr 4 0,.ptr 5 0] z.1),some (.box [.ptr 6 0]),some (.box [.d (.int .i64 b2_0_)]),some (.box [.osl 12 1 0 (z.2.2.1.length)]),some (.box [.d (.int .i64 z.2.1)]),some (.box [.osl 13 1 0 (z.2.2.2.length)]),some (.box [.ptr 9 0,.d (.sl (b6_1_.map eU8)),.mp 10]),none,none,some (.box (Ai b9_ (.osl 14 1 0 (b9_.Accepts.length)))),some (.map true false (AH Ap eB o10_)),none,some (.arr 1 (z.2.2.1.map eS)),some (.arr 1 (z.2.2.2.map eS)),some (.arr 1 (b9_.Accepts.map eB))]:=by
 refine fL 81 12 (JcU b2_0_ b4_0_ b6_1_ b9_ o7_ o8_ o10_) Try.func74 (sr (ck 1 (en (sr (ck 3 (sF (bx H λ r58 h194 H=>lt [6,9,10,11] (Gk h194) (ck 5 (en (sj (λ (x:(Int×(List (List UInt8))×(List (List UInt8))))=>JcV b2_0_ b6_1_ b9_ o10_ r58 x.1 x.2.1 x.2.2) (λ (x:(Int×(List (List UInt8))×(List (List UInt8))))=>Bh n b2_0_ b6_1_ b9_ o10_ r58 x.1 x.2.1 x.2.2) z ?_ (λ hFRb_reading_texts_1x_J1=>?_)))))))))))
 ·rintro ⟨x_85,x_86,x_87⟩ H
  refine sr (ck 4 (en (bk 0 (bx H λ y53 h206 H=>?_))))
  rcases y53 with y54|y55
  ·exact lX Ez h206 (sg [0,1,3,6]) rfl λ s hE44=>qH (by cases H;exact pL' (rl (s':=LY b2_0_ b6_1_ b9_ o10_ 0 y54.1 y54.2.1 y54.2.2) (tr (hE44) (sg []))))
  ·exact lL Ez h206 (sg [0,1,3,6]) rfl λ s hE45=>qR (by cases H;exact pL hE45)
 refine sr (ck 3 (gsp r58.2 H (λ hg H=>?_) (λ hg H=>?_)))
 ·refine bx H λ r63 h207 H=>xy (xok _ _) hg (Cd (λ hh=>hh) (Ed)) [0,2,3,4,5,7,8] (LX h207) rfl (gc 1 r58.2 (pA (en (cnh H (λ hc96 H=>?_) (λ hc96 H=>?_)))))
  ·exact re (qr (by cases H;exact pL (rl (s':=LY b2_0_ b6_1_ b9_ o10_ r63.1 r63.2.1 r63.2.2.1 r63.2.2.2) (sg []))))
  ·exact sk (qs (tr (tr (Wh 0 (jb1 hg hc96) (by kernel_rfl)) (Aw.nilo 3 1 (by kernel_rfl))) (sg [0,1,3,4])) (hFRb_reading_texts_1x_J1 (r63.2.1,r63.2.2.1,r63.2.2.2) H))
 ·refine gsk hg (.d (.bool false)) (gc 1 r58.2 (pA (en (cn H (λ H=>?_) (λ H=>?_)))))
  ·exact re (qr (by cases H;exact pL (rl (s':=LY b2_0_ b6_1_ b9_ o10_ 0 b4_0_ o7_ o8_) (tr (tr (BU (k:=7) (sz:=1) 3 0 (o7_.map eS) (o7_.length) (by kernel_rfl) Bf leM rfl) (BU (k:=8) (sz:=1) 5 0 (o8_.map eS) (o8_.length) (by kernel_rfl) Bf leM rfl)) (sg [])))))
  ·exact sk (qs (tr (tr (tr (Aw.nilo 3 1 (by kernel_rfl)) (BU (k:=7) (sz:=1) 3 0 (o7_.map eS) (o7_.length) (by kernel_rfl) Bf leM rfl)) (BU (k:=8) (sz:=1) 5 0 (o8_.map eS) (o8_.length) (by kernel_rfl) Bf leM rfl)) (sg [0,1,3,4])) (hFRb_reading_texts_1x_J1 (b4_0_,o7_,o8_) H))
end
section
variable (p0_:Ab) (p1_:(List Int)) (p2_:Int)
def Jhf:St:=⟨(0,.agg [.d (.int .i64 p0_.Modes),.d (.int .u8 p0_.Accept),.d (.sl (p0_.Rules.map Ak))])::(1,.d (.sl (p1_.map eU8)))::(2,.d (.int .i64 p2_))::[],[]⟩
variable {p0_ p1_ p2_}
theorem HF {z} (H:EN n p0_ p1_ p2_=some z):AF Try.prog 43 [.agg (AL p0_),.d (.sl (p1_.map eU8)),.d (.int .i64 p2_)] (.tup [.own 1 (z.1.map eS),.d (.int .i64 z.2)]):=by
 refine fO 35 (Jhf p0_ p1_ p2_) Try.func43 (sr (ck 4 (en (sq (sr (ck 2 (en (cn H (λ H=>?_) (λ H=>?_)))))))))
 ·exact sr (ck 2 (en (re (qr (by cases H;exact pr (rT (vs:=[.d (.nil),.d (.int .i64 1)]) [] (t1 (ad vz) (t1 (ad vd) (t0)))))))))
 ·refine sk (qz (sq (sr (ck 1 (bx H λ r64 h208 H=>ca false (Ki h208) (ck 1 (en (cn H (λ H=>?_) (λ H=>?_)))))))))
  ·exact sr (ck 2 (en (re (qr (by cases H;exact pr (rT (vs:=[.d (.nil),.d (.int .i64 0)]) [] (t1 (ad vz) (t1 (ad vd) (t0)))))))))
  ·refine sk (qz (sr (ck 2 (bx H λ r65 h209 H=>lt [] (IG h209) (ck 5 (en (sr (ck 1 (en (sq (sr (ck 1 (bx H λ r66 h210 H=>lt [4,5,6,7] (Ha h210) (en (bk 0 (wsh (tr (Dh 2 0 1 (by kernel_rfl)) (Dh 8 0 1 (by kernel_rfl))) (bx H λ r67 h211 H=>rf [.ret] [5,6,7,10] [12,9,1,2,3,8,4,10,11,5,6,7] r67.1 (JA h211) rfl (jn H (λ H=>?_) (λ H=>?_)))))))))))))))))))
   ·exact qN (qz (sr (ck 3 (en (re (by cases H;exact pr (rT (vs:=[.osl 14 1 0 (r67.2.2.2.length),.d (.int .i64 0)]) [14] (t1 (ao vo) (t1 (ad vd) (t0))))))))))
   ·refine jr 0 H (λ H=>?_) (λ H=>?_)
    ·exact qR (qr (by cases H;exact pr (rT (vs:=[.osl 13 1 0 (r67.2.2.1.length),.d (.int .i64 r67.2.1)]) [13] (t1 (ao vo) (t1 (ad vd) (t0))))))
    ·cases H
end
section
variable (p0_:(List (List UInt8))) (p1_:(List (List UInt8))) (i_3:Int)
def Jhg:St:=⟨(0,.d (.sl (p0_.map eS)))::(1,.d (.sl (p1_.map eS)))::[],[]⟩
def Jhh:St:=⟨(0,.d (.sl (p0_.map eS)))::(1,.d (.sl (p1_.map eS)))::(5,.d (.int .i64 i_3))::[],[]⟩
def Jhi:St:=⟨[],[]⟩
def Pa:(Unit⊕Bool)->Ex->St->Prop:=xS (xX 0 0 (λ (y:Unit)=>Jhi)) (xR ty Try.f45 (λ (y:Bool)=>.d (.bool y)))
def JB:Int->St:=(λ (x:Int)=>Jhh p0_ p1_ x)
variable {p0_ p1_ i_3}
theorem II (x:Int) (z:(Int⊕(Unit⊕Bool))) (H:CZ n p0_ p1_ x=some z):WP (cxk 26 0) (AC Try.f45) [1,1,0,1,0,0] (AJ 0 (JB p0_ p1_) (Pa) z) (JB p0_ p1_ x):=by
 revert H
 generalize x=i_3
 intro H
 refine sq (sr (ck 2 (sp (Av eS p0_) (ck 1 (en (cn H (λ H=>?_) (λ H=>?_)))))))
 ·refine sk (qz (sq (bk 1 (sr (ck 2 (bx H λ x57 h212 H=>sp (AA eS h212) (ck 3 (bx H λ x58 h213 H=>sp (AA eS h213) (ck 2 (en (cn H (λ H=>?_) (λ H=>?_))))))))))))
  ·exact sr (ck 1 (en (re (qR (qr (by cases H;exact ro rfl rd))))))
  ·exact sk (qN (qz (rz (ck 3 (ae (by cases H;exact og (sg [0,1,5])))))))
 ·exact ex 0 (qx (by cases H;exact xo rfl (sg [])))
theorem LZ {z} (H:Et n p0_ p1_=some z):AF Try.prog 45 [.d (.sl (p0_.map eS)),.d (.sl (p1_.map eS))] (.d (.bool z)):=by
 refine fO 26 (Jhg p0_ p1_) Try.func45 (sr (ck 1 (en (sq (sr (ck 1 (sp (Av eS p0_) (ck 1 (sp (Av eS p1_) (ck 1 (en (cn H (λ H=>?_) (λ H=>?_)))))))))))))
 ·exact sr (ck 1 (en (re (qr (by cases H;exact pr rd)))))
 ·refine sk (qz (sq (sr (ck 1 (en (bk 0 (bx H λ y56 h214 H=>?_)))))))
  rcases y56 with y57|y58
  ·exact lX II h214 (sg [0,1,5]) rfl λ s hE46=>qH (qs (hE46) (sr (ck 1 (en (re (by cases H;exact pr rd))))))
  ·exact lR II h214 (sg [0,1,5]) rfl λ s hE47=>qR (qr (by cases H;exact pr hE47))
end
section
variable (p0_:Ab) (p1_:(List Int))
def Jhj:St:=⟨(0,.agg [.d (.int .i64 p0_.Modes),.d (.int .u8 p0_.Accept),.d (.sl (p0_.Rules.map Ak))])::(1,.d (.sl (p1_.map eU8)))::[],[]⟩
variable {p0_ p1_}
theorem L3 {z} (H:G2 n p0_ p1_=some z):AF Try.prog 46 [.agg (AL p0_),.d (.sl (p1_.map eU8))] (.d (.bool z)):=by
 refine fO 21 (Jhj p0_ p1_) Try.func46 (sr (ck 2 (en (sq (sr (ck 1 (bx H λ r68 h215 H=>ca false (Ki h215) (ck 1 (en (cn H (λ H=>?_) (λ H=>?_)))))))))))
 ·exact sr (ck 1 (en (re (qr (by cases H;exact pr rd)))))
 ·exact sk (qz (sr (ck 1 (bx H λ r69 h216 H=>lt [] (KQ h216) (ck 1 (bx H λ r70 h217 H=>lt [1,2] (H6 h217) (tb (f:=HU (Ef [1,2] 3 2)) [some (.box (AL p0_)),some (.box (Ai r69 (.osl 2 1 0 (r69.Accepts.length)))),some (.arr 1 (r69.Accepts.map eB)),some (.narr 1 (r70.1.map (eTg 1 Ax)))] (po1 (po1 (po1 (pn1 (eTg 1 Ax) r70.1 (Pl.z))))) (ck 5 (en (sr (ck 2 (sp (Av eU8 p1_) (ck 2 (en (re (by cases H;exact pr rd))))))))))))))))
end
def Jhk:St:=⟨[],[]⟩
theorem SZ {z} (H:H3 n=some z):AF Try.prog 39 [] (.d (.bool z)):=by
 exact fO 119 Jhk Try.func39 (sr (ck 1 (en (sr (bx H λ r71 h218 H=>ca false (SW h218) (ck 2 (en (sr (ck 2 (bx H λ r72 h219 H=>cb (ks:=[1]) (obl:=[(0+List.length [1,3],List.length (List.map eU8 [1,3]))]) false (leK leM (leZ)) (DK rfl (DK MW rfl)) (IH h219) (Or.inr ⟨trivial,⟨trivial,⟨trivial,trivial⟩⟩⟩) rfl (ck 7 (en (sr (ck 2 (bx H λ r73 h220 H=>cb (ks:=[2]) (obl:=[(0+List.length [1,5],List.length (List.map eU8 [1,5]))]) false (leK leM (leZ)) (DK rfl (DK MW rfl)) (IH h220) (Or.inr ⟨trivial,⟨trivial,⟨trivial,trivial⟩⟩⟩) rfl (ck 7 (en (sr (ck 1 (bx H λ r74 h221 H=>ca false (IH h221) (ck 7 (en (sr (ck 2 (bx H λ r75 h222 H=>cb (ks:=[3]) (obl:=[(0+List.length [1,1],List.length (List.map eU8 [1,1]))]) false (leK leM (leZ)) (DK rfl (DK MW (DK rfl rfl))) (HF h222) (Or.inr ⟨(Jf4 λ _=>rfl),⟨trivial,trivial⟩⟩) rfl (ck 5 (en (sr (ck 2 (bx H λ r76 h223 H=>cb (ks:=[4]) (obl:=[(0+List.length [1,1],List.length (List.map eU8 [1,1]))]) false (leK leM (leZ)) (DK rfl (DK MW (DK rfl rfl))) (HF h223) (Or.inr ⟨(Jf4 λ _=>rfl),⟨trivial,trivial⟩⟩) rfl (ck 5 (en (sr (ck 1 (bx H λ r77 h224 H=>ca false (HF h224) (ck 5 (en (sr (ck 4 (gc 1 (r72.2.2==0) (pA (ck 2 (gc 1 ((r72.2.2==0)&&(r73.2.2==40)) (pA (ck 2 (gc 1 (((r72.2.2==0)&&(r73.2.2==40))&&(r74.2.2==0)) (pA (ck 2 (gc 1 ((((r72.2.2==0)&&(r73.2.2==40))&&(r74.2.2==0))&&(r75.2==0)) (pA (ck 2 (gc 1 (((((r72.2.2==0)&&(r73.2.2==40))&&(r74.2.2==0))&&(r75.2==0))&&(r76.2==2)) (pA (ck 1 (en (sr (ck 3 (gc 1 ((((((r72.2.2==0)&&(r73.2.2==40))&&(r74.2.2==0))&&(r75.2==0))&&(r76.2==2))&&(r77.2==1)) (pA (ck 2 (gc 1 (((((((r72.2.2==0)&&(r73.2.2==40))&&(r74.2.2==0))&&(r75.2==0))&&(r76.2==2))&&(r77.2==1))&&(r72.1==[97,98])) (pA (ck 2 (gc 1 ((((((((r72.2.2==0)&&(r73.2.2==40))&&(r74.2.2==0))&&(r75.2==0))&&(r76.2==2))&&(r77.2==1))&&(r72.1==[97,98]))&&(r72.2.1==2)) (pA (ck 2 (gc 1 (((((((((r72.2.2==0)&&(r73.2.2==40))&&(r74.2.2==0))&&(r75.2==0))&&(r76.2==2))&&(r77.2==1))&&(r72.1==[97,98]))&&(r72.2.1==2))&&(r73.1==[])) (pA (ck 2 (gc 1 ((((((((((r72.2.2==0)&&(r73.2.2==40))&&(r74.2.2==0))&&(r75.2==0))&&(r76.2==2))&&(r77.2==1))&&(r72.1==[97,98]))&&(r72.2.1==2))&&(r73.1==[]))&&(r73.2.1==1)) (pA (ck 2 (gc 1 (((((((((((r72.2.2==0)&&(r73.2.2==40))&&(r74.2.2==0))&&(r75.2==0))&&(r76.2==2))&&(r77.2==1))&&(r72.1==[97,98]))&&(r72.2.1==2))&&(r73.1==[]))&&(r73.2.1==1))&&(r74.1==[])) (pA (ck 3 (bx H λ r78 h225 H=>cG (ks:=[5]) (obl:=[(0+List.length ([[97,97],[97,98,97],[98,97,97],[98,97,98,97]]),List.length (List.map eS ([[97,97],[97,98,97],[98,97,97],[98,97,98,97]])))]) false (leK leM (leZ)) (DK rfl (DK MW rfl)) (λ hg=>LZ (C6 h225 hg)) (Or.inr trivial) (Cd (λ hh=>hh) (Cd (λ hh=>hh) (Ed))) rfl (pA (ck 3 (bx H λ r79 h226 H=>cG (ks:=[6]) (obl:=[(0+List.length [7,7],List.length (List.map eU8 [7,7]))]) false (leK leM (leZ)) (DK rfl (DK MW rfl)) (λ hg=>L3 (C6 h226 hg)) (Or.inr trivial) (Cd (λ hh=>hh) (Cd (λ hh=>hh) (Ed))) rfl (pA (ck 3 (bx H λ r80 h227 H=>cG (ks:=[7]) (obl:=[(0+List.length [2],List.length (List.map eU8 [2]))]) false (leK leM (leZ)) (DK rfl (DK MW rfl)) (λ hg=>L3 (C6 h227 hg)) (Or.inr trivial) (Cd (λ hh=>hh) (Cd (λ hh=>hh) (Ed))) rfl (gc 1 ((((((((((((((r72.2.2==0)&&(r73.2.2==40))&&(r74.2.2==0))&&(r75.2==0))&&(r76.2==2))&&(r77.2==1))&&(r72.1==[97,98]))&&(r72.2.1==2))&&(r73.1==[]))&&(r73.2.1==1))&&(r74.1==[]))&&(r74.2.1==0))&&r78)&&r79) (pA (ck 1 (en (re (by cases H;exact pr rd))))))))))))))))))))))))))))))))))))))))))))))))))))))))))))))))))))))))))))))))))))))))
section
variable (p0_:(List UInt8)) (p1_:(List Int)) (p2_:(FT Int))
def Jhl:St:=⟨(0,.d (.str p0_))::(1,.d (.sl (p1_.map eU8)))::(2,.agg [.d (.int .i64 p2_.a0),.d (.int .i64 p2_.a1)])::[],[]⟩
variable {p0_ p1_ p2_}
theorem AO {z} (H:A5 n p0_ p1_ p2_=some z):AF Try.prog 68 [.d (.str p0_),.d (.sl (p1_.map eU8)),.agg [.d (.int .i64 p2_.a0),.d (.int .i64 p2_.a1)]] (.agg [.d (.str z.Print),.d (.sl (z.Cells.map eU8)),.d (.int .u8 z.Left),.d (.int .u8 z.Right),.d (.int .i64 z.From),.d (.int .i64 z.To)]):=by
 exact fO 14 (Jhl p0_ p1_ p2_) Try.func68 (sr (ck 2 (en (sr (ck 8 (en (re (by cases H;exact pr rd))))))))
end
def Jhm:St:=⟨[],[]⟩
theorem R8 {z} (H:PS n=some z):AF Try.prog 66 [] (.own 6 (z.map Ak)):=by
 exact fO 16 Jhm Try.func66 (sr (ck 1 (en (sr (ck 3 (en (sr (sF (ck 1 (bx H λ r81 h228 H=>ca false (AO h228) (sF (ck 1 (bx H λ r82 h229 H=>ca false (AO h229) (sF (ck 1 (bx H λ r83 h230 H=>ca false (AO h230) (sF (ck 1 (bx H λ r84 h231 H=>ca false (AO h231) (ck 2 (en (re (by cases H;exact pr (rO (v:=.osl 1 6 0 (List.length [r81,r82,r83,r84])) [1] (ao vo)))))))))))))))))))))))))
section
variable (p0_:Int) (p1_:Int) (p2_:(FT Int))
def Jhn:St:=⟨(0,.d (.int .u8 p0_))::(1,.d (.int .i64 p1_))::(2,.agg [.d (.int .i64 p2_.a0),.d (.int .i64 p2_.a1)])::[],[]⟩
variable {p0_ p1_ p2_}
theorem GC {z} (H:GS n p0_ p1_ p2_=some z):AF Try.prog 67 [.d (.int .u8 p0_),.d (.int .i64 p1_),.agg [.d (.int .i64 p2_.a0),.d (.int .i64 p2_.a1)]] (.agg [.d (.str z.Print),.d (.sl (z.Cells.map eU8)),.d (.int .u8 z.Left),.d (.int .u8 z.Right),.d (.int .i64 z.From),.d (.int .i64 z.To)]):=by
 exact fO 16 (Jhn p0_ p1_ p2_) Try.func67 (sr (ck 2 (en (sr (ck 1 (sF (ck 1 (bx H λ r85 h232 H=>ca false (AO h232) (ck 2 (en (sr (ck 1 (bx H λ gd3 h233 H=>so (Jl h233) (ck 2 (en (sr (ck 2 (en (re (by cases H;exact pr rd))))))))))))))))))))
end
section
variable (p0_:Int) (l_7:(List Au))
def Jho:St:=⟨(0,.d (.int .u8 p0_))::[],[]⟩
def Jhp:St:=⟨(2,.ptr 0 0)::(3,.osl 1 6 0 (l_7.length))::[],[some (.box [.d (.int .i64 0),.d (.int .u8 0),.osl 2 6 0 (List.length ([]:List Au))]),some (.arr 6 (l_7.map Ak)),some (.arr 6 (List.map Ak ([]:List Au)))]⟩
variable {p0_ l_7}
theorem Wp {z} (H:Js n p0_=some z):AF Try.prog 50 [.d (.int .u8 p0_)] (.agg [.d (.int .i64 z.Modes),.d (.int .u8 z.Accept),.own 6 (z.Rules.map Ak)]):=by
 refine fO 121 (Jho p0_) Try.func50 (sr (ck 1 (en (sr (bx H λ r86 h234 H=>cl [List.length r86] (R8 h234) (ck 13 (en (sj (λ (x:(List Au))=>Jhp x) (λ (x:(List Au))=>FG n x) z ?_ (λ hFR2_Base_J1=>?_)))))))))
 ·intro l_7 H
  exact sr (ck 3 (en (re (by cases H;exact pr (rO (v:=.agg [.d (.int .i64 1),.d (.int .u8 1),.osl 1 6 0 (l_7.length)]) [1] (a1 (c1 vd (c1 vd (c1 vo (c0))))))))))
 refine sr (ck 2 (en (bk 0 (sr (ck 2 (en (cn H (λ H=>?_) (λ H=>?_))))))))
 ·exact sr (ck 2 (bx H λ r87 h235 H=>ca false (GC h235) (sF (ck 1 (bx H λ r88 h236 H=>ca false (AO h236) (sF (ck 1 (bx H λ r89 h237 H=>ca false (AO h237) (sF (ck 1 (bx H λ r90 h238 H=>ca false (AO h238) (ck 1 (bx H λ l41 h239 H=>sp (Bm Ak 1 6 h239) (ck 1 (en (sr (ck 3 (en (re (qR (qr (by cases H;exact pr (rO (v:=.agg [.d (.int .i64 2),.d (.int .u8 3),.osl 7 6 0 (l41.length)]) [7] (a1 (c1 vd (c1 vd (c1 vo (c0))))))))))))))))))))))))))))
 ·refine sr (ck 2 (en (cn H (λ H=>?_) (λ H=>?_))))
  ·exact sr (ck 2 (bx H λ r91 h240 H=>ca false (GC h240) (sF (ck 1 (bx H λ r92 h241 H=>ca false (AO h241) (sF (ck 1 (bx H λ r93 h242 H=>ca false (AO h242) (ck 1 (bx H λ l42 h243 H=>sp (Bm Ak 1 6 h243) (ck 1 (en (sr (ck 3 (en (re (qR (qr (by cases H;exact pr (rO (v:=.agg [.d (.int .i64 2),.d (.int .u8 1),.osl 7 6 0 (l42.length)]) [7] (a1 (c1 vd (c1 vd (c1 vo (c0)))))))))))))))))))))))))
  ·refine sr (ck 2 (en (cn H (λ H=>?_) (λ H=>?_))))
   ·exact rz (ck 1 (sF (ck 1 (bx H λ r94 h244 H=>ca false (AO h244) (sF (ck 1 (bx H λ r95 h245 H=>ca false (AO h245) (sF (ck 1 (bx H λ r96 h246 H=>ca false (AO h246) (ck 1 (bx H λ l43 h247 H=>sp (Bm Ak 1 6 h247) (ck 1 (ae (qN (qs (tr (Dh 0 2 6 (by kernel_rfl)) (sg [2,3])) (hFR2_Base_J1 l43 H)))))))))))))))))
   ·refine sr (ck 2 (en (cn H (λ H=>?_) (λ H=>?_))))
    ·exact rz (ck 1 (sF (ck 1 (bx H λ r97 h248 H=>ca false (AO h248) (ck 1 (bx H λ l44 h249 H=>sp (Bm Ak 1 6 h249) (ck 1 (ae (qN (qs (tr (Dh 0 2 6 (by kernel_rfl)) (sg [2,3])) (hFR2_Base_J1 l44 H)))))))))))
    ·refine sr (ck 2 (en (cn H (λ H=>?_) (λ H=>?_))))
     ·exact sr (sF (ck 1 (bx H λ r98 h250 H=>ca false (AO h250) (sF (ck 1 (bx H λ r99 h251 H=>ca false (AO h251) (ck 4 (en (sr (ck 4 (en (rz (ck 3 (sF (ck 1 (bx H λ r100 h252 H=>ca false (AO h252) (ck 1 (bx H λ l45 h253 H=>sp (Bm Ak 1 6 h253) (ck 1 (ae (qN (qs (tr (Dh 0 2 6 (by kernel_rfl)) (sg [2,3])) (hFR2_Base_J1 l45 H)))))))))))))))))))))))
     ·refine sr (ck 2 (en (cn H (λ H=>?_) (λ H=>?_))))
      ·exact sr (ck 2 (bx H λ r101 h254 H=>ca false (GC h254) (sF (ck 1 (bx H λ r102 h255 H=>ca false (AO h255) (sF (ck 1 (bx H λ r103 h256 H=>ca false (AO h256) (ck 1 (bx H λ l46 h257 H=>sp (Bm Ak 1 6 h257) (ck 1 (en (sr (ck 3 (en (re (qR (qr (by cases H;exact pr (rO (v:=.agg [.d (.int .i64 2),.d (.int .u8 1),.osl 7 6 0 (l46.length)]) [7] (a1 (c1 vd (c1 vd (c1 vo (c0)))))))))))))))))))))))))
      ·refine sr (ck 2 (en (cn H (λ H=>?_) (λ H=>?_))))
       ·exact rz (ck 1 (sF (ck 1 (bx H λ r104 h258 H=>ca false (AO h258) (sF (ck 1 (bx H λ r105 h259 H=>ca false (AO h259) (sF (ck 1 (bx H λ r106 h260 H=>ca false (AO h260) (ck 1 (bx H λ l47 h261 H=>sp (Bm Ak 1 6 h261) (ck 1 (ae (qN (qs (tr (Dh 0 2 6 (by kernel_rfl)) (sg [2,3])) (hFR2_Base_J1 l47 H)))))))))))))))))
       ·exact sk (qN (qs (tr (Dh 0 2 6 (by kernel_rfl)) (sg [2,3])) (hFR2_Base_J1 r86 H)))
end
section
variable (p0_:DE) (p1_:Int) (out_1:Au) (i_4:Int) (out_2:Au) (out_3:Au) (i_5:Int) (out_4:Au)
def Jhq:St:=⟨(0,.agg [.d (.sl (p0_.P.map eU8)),.d (.sl (p0_.C.map eU8)),.d (.int .u8 p0_.L),.d (.int .u8 p0_.R),.d (.int .u8 p0_.W.a0),.d (.int .u8 p0_.W.a1)])::(1,.d (.int .i64 p1_))::[],[]⟩
def Jhr:St:=⟨(2,.ptr 0 0)::(4,.ptr 1 0)::(5,.d (.str [97,98,99,65,66,49,50,45,46]))::(7,.ptr 2 0)::(8,.d (.int .i64 i_4))::[],[some (.box (Oh p0_)),some (.box [.d (.str []),.osl 3 1 0 (List.length ([]:List Int)),.d (.int .u8 0),.d (.int .u8 0),.d (.int .i64 0),.d (.int .i64 0)]),some (.box (QM out_1 (.osl 4 1 0 (out_1.Cells.length)))),some (.arr 1 (List.map eU8 ([]:List Int))),some (.arr 1 (out_1.Cells.map eU8))]⟩
def Jhs:St:=⟨(2,.ptr 0 0)::(4,.ptr 1 0)::(7,.ptr 2 0)::[],[some (.box (Oh p0_)),some (.box [.d (.str []),.osl 3 1 0 (List.length ([]:List Int)),.d (.int .u8 0),.d (.int .u8 0),.d (.int .i64 0),.d (.int .i64 0)]),some (.box (QM out_2 (.osl 4 1 0 (out_2.Cells.length)))),some (.arr 1 (List.map eU8 ([]:List Int))),some (.arr 1 (out_2.Cells.map eU8))]⟩
def S0:Au->Ex->St->Prop:=xX 0 0 (λ (y:Au)=>Jhs p0_ y)
def MZ:(Au×Int)->St:=(λ (x:(Au×Int))=>Jhr p0_ x.1 x.2)
def Jht:St:=⟨(2,.ptr 0 0)::(4,.ptr 1 0)::(7,.ptr 2 0)::(10,.osl 3 1 0 (List.length [1,3,9,5,7,32,44,60]))::(11,.d (.int .i64 i_5))::[],[some (.box (Oh p0_)),some (.box [.d (.str []),.osl 4 1 0 (List.length ([]:List Int)),.d (.int .u8 0),.d (.int .u8 0),.d (.int .i64 0),.d (.int .i64 0)]),some (.box (QM out_3 (.osl 5 1 0 (out_3.Cells.length)))),some (.arr 1 (List.map eU8 [1,3,9,5,7,32,44,60])),some (.arr 1 (List.map eU8 ([]:List Int))),some (.arr 1 (out_3.Cells.map eU8))]⟩
def Jhu:St:=⟨(4,.ptr 0 0)::(7,.ptr 1 0)::[],[some (.box [.d (.str []),.osl 2 1 0 (List.length ([]:List Int)),.d (.int .u8 0),.d (.int .u8 0),.d (.int .i64 0),.d (.int .i64 0)]),some (.box (QM out_4 (.osl 3 1 0 (out_4.Cells.length)))),some (.arr 1 (List.map eU8 ([]:List Int))),some (.arr 1 (out_4.Cells.map eU8))]⟩
def S1:Au->Ex->St->Prop:=xX 0 2 (λ (y:Au)=>Jhu y)
def M0:(Au×Int)->St:=(λ (x:(Au×Int))=>Jht p0_ x.1 x.2)
variable {p0_ p1_ out_1 i_4 out_2 out_3 i_5 out_4}
theorem R9 (x:(Au×Int)) (z:((Au×Int)⊕Au)) (H:FH n p0_ x.1 x.2=some z):WP (cxk 101 0) (AC Try.f37) [1,1,1,0,1,0,0] (AJ 0 (MZ p0_) (S0 p0_) z) (MZ p0_ x):=by
 obtain ⟨out_1,i_4⟩:=x
 refine sq (sr (ck 3 (sp (Av eU8 p0_.P) (ck 3 (gc 1 (decide (i_4<((p0_.P.length:Nat):Int))) (pA (en (cn H (λ H=>?_) (λ H=>?_)))))))))
 ·exact sk (qz (sq (bk 1 (sr (ck 3 (bx H λ x61 h266 H=>sp (AA eU8 h266) (ck 4 (en (rz (ck 6 (bx H λ s5 h267 H=>sp (YA h267) (bx H λ s6 h268 H=>sp (XI h268) (ck 2 (ae (qN (qz (rz (ck 3 (ae (by cases H;exact og (sg [2,4,5,7,8])))))))))))))))))))))
 ·exact ex 0 (qx (by cases H;exact xo rfl (sg [2,4,7])))
theorem Sa (x:(Au×Int)) (z:((Au×Int)⊕Au)) (H:FI n p0_ x.1 x.2=some z):WP (cxk 101 0) (AC Try.f37) [1,1,1,1,1,1,0,1,0,0] (AJ 0 (M0 p0_) (S1) z) (M0 p0_ x):=by
 obtain ⟨out_3,i_5⟩:=x
 refine sq (sr (ck 3 (sp (Av eU8 p0_.C) (ck 3 (gc 1 (decide (i_5<((p0_.C.length:Nat):Int))) (pA (en (cn H (λ H=>?_) (λ H=>?_)))))))))
 ·exact sk (qz (sq (bk 3 (rz (ck 6 (bx H λ x63 h271 H=>sp (AA eU8 h271) (ck 2 (bx H λ x64 h272 H=>sp (Bc 3 1 h272) (sp (DD eU8 3 0 (ty 64) h272) (ck 1 (bx H λ l48 h273 H=>sp (Bm eU8 5 1 h273) (ck 2 (ae (qN (qz (rz (ck 3 (ae (by cases H;exact og (sg [2,4,7,10,11]))))))))))))))))))))
 ·exact ex 2 (qx (by cases H;exact xo rfl (sg [4,7])))
theorem Wq {z} (H:Od n p0_ p1_=some z):AF Try.prog 37 [.agg (Oh p0_),.d (.int .i64 p1_)] (.agg [.d (.str z.Print),.own 1 (z.Cells.map eU8),.d (.int .u8 z.Left),.d (.int .u8 z.Right),.d (.int .i64 z.From),.d (.int .i64 z.To)]):=by
 exact fO 101 (Jhq p0_ p1_) Try.func37 (sr (ck 2 (en (sr (ck 3 (en (sr (ck 4 (bx H λ x59 h262 H=>sp (Bc 2 1 h262) (sp (DD eU8 2 0 (ty 5) h262) (ck 4 (bx H λ x60 h263 H=>sp (Bc 2 1 h263) (sp (DD eU8 2 0 (ty 5) h263) (ck 5 (bx H λ gd4 h264 H=>so (RM h264) (ck 5 (bx H λ gd5 h265 H=>so (RM h265) (ck 3 (en (sq (sr (ck 1 (en (bk 0 (bx H λ y59 h269 H=>lX R9 h269 (tr (tr (Dh 1 1 1 (by kernel_rfl)) (Dh 3 1 1 (by kernel_rfl))) (sg [2,4,5,7,8])) rfl λ s hE48=>qH (qs (hE48) (sr (ck 2 (en (sr (ck 5 (bx H λ x62 h270 H=>sp (Bc 5 1 h270) (sp (DD eU8 5 0 (ty 64) h270) (ck 3 (en (sq (sr (ck 1 (en (bk 2 (bx H λ y60 h274 H=>lX Sa h274 (sg [2,4,7,10,11]) rfl λ s hE49=>qH (qs (hE49) (sr (ck 2 (en (re (by cases H;exact pr (rO (v:=.agg [.d (.str z.Print),.osl 3 1 0 (z.Cells.length),.d (.int .u8 z.Left),.d (.int .u8 z.Right),.d (.int .i64 z.From),.d (.int .i64 z.To)]) [3] (a1 (c1 vd (c1 vo (c1 vd (c1 vd (c1 vd (c1 vd (c0))))))))))))))))))))))))))))))))))))))))))))))))))))))))
end
section
variable (p0_:Int)
def Jhv:St:=⟨(0,.d (.int .u8 p0_))::[],[]⟩
variable {p0_}
theorem Pb {z} (H:IW n p0_=some z):AF Try.prog 69 [.d (.int .u8 p0_)] (.d (.bool z)):=by
 exact fO 11 (Jhv p0_) Try.func69 (sr (ck 1 (en (sr (ck 5 (gc 2 (decide (CB .u8 p0_ 127>=32)) (pA (ck 1 (en (re (by cases H;exact pr rd)))))))))))
end
section
variable (p0_:(List UInt8)) (i_6:Int)
def Jhw:St:=⟨(0,.d (.str p0_))::[],[]⟩
def Jhx:St:=⟨(0,.d (.str p0_))::(4,.d (.int .i64 i_6))::[],[]⟩
def Jhy:St:=⟨(0,.d (.str p0_))::[],[]⟩
def S2:(Unit⊕(Int×Int))->Ex->St->Prop:=xS (xX 0 0 (λ (y:Unit)=>Jhy p0_)) (xR ty Try.f56 (λ (y:(Int×Int))=>.tup [.d (.int .i64 y.1),.d (.int .i64 y.2)]))
def M4:Int->St:=(λ (x:Int)=>Jhx p0_ x)
variable {p0_ i_6}
theorem L4 (x:Int) (z:(Int⊕(Unit⊕(Int×Int)))) (H:IB n p0_ x=some z):WP (cxk 19 0) (AC Try.f56) [1,0,1,0,0] (AJ 0 (M4 p0_) (S2 p0_) z) (M4 p0_ x):=by
 revert H
 generalize x=i_6
 intro H
 refine sq (sr (ck 4 (en (cn H (λ H=>?_) (λ H=>?_)))))
 ·refine sk (qz (sq (bk 1 (sr (ck 2 (bx H λ b8 h275 H=>sp (GP h275) (bx H λ r107 h276 H=>ca false (Pb h276) (ck 1 (en (cn H (λ H=>?_) (λ H=>?_)))))))))))
  ·exact sr (ck 3 (en (re (qR (qr (by cases H;exact ro rfl rdT))))))
  ·exact sk (qN (qz (rz (ck 3 (ae (by cases H;exact og (sg [0,4])))))))
 ·exact ex 0 (qx (by cases H;exact xo rfl (sg [0])))
theorem Ws {z} (H:Oe n p0_=some z):AF Try.prog 56 [.d (.str p0_)] (.tup [.d (.int .i64 z.1),.d (.int .i64 z.2)]):=by
 refine fO 19 (Jhw p0_) Try.func56 (sr (ck 2 (en (sq (sr (ck 1 (en (bk 0 (bx H λ y61 h277 H=>?_)))))))))
 rcases y61 with y62|y63
 ·exact lX L4 h277 (sg [0,4]) rfl λ s hE50=>qH (qs (hE50) (sr (ck 4 (en (re (by cases H;exact pr rdT))))))
 ·exact lR L4 h277 (sg [0,4]) rfl λ s hE51=>qR (qr (by cases H;exact pr hE51))
end
section
variable (p0_:(List UInt8))
def Jhz:St:=⟨(0,.d (.str p0_))::[],[]⟩
variable {p0_}
theorem S3 {z} (H:Kg n p0_=some z):AF Try.prog 36 [.d (.str p0_)] (.d (.bool z)):=by
 exact fO 12 (Jhz p0_) Try.func36 (sr (ck 1 (en (sr (ck 1 (bx H λ r108 h278 H=>ca false (Ws h278) (ck 5 (en (sr (ck 3 (en (re (by cases H;exact pr rd)))))))))))))
end
section
variable (p0_:Int)
def JhA:St:=⟨(0,.d (.int .u8 p0_))::[],[]⟩
variable {p0_}
theorem UO {z} (H:O4 n p0_=some z):AF Try.prog 35 [.d (.int .u8 p0_)] (.d (.bool z)):=by
 exact fO 6 (JhA p0_) Try.func35 (sr (ck 1 (en (sr (ck 4 (en (re (by cases H;exact pr rd))))))))
end
section
variable (p0_:Au) (p1_:Int) (space_1:Bool) (i_7:Int) (space_2:Bool) (y64:Bool) (blank_1:Bool) (i_8:Int) (blank_2:Bool)
def JhB:St:=⟨(0,.agg [.d (.str p0_.Print),.d (.sl (p0_.Cells.map eU8)),.d (.int .u8 p0_.Left),.d (.int .u8 p0_.Right),.d (.int .i64 p0_.From),.d (.int .i64 p0_.To)])::(1,.d (.int .i64 p1_))::[],[]⟩
def JhC:St:=⟨(2,.ptr 0 0)::(5,.d (.bool space_1))::(6,.d (.bool false))::(7,.d (.int .i64 i_7))::[],[some (.box (LD p0_))]⟩
def JhD:St:=⟨(2,.ptr 0 0)::(5,.d (.bool space_2))::(6,.d (.bool false))::[],[some (.box (LD p0_))]⟩
def Sb:Bool->Ex->St->Prop:=xX 0 0 (λ (y:Bool)=>JhD p0_ y)
def L5:(Bool×Int)->St:=(λ (x:(Bool×Int))=>JhC p0_ x.1 x.2)
def JhE:St:=⟨(2,.ptr 0 0)::(5,.d (.bool y64))::(6,.d (.bool blank_1))::(8,.d (.int .i64 i_8))::[],[some (.box (LD p0_))]⟩
def JhF:St:=⟨(2,.ptr 0 0)::(5,.d (.bool y64))::(6,.d (.bool blank_2))::[],[some (.box (LD p0_))]⟩
def Sc:(Bool⊕Bool)->Ex->St->Prop:=xS (xX 0 2 (λ (y:Bool)=>JhF p0_ y64 y)) (xR ty Try.f70 (λ (y:Bool)=>.d (.bool y)))
def L6:(Bool×Int)->St:=(λ (x:(Bool×Int))=>JhE p0_ y64 x.1 x.2)
variable {p0_ p1_ space_1 i_7 space_2 y64 blank_1 i_8 blank_2}
theorem Qd (x:(Bool×Int)) (z:((Bool×Int)⊕Bool)) (H:EO n p0_ x.1 x.2=some z):WP (cxk 125 0) (AC Try.f70) [1,1,1,1,0,1,0,0] (AJ 0 (L5 p0_) (Sb p0_) z) (L5 p0_ x):=by
 obtain ⟨space_1,i_7⟩:=x
 refine sq (sr (ck 5 (en (cn H (λ H=>?_) (λ H=>?_)))))
 ·exact sk (qz (sq (bk 1 (rz (ck 3 (gc 1 (!space_1) (ck 1 (bx H λ b9 h280 H=>sE (λ hg=>GP (C6 h280 hg)) (bx H λ r110 h281 H=>cG false (leZ) rfl (λ hg=>UO (C6 h281 hg)) (Or.inl rfl) (Cd (λ hh=>hh) (Ed)) rfl (pO (ck 1 (ae (qN (qz (rz (ck 3 (ae (by cases H;exact og (sg [2,5,6,7])))))))))))))))))))
 ·exact ex 0 (qx (by cases H;exact xo rfl (sg [2,5,6])))
theorem KR (x:(Bool×Int)) (z:((Bool×Int)⊕(Bool⊕Bool))) (H:DS n p0_ y64 x.1 x.2=some z):WP (cxk 125 0) (AC Try.f70) [1,1,1,1,1,0,1,0,0] (AJ 0 (L6 p0_ y64) (Sc p0_ y64) z) (L6 p0_ y64 x):=by
 obtain ⟨blank_1,i_8⟩:=x
 refine sq (sr (ck 3 (sp (Av eU8 p0_.Cells) (ck 1 (en (cn H (λ H=>?_) (λ H=>?_)))))))
 ·refine sk (qz (sq (bk 3 (sq (sr (ck 3 (bx H λ x65 h283 H=>sp (AA eU8 h283) (ck 2 (en (cn H (λ H=>?_) (λ H=>?_)))))))))))
  ·exact sr (ck 1 (en (re (qr (qR (qr (by cases H;exact ro rfl rd)))))))
  ·exact sk (qz (rz (ck 3 (gc 1 (!blank_1) (ck 1 (bx H λ x66 h284 H=>sE (λ hg=>AA eU8 (C6 h284 hg)) (gc 2 (!blank_1) (pO (ck 1 (ae (qN (qz (rz (ck 3 (ae (by cases H;exact og (sg [2,5,6,8])))))))))))))))))
 ·exact ex 2 (qx (by cases H;exact xo rfl (sg [2,5,6])))
theorem UP {z} (H:MB n p0_ p1_=some z):AF Try.prog 70 [.agg (LD p0_),.d (.int .i64 p1_)] (.d (.bool z)):=by
 refine fO 125 (JhB p0_ p1_) Try.func70 (sr (ck 2 (en (sq (sr (ck 2 (bx H λ r109 h279 H=>ca false (S3 h279) (ck 3 (gc 3 (!(!r109)) (pO (ck 2 (gc 1 (!((!r109)||(decide (((p0_.Print.length:Nat):Int)>4)))) (sE (g:=(!((!r109)||(decide (((p0_.Print.length:Nat):Int)>4))))) (λ hg=>Av eU8 p0_.Cells) (gc 1 (!((!r109)||(decide (((p0_.Print.length:Nat):Int)>4)))) (pO (ck 2 (gc 1 (!(((!r109)||(decide (((p0_.Print.length:Nat):Int)>4)))||(decide (((p0_.Cells.length:Nat):Int)<1)))) (sE (g:=(!(((!r109)||(decide (((p0_.Print.length:Nat):Int)>4)))||(decide (((p0_.Cells.length:Nat):Int)<1))))) (λ hg=>Av eU8 p0_.Cells) (gc 1 (!(((!r109)||(decide (((p0_.Print.length:Nat):Int)>4)))||(decide (((p0_.Cells.length:Nat):Int)<1)))) (pO (en (cn H (λ H=>?_) (λ H=>?_)))))))))))))))))))))))
 ·exact sr (ck 1 (en (re (qr (by cases H;exact pr rd)))))
 ·refine sk (qz (sq (sr (ck 5 (gc 2 (!(decide (p0_.Left<1))) (pO (ck 2 (gc 2 (!((decide (p0_.Left<1))||(decide (p0_.Left>63)))) (pO (ck 2 (gc 2 (!(((decide (p0_.Left<1))||(decide (p0_.Left>63)))||(decide (p0_.Right<1)))) (pO (ck 2 (gc 2 (!((((decide (p0_.Left<1))||(decide (p0_.Left>63)))||(decide (p0_.Right<1)))||(decide (p0_.Right>63)))) (pO (ck 2 (gc 1 (!(((((decide (p0_.Left<1))||(decide (p0_.Left>63)))||(decide (p0_.Right<1)))||(decide (p0_.Right>63)))||(decide (p0_.From<0)))) (ck 1 (gc 1 (!(((((decide (p0_.Left<1))||(decide (p0_.Left>63)))||(decide (p0_.Right<1)))||(decide (p0_.Right>63)))||(decide (p0_.From<0)))) (pO (ck 2 (gc 2 (!((((((decide (p0_.Left<1))||(decide (p0_.Left>63)))||(decide (p0_.Right<1)))||(decide (p0_.Right>63)))||(decide (p0_.From<0)))||(decide (p0_.From>=p1_)))) (pO (ck 2 (gc 1 (!(((((((decide (p0_.Left<1))||(decide (p0_.Left>63)))||(decide (p0_.Right<1)))||(decide (p0_.Right>63)))||(decide (p0_.From<0)))||(decide (p0_.From>=p1_)))||(decide (p0_.To<0)))) (ck 1 (gc 1 (!(((((((decide (p0_.Left<1))||(decide (p0_.Left>63)))||(decide (p0_.Right<1)))||(decide (p0_.Right>63)))||(decide (p0_.From<0)))||(decide (p0_.From>=p1_)))||(decide (p0_.To<0)))) (pO (en (cn H (λ H=>?_) (λ H=>?_)))))))))))))))))))))))))))))))
  ·exact sr (ck 1 (en (re (qr (by cases H;exact pr rd)))))
  ·refine sk (qz (sr (ck 2 (en (sq (sr (ck 1 (en (bk 0 (bx H λ y64 h282 H=>lX Qd h282 (sg [2,5,6,7]) rfl λ s hE52=>qH (qs (hE52) (sq (sr (ck 1 (en (bk 2 (bx H λ y65 h285 H=>?_)))))))))))))))))
   rcases y65 with y66|y67
   ·refine lX KR h285 (sg [2,5,6,8]) rfl λ s hE53=>qH (qs (hE53) (sq (sr (ck 2 (en (cn H (λ H=>?_) (λ H=>?_)))))))
    ·exact sr (ck 3 (en (re (qr (by cases H;exact pr rd)))))
    ·exact sk (qz (sr (ck 6 (gc 1 (((p0_.Print.length:Nat):Int)==1) (sE (g:=(((p0_.Print.length:Nat):Int)==1)) (λ hg=>Av eU8 p0_.Cells) (gc 1 (((p0_.Print.length:Nat):Int)==1) (pA (ck 2 (pA (ck 1 (en (re (by cases H;exact pr rd)))))))))))))
   ·exact lR KR h285 (sg [2,5,6,8]) rfl λ s hE54=>qR (qr (by cases H;exact pr hE54))
end
section
variable (p0_:(List Int)) (p1_:(List Int)) (i_9:Int)
def JhG:St:=⟨(0,.d (.sl (p0_.map eU8)))::(1,.d (.sl (p1_.map eU8)))::[],[]⟩
def JhH:St:=⟨(0,.d (.sl (p0_.map eU8)))::(1,.d (.sl (p1_.map eU8)))::(5,.d (.int .i64 i_9))::[],[]⟩
def JhI:St:=⟨[],[]⟩
def Nw:(Unit⊕Bool)->Ex->St->Prop:=xS (xX 0 0 (λ (y:Unit)=>JhI)) (xR ty Try.f49 (λ (y:Bool)=>.d (.bool y)))
def H7:Int->St:=(λ (x:Int)=>JhH p0_ p1_ x)
variable {p0_ p1_ i_9}
theorem Hv (x:Int) (z:(Int⊕(Unit⊕Bool))) (H:EP n p0_ p1_ x=some z):WP (cxk 26 0) (AC Try.f49) [1,1,0,1,0,0] (AJ 0 (H7 p0_ p1_) (Nw) z) (H7 p0_ p1_ x):=by
 revert H
 generalize x=i_9
 intro H
 refine sq (sr (ck 2 (sp (Av eU8 p0_) (ck 1 (en (cn H (λ H=>?_) (λ H=>?_)))))))
 ·refine sk (qz (sq (bk 1 (sr (ck 2 (bx H λ x67 h286 H=>sp (AA eU8 h286) (ck 3 (bx H λ x68 h287 H=>sp (AA eU8 h287) (ck 2 (en (cn H (λ H=>?_) (λ H=>?_))))))))))))
  ·exact sr (ck 1 (en (re (qR (qr (by cases H;exact ro rfl rd))))))
  ·exact sk (qN (qz (rz (ck 3 (ae (by cases H;exact og (sg [0,1,5])))))))
 ·exact ex 0 (qx (by cases H;exact xo rfl (sg [])))
theorem Pc {z} (H:GT n p0_ p1_=some z):AF Try.prog 49 [.d (.sl (p0_.map eU8)),.d (.sl (p1_.map eU8))] (.d (.bool z)):=by
 refine fO 26 (JhG p0_ p1_) Try.func49 (sr (ck 1 (en (sq (sr (ck 1 (sp (Av eU8 p0_) (ck 1 (sp (Av eU8 p1_) (ck 1 (en (cn H (λ H=>?_) (λ H=>?_)))))))))))))
 ·exact sr (ck 1 (en (re (qr (by cases H;exact pr rd)))))
 ·refine sk (qz (sq (sr (ck 1 (en (bk 0 (bx H λ y68 h288 H=>?_)))))))
  rcases y68 with y69|y70
  ·exact lX Hv h288 (sg [0,1,5]) rfl λ s hE55=>qH (qs (hE55) (sr (ck 1 (en (re (by cases H;exact pr rd))))))
  ·exact lR Hv h288 (sg [0,1,5]) rfl λ s hE56=>qR (qr (by cases H;exact pr hE56))
end
section
variable (p0_:Au) (p1_:Au)
def JhJ:St:=⟨(0,.agg [.d (.str p0_.Print),.d (.sl (p0_.Cells.map eU8)),.d (.int .u8 p0_.Left),.d (.int .u8 p0_.Right),.d (.int .i64 p0_.From),.d (.int .i64 p0_.To)])::(1,.agg [.d (.str p1_.Print),.d (.sl (p1_.Cells.map eU8)),.d (.int .u8 p1_.Left),.d (.int .u8 p1_.Right),.d (.int .i64 p1_.From),.d (.int .i64 p1_.To)])::[],[]⟩
variable {p0_ p1_}
theorem Qe {z} (H:HA n p0_ p1_=some z):AF Try.prog 71 [.agg (LD p0_),.agg (LD p1_)] (.d (.bool z)):=by
 exact fO 45 (JhJ p0_ p1_) Try.func71 (sr (ck 3 (en (sr (ck 7 (gc 1 (p0_.Print==p1_.Print) (ck 1 (gc 1 (p0_.Print==p1_.Print) (bx H λ r111 h289 H=>cG false (leZ) rfl (λ hg=>Pc (C6 h289 hg)) (Or.inl rfl) (Cd (λ hh=>hh) (Cd (λ hh=>hh) (Ed))) rfl (pA (ck 2 (gc 1 ((p0_.Print==p1_.Print)&&r111) (ck 1 (gc 2 ((p0_.Print==p1_.Print)&&r111) (pA (ck 2 (gc 1 (((p0_.Print==p1_.Print)&&r111)&&(p0_.Left==p1_.Left)) (ck 1 (gc 2 (((p0_.Print==p1_.Print)&&r111)&&(p0_.Left==p1_.Left)) (pA (ck 2 (gc 1 ((((p0_.Print==p1_.Print)&&r111)&&(p0_.Left==p1_.Left))&&(p0_.Right==p1_.Right)) (ck 1 (gc 2 ((((p0_.Print==p1_.Print)&&r111)&&(p0_.Left==p1_.Left))&&(p0_.Right==p1_.Right)) (pA (ck 2 (gc 1 (((((p0_.Print==p1_.Print)&&r111)&&(p0_.Left==p1_.Left))&&(p0_.Right==p1_.Right))&&(p0_.From==p1_.From)) (ck 1 (gc 2 (((((p0_.Print==p1_.Print)&&r111)&&(p0_.Left==p1_.Left))&&(p0_.Right==p1_.Right))&&(p0_.From==p1_.From)) (pA (ck 1 (en (re (by cases H;exact pr rd))))))))))))))))))))))))))))))))))
end
section
variable (p0_:Ab) (i_10:Int) (k_2:Int)
def JhK:St:=⟨(0,.agg [.d (.int .i64 p0_.Modes),.d (.int .u8 p0_.Accept),.d (.sl (p0_.Rules.map Ak))])::[],[]⟩
def JhL:St:=⟨(1,.ptr 0 0)::(4,.d (.int .i64 i_10))::[],[some (.box (AL p0_))]⟩
def JhM:St:=⟨[],[]⟩
def JhN:St:=⟨(1,.ptr 0 0)::(4,.d (.int .i64 i_10))::(5,.d (.int .i64 k_2))::[],[some (.box (AL p0_))]⟩
def JhO:St:=⟨(1,.ptr 0 0)::(4,.d (.int .i64 i_10))::[],[some (.box (AL p0_))]⟩
def Sd:(Unit⊕(Int×Int))->Ex->St->Prop:=xS (xX 0 2 (λ (y:Unit)=>JhO p0_ i_10)) (xR ty Try.f57 (λ (y:(Int×Int))=>.tup [.d (.int .i64 y.1),.d (.int .i64 y.2)]))
def L7:Int->St:=(λ (x:Int)=>JhN p0_ i_10 x)
def Se:(Unit⊕(Int×Int))->Ex->St->Prop:=xS (xX 0 0 (λ (y:Unit)=>JhM)) (xR ty Try.f57 (λ (y:(Int×Int))=>.tup [.d (.int .i64 y.1),.d (.int .i64 y.2)]))
def L8:Int->St:=(λ (x:Int)=>JhL p0_ x)
variable {p0_ i_10 k_2}
theorem KS (x:Int) (z:(Int⊕(Unit⊕(Int×Int)))) (H:F4 n p0_ i_10 x=some z):WP (cxk 74 0) (AC Try.f57) [1,1,0,1,0,0,1,0,0,1,1,0,0] (AJ 0 (L7 p0_ i_10) (Sd p0_ i_10) z) (L7 p0_ i_10 x):=by
 revert H
 generalize x=k_2
 intro H
 refine sq (sr (ck 3 (en (cn H (λ H=>?_) (λ H=>?_)))))
 ·refine sk (qz (sq (bk 3 (sr (ck 3 (bx H λ x70 h293 H=>sp (AA Ak h293) (ck 4 (bx H λ x71 h294 H=>sp (AA Ak h294) (ck 1 (bx H λ r113 h295 H=>ca false (Qe h295) (en (cn H (λ H=>?_) (λ H=>?_)))))))))))))
  ·exact sr (ck 3 (en (re (qR (qr (by cases H;exact ro rfl rdT))))))
  ·exact sk (qN (qz (rz (ck 3 (ae (by cases H;exact og (sg [1,4,5])))))))
 ·exact ex 2 (qx (by cases H;exact xo rfl (sg [1,4])))
theorem KT (x:Int) (z:(Int⊕(Unit⊕(Int×Int)))) (H:F5 n p0_ x=some z):WP (cxk 74 0) (AC Try.f57) [1,1,0,1,0,0] (AJ 0 (L8 p0_) (Se) z) (L8 p0_ x):=by
 revert H
 generalize x=i_10
 intro H
 refine sq (sr (ck 3 (sp (Av Ak p0_.Rules) (ck 1 (en (cn H (λ H=>?_) (λ H=>?_)))))))
 ·refine sk (qz (sq (bk 1 (sq (sr (ck 3 (bx H λ x69 h291 H=>sp (AA Ak h291) (ck 3 (bx H λ r112 h292 H=>ca false (UP h292) (ck 1 (en (cn H (λ H=>?_) (λ H=>?_)))))))))))))
  ·exact sr (ck 3 (en (re (qr (qR (qr (by cases H;exact ro rfl rdT)))))))
  ·refine sk (qz (sr (ck 1 (en (bk 2 (bx H λ y71 h296 H=>?_))))))
   rcases y71 with y72|y73
   ·exact lX KS h296 (sg [1,4,5]) rfl λ s hE57=>qH (qN (qs (hE57) (rz (ck 3 (ae (by cases H;exact og (sg [1,4])))))))
   ·exact lR KS h296 (sg [1,4,5]) rfl λ s hE58=>qR (qR (qr (by cases H;exact ro rfl hE58)))
 ·exact ex 0 (qx (by cases H;exact xo rfl (sg [])))
theorem UQ {z} (H:MC n p0_=some z):AF Try.prog 57 [.agg (AL p0_)] (.tup [.d (.int .i64 z.1),.d (.int .i64 z.2)]):=by
 refine fO 74 (JhK p0_) Try.func57 (sr (ck 3 (en (sq (sr (ck 5 (gc 2 (!(decide (p0_.Modes<1))) (pO (ck 2 (gc 2 (!((decide (p0_.Modes<1))||(decide (p0_.Modes>8)))) (pO (ck 2 (gc 2 (!(((decide (p0_.Modes<1))||(decide (p0_.Modes>8)))||(p0_.Accept==0))) (ck 1 (gc 1 (!(((decide (p0_.Modes<1))||(decide (p0_.Modes>8)))||(p0_.Accept==0))) (bx H λ gd6 h290 H=>soG (λ hg=>Jl (C6 h290 hg)) (Cd (λ hh=>hh) (Ed)) (gc 1 (!(((decide (p0_.Modes<1))||(decide (p0_.Modes>8)))||(p0_.Accept==0))) (pO (ck 2 (gc 1 (!((((decide (p0_.Modes<1))||(decide (p0_.Modes>8)))||(p0_.Accept==0))||(decide (IntKind.i64.wrap p0_.Accept>=Ry .i64 1 p0_.Modes)))) (sE (g:=(!((((decide (p0_.Modes<1))||(decide (p0_.Modes>8)))||(p0_.Accept==0))||(decide (IntKind.i64.wrap p0_.Accept>=Ry .i64 1 p0_.Modes))))) (λ hg=>Av Ak p0_.Rules) (gc 1 (!((((decide (p0_.Modes<1))||(decide (p0_.Modes>8)))||(p0_.Accept==0))||(decide (IntKind.i64.wrap p0_.Accept>=Ry .i64 1 p0_.Modes)))) (pO (ck 2 (gc 1 (!(((((decide (p0_.Modes<1))||(decide (p0_.Modes>8)))||(p0_.Accept==0))||(decide (IntKind.i64.wrap p0_.Accept>=Ry .i64 1 p0_.Modes)))||(decide (((p0_.Rules.length:Nat):Int)<1)))) (sE (g:=(!(((((decide (p0_.Modes<1))||(decide (p0_.Modes>8)))||(p0_.Accept==0))||(decide (IntKind.i64.wrap p0_.Accept>=Ry .i64 1 p0_.Modes)))||(decide (((p0_.Rules.length:Nat):Int)<1))))) (λ hg=>Av Ak p0_.Rules) (gc 1 (!(((((decide (p0_.Modes<1))||(decide (p0_.Modes>8)))||(p0_.Accept==0))||(decide (IntKind.i64.wrap p0_.Accept>=Ry .i64 1 p0_.Modes)))||(decide (((p0_.Rules.length:Nat):Int)<1)))) (pO (en (cn H (λ H=>?_) (λ H=>?_)))))))))))))))))))))))))))))))
 ·exact sr (ck 2 (en (re (qr (by cases H;exact pr rdT)))))
 ·refine sk (qz (sq (sr (ck 1 (en (bk 0 (bx H λ y74 h297 H=>?_)))))))
  rcases y74 with y75|y76
  ·exact lX KT h297 (sg [1,4]) rfl λ s hE59=>qH (qs (hE59) (sr (ck 2 (en (re (by cases H;exact pr rdT))))))
  ·exact lR KT h297 (sg [1,4]) rfl λ s hE60=>qR (qr (by cases H;exact pr hE60))
end
section
variable (p0_:Ab)
def JhP:St:=⟨(0,.agg [.d (.int .i64 p0_.Modes),.d (.int .u8 p0_.Accept),.d (.sl (p0_.Rules.map Ak))])::[],[]⟩
variable {p0_}
theorem UR {z} (H:O5 n p0_=some z):AF Try.prog 38 [.agg (AL p0_)] (.d (.bool z)):=by
 exact fO 12 (JhP p0_) Try.func38 (sr (ck 2 (en (sr (ck 1 (bx H λ r114 h298 H=>ca false (UQ h298) (ck 5 (en (sr (ck 3 (en (re (by cases H;exact pr rd)))))))))))))
end
section
variable (p0_:MM) (r115:Ab) (t_3:Ab) (i_11:Int) (t_4:Ab) (t_5:Ab) (t_6:Ab) (i_12:Int) (t_7:Ab) (t_8:Ab) (t_9:Ab)
def JhQ:St:=⟨(0,.agg [.d (.int .u8 p0_.Base),.d (.int .u8 p0_.Drop),.d (.sl (p0_.More.map FL))])::[],[]⟩
def JhR:St:=⟨(1,.ptr 0 0)::(2,.ptr 1 0)::(3,.ptr 2 0)::(4,.osl 3 6 0 (r115.Rules.length))::(5,.d (.int .i64 i_11))::[],[some (.box (XT p0_)),some (.box [.d (.int .i64 0),.d (.int .u8 0),.osl 4 6 0 (List.length ([]:List Au))]),some (.box (F6 t_3 (.osl 5 6 0 (t_3.Rules.length)))),some (.arr 6 (r115.Rules.map Ak)),some (.arr 6 (List.map Ak ([]:List Au))),some (.arr 6 (t_3.Rules.map Ak))]⟩
def JhS:St:=⟨(1,.ptr 0 0)::(2,.ptr 1 0)::(3,.ptr 2 0)::(4,.osl 3 6 0 (r115.Rules.length))::[],[some (.box (XT p0_)),some (.box [.d (.int .i64 0),.d (.int .u8 0),.osl 4 6 0 (List.length ([]:List Au))]),some (.box (F6 t_4 (.osl 5 6 0 (t_4.Rules.length)))),some (.arr 6 (r115.Rules.map Ak)),some (.arr 6 (List.map Ak ([]:List Au))),some (.arr 6 (t_4.Rules.map Ak))]⟩
def JhT:St:=⟨(1,.ptr 0 0)::(2,.ptr 1 0)::(3,.ptr 2 0)::(4,.osl 3 6 0 (r115.Rules.length))::(5,.d (.int .i64 i_11))::[],[some (.box (XT p0_)),some (.box [.d (.int .i64 0),.d (.int .u8 0),.osl 4 6 0 (List.length ([]:List Au))]),some (.box (F6 t_5 (.osl 5 6 0 (t_5.Rules.length)))),some (.arr 6 (r115.Rules.map Ak)),some (.arr 6 (List.map Ak ([]:List Au))),some (.arr 6 (t_5.Rules.map Ak))]⟩
def S4:Ab->Ex->St->Prop:=xX 0 0 (λ (y:Ab)=>JhS p0_ r115 y)
def M5:(Ab×Int)->St:=(λ (x:(Ab×Int))=>JhR p0_ r115 x.1 x.2)
def JhU:St:=⟨(1,.ptr 0 0)::(2,.ptr 1 0)::(3,.ptr 2 0)::(4,.osl 3 6 0 (r115.Rules.length))::(6,.d (.int .i64 i_12))::[],[some (.box (XT p0_)),some (.box [.d (.int .i64 0),.d (.int .u8 0),.osl 4 6 0 (List.length ([]:List Au))]),some (.box (F6 t_6 (.osl 5 6 0 (t_6.Rules.length)))),some (.arr 6 (r115.Rules.map Ak)),some (.arr 6 (List.map Ak ([]:List Au))),some (.arr 6 (t_6.Rules.map Ak))]⟩
def JhV:St:=⟨(2,.ptr 0 0)::(3,.ptr 1 0)::(4,.osl 2 6 0 (r115.Rules.length))::[],[some (.box [.d (.int .i64 0),.d (.int .u8 0),.osl 3 6 0 (List.length ([]:List Au))]),some (.box (F6 t_7 (.osl 4 6 0 (t_7.Rules.length)))),some (.arr 6 (r115.Rules.map Ak)),some (.arr 6 (List.map Ak ([]:List Au))),some (.arr 6 (t_7.Rules.map Ak))]⟩
def JhW:St:=⟨(1,.ptr 0 0)::(2,.ptr 1 0)::(3,.ptr 2 0)::(4,.osl 3 6 0 (r115.Rules.length))::(6,.d (.int .i64 i_12))::[],[some (.box (XT p0_)),some (.box [.d (.int .i64 0),.d (.int .u8 0),.osl 4 6 0 (List.length ([]:List Au))]),some (.box (F6 t_8 (.osl 5 6 0 (t_8.Rules.length)))),some (.arr 6 (r115.Rules.map Ak)),some (.arr 6 (List.map Ak ([]:List Au))),some (.arr 6 (t_8.Rules.map Ak))]⟩
def S5:Ab->Ex->St->Prop:=xX 0 2 (λ (y:Ab)=>JhV r115 y)
def M6:(Ab×Int)->St:=(λ (x:(Ab×Int))=>JhU p0_ r115 x.1 x.2)
def JhX:St:=⟨(2,.ptr 0 0)::(3,.ptr 1 0)::[],[some (.box [.d (.int .i64 0),.d (.int .u8 0),.osl 2 6 0 (List.length ([]:List Au))]),some (.box (F6 t_9 (.osl 3 6 0 (t_9.Rules.length)))),some (.arr 6 (List.map Ak ([]:List Au))),some (.arr 6 (t_9.Rules.map Ak))]⟩
variable {p0_ r115 t_3 i_11 t_4 t_5 t_6 i_12 t_7 t_8 t_9}
theorem Sf (x:(Ab×Int)) (z:((Ab×Int)⊕Ab)) (H:FJ n p0_ r115 x.1 x.2=some z):WP (cxk 77 0) (AC Try.f16) [1,1,1,1,0,1,0,0] (AJ 0 (M5 p0_ r115) (S4 p0_ r115) z) (M5 p0_ r115 x):=by
 obtain ⟨t_3,i_11⟩:=x
 refine sq (sr (ck 4 (en (cn H (λ H=>?_) (λ H=>?_)))))
 ·refine sk (qz (sj (λ (x:Ab)=>JhT p0_ r115 i_11 x) (λ (x:Ab)=>G3 n i_11 x) z ?_ (λ hFR2_Made_J1=>?_)))
  ·intro t_5 H
   exact rz (ck 3 (ae (by cases H;exact og (sg [1,2,3,4,5]))))
  refine bk 1 (sr (ck 3 (bx H λ gd7 h300 H=>so (Jl h300) (ck 2 (en (cn H (λ H=>?_) (λ H=>?_)))))))
  ·exact rz (ck 4 (bx H λ x72 h301 H=>sp (Bc 3 6 h301) (sp (DD Ak 3 0 (ty 55) h301) (ck 1 (bx H λ l49 h302 H=>sp (Bm Ak 5 6 h302) (ck 2 (ae (qN (qs (sg [1,2,3,4,5]) (hFR2_Made_J1 ({ Modes:=t_3.Modes,Accept:=t_3.Accept,Rules:=l49 }:Ab) H))))))))))
  ·exact sk (qN (qs (sg [1,2,3,4,5]) (hFR2_Made_J1 t_3 H)))
 ·exact ex 0 (qx (by cases H;exact xo rfl (sg [1,2,3,4])))
theorem Sg (x:(Ab×Int)) (z:((Ab×Int)⊕Ab)) (H:FK n p0_ r115 x.1 x.2=some z):WP (cxk 77 0) (AC Try.f16) [1,1,1,1,1,0,1,0,0] (AJ 0 (M6 p0_ r115) (S5 r115) z) (M6 p0_ r115 x):=by
 obtain ⟨t_6,i_12⟩:=x
 refine sq (sr (ck 3 (sp (Av FL p0_.More) (ck 3 (gc 1 (decide (i_12<((p0_.More.length:Nat):Int))) (pA (en (cn H (λ H=>?_) (λ H=>?_)))))))))
 ·refine sk (qz (sj (λ (x:Ab)=>JhW p0_ r115 i_12 x) (λ (x:Ab)=>G4 n i_12 x) z ?_ (λ hFR2_Made_J2=>?_)))
  ·intro t_8 H
   exact rz (ck 3 (ae (by cases H;exact og (sg [1,2,3,4,6]))))
  refine bk 3 (sr (ck 5 (bx H λ x73 h304 H=>sp (AA FL h304) (ck 3 (bx H λ r116 h305 H=>ca false (Wq h305) (ck 1 (bx H λ l50 h306 H=>sp (Bm Ak 5 6 h306) (ck 2 (en (sr (ck 1 (bx H λ r117 h307 H=>cb (ks:=[7]) (obl:=[(0+List.length l50,List.length (l50.map Ak))]) false (leK leM (leZ)) (DK (JjX (DK rfl (DK rfl (DK MW rfl)))) rfl) (UR h307) (Or.inr trivial) rfl (ck 1 (en (cn H (λ H=>?_) (λ H=>?_))))))))))))))))
  ·exact rz (ck 6 (bx H λ l51 h308 H=>sp (IU 7 6 h308) (ck 2 (ae (qN (qs (tr (BU (k:=7) (sz:=6) 2 2 (l51.map Ak) (l51.length) (by kernel_rfl) (GL h308) (IT (enc:=Ak) h308) (GN h308)) (sg [1,2,3,4,6])) (hFR2_Made_J2 ({ Modes:=t_6.Modes,Accept:=t_6.Accept,Rules:=l51 }:Ab) H)))))))
  ·exact sk (qN (qs (sg [1,2,3,4,6]) (hFR2_Made_J2 ({ Modes:=t_6.Modes,Accept:=t_6.Accept,Rules:=l50 }:Ab) H)))
 ·exact ex 2 (qx (by cases H;exact xo rfl (sg [2,3,4])))
theorem Wt {z} (H:LA n p0_=some z):AF Try.prog 16 [.agg (XT p0_)] (.agg [.d (.int .i64 z.Modes),.d (.int .u8 z.Accept),.own 6 (z.Rules.map Ak)]):=by
 refine fO 77 (JhQ p0_) Try.func16 (sr (ck 2 (en (sr (ck 2 (bx H λ r115 h299 H=>cl [List.length r115.Rules] (Wp h299) (ck 2 (en (sr (ck 3 (en (sr (ck 3 (en (sq (sr (ck 1 (en (bk 0 (bx H λ y77 h303 H=>lX Sf h303 (tr (Dh 1 2 6 (by kernel_rfl)) (sg [1,2,3,4,5])) rfl λ s hE61=>qH (qs (hE61) (sq (sr (ck 1 (en (bk 2 (bx H λ y78 h309 H=>lX Sg h309 (sg [1,2,3,4,6]) rfl λ s hE62=>qH (qs (hE62) (sj (λ (x:Ab)=>JhX x) (λ (x:Ab)=>G5 n x) z ?_ (λ hFR2_Made_J3=>?_))))))))))))))))))))))))))))))
 ·intro t_9 H
  exact sr (ck 2 (en (re (by cases H;exact pr (rO (v:=.agg [.d (.int .i64 z.Modes),.d (.int .u8 z.Accept),.osl 3 6 0 (z.Rules.length)]) [3] (a1 (c1 vd (c1 vd (c1 vo (c0))))))))))
 refine sr (ck 4 (en (cn H (λ H=>?_) (λ H=>?_))))
 ·exact rz (ck 3 (ae (qs (sg [2,3]) (hFR2_Made_J3 ({ Modes:=y78.Modes,Accept:=y78.Accept,Rules:=r115.Rules }:Ab) H))))
 ·exact sk (qs (sg [2,3]) (hFR2_Made_J3 y78 H))
end
section
variable (p0_:Ab) (p1_:(List Int)) (p2_:Int) (out_5:(List Int)) (i_13:Int) (out_6:(List Int)) (out_7:(List Int))
def JhY:St:=⟨(0,.agg [.d (.int .i64 p0_.Modes),.d (.int .u8 p0_.Accept),.d (.sl (p0_.Rules.map Ak))])::(1,.d (.sl (p1_.map eU8)))::(2,.d (.int .i64 p2_))::[],[]⟩
def JhZ:St:=⟨(1,.d (.sl (p1_.map eU8)))::(2,.d (.int .i64 p2_))::(3,.ptr 0 0)::(7,.osl 1 1 0 (out_5.length))::(8,.d (.int .i64 i_13))::[],[some (.box (AL p0_)),some (.arr 1 (out_5.map eU8))]⟩
def Jh0:St:=⟨(2,.d (.int .i64 p2_))::(7,.osl 0 1 0 (out_6.length))::[],[some (.arr 1 (out_6.map eU8))]⟩
def Jh1:St:=⟨(1,.d (.sl (p1_.map eU8)))::(2,.d (.int .i64 p2_))::(3,.ptr 0 0)::(7,.osl 1 1 0 (out_7.length))::(8,.d (.int .i64 i_13))::[],[some (.box (AL p0_)),some (.arr 1 (out_7.map eU8))]⟩
def Sh:(List Int)->Ex->St->Prop:=xX 0 0 (λ (y:(List Int))=>Jh0 p2_ y)
def L9:((List Int)×Int)->St:=(λ (x:((List Int)×Int))=>JhZ p0_ p1_ p2_ x.1 x.2)
variable {p0_ p1_ p2_ out_5 i_13 out_6 out_7}
theorem Qf (x:((List Int)×Int)) (z:(((List Int)×Int)⊕(List Int))) (H:HC n p0_ p1_ p2_ x.1 x.2=some z):WP (cxk 65 0) (AC Try.f40) [1,1,0,1,0,0] (AJ 0 (L9 p0_ p1_ p2_) (Sh p2_) z) (L9 p0_ p1_ p2_ x):=by
 obtain ⟨out_5,i_13⟩:=x
 refine sq (sr (ck 2 (sp (Av eU8 p1_) (ck 3 (gc 1 (decide (i_13<((p1_.length:Nat):Int))) (ck 1 (gc 1 (decide (i_13<((p1_.length:Nat):Int))) (pA (ck 2 (gc 1 ((decide (i_13<((p1_.length:Nat):Int)))&&(decide (((out_5.length:Nat):Int)<p2_))) (sE (g:=((decide (i_13<((p1_.length:Nat):Int)))&&(decide (((out_5.length:Nat):Int)<p2_)))) (λ hg=>Av Ak p0_.Rules) (gc 1 ((decide (i_13<((p1_.length:Nat):Int)))&&(decide (((out_5.length:Nat):Int)<p2_))) (pA (en (cn H (λ H=>?_) (λ H=>?_))))))))))))))))
 ·refine sk (qz (sj (λ (x:(List Int))=>Jh1 p0_ p1_ p2_ i_13 x) (λ (x:(List Int))=>HB n i_13 x) z ?_ (λ hFR4_Cells_J1=>?_)))
  ·intro out_7 H
   exact rz (ck 3 (ae (by cases H;exact og (sg [1,2,3,7,8]))))
  refine bk 1 (sr (ck 4 (bx H λ x74 h310 H=>sp (AA eU8 h310) (ck 4 (sp (Av Ak p0_.Rules) (bx H λ gd8 h311 H=>so (RM h311) (bx H λ x75 h312 H=>sp (AA Ak h312) (ck 3 (en (sr (ck 2 (bx H λ x76 h313 H=>sp (AA eU8 h313) (ck 2 (en (cn H (λ H=>?_) (λ H=>?_))))))))))))))))
  ·exact rz (ck 3 (bx H λ x77 h314 H=>sp (AA eU8 h314) (ck 3 (bx H λ l52 h315 H=>sp (Bm eU8 1 1 h315) (ck 1 (ae (qN (qs (sg [1,2,3,7,8]) (hFR4_Cells_J1 l52 H)))))))))
  ·exact rz (ck 2 (bx H λ l53 h316 H=>sp (Jf3 eU8 1 1 h316) (ck 1 (ae (qN (qs (sg [1,2,3,7,8]) (hFR4_Cells_J1 l53 H)))))))
 ·exact ex 0 (qx (by cases H;exact xo rfl (sg [2,7])))
theorem US {z} (H:MD n p0_ p1_ p2_=some z):AF Try.prog 40 [.agg (AL p0_),.d (.sl (p1_.map eU8)),.d (.int .i64 p2_)] (.own 1 (z.map eU8)):=by
 exact fO 65 (JhY p0_ p1_ p2_) Try.func40 (sr (ck 2 (en (sr (ck 2 (en (sq (sr (ck 1 (en (bk 0 (bx H λ y79 h317 H=>lX Qf h317 (sg [1,2,3,7,8]) rfl λ s hE63=>qH (qs (hE63) (sr (ck 5 (bx H λ l54 h318 H=>sp (IU 0 1 h318) (ck 1 (ae (qs (Np (k:=0) (sz:=1) 6 (l54.map eU8) (l54.length) (by kernel_rfl) (GL h318) (IT (enc:=eU8) h318) (GN h318)) (re (by cases H;exact pr (rO (v:=.osl 1 1 0 (z.length)) [1] (ao vo)))))))))))))))))))))))
end
def Jh2:St:=⟨[],[]⟩
theorem Km {z} (H:HO n=some z):AF Try.prog 53 [] (.agg [.d (.int .i64 z.Mode),.d (.int .i64 z.Last),.d (.int .u8 z.Need)]):=by
 exact fO 2 Jh2 Try.func53 (sr (ck 1 (en (sr (ck 2 (en (re (by cases H;exact pr rd))))))))
section
variable (p0_:Int) (p1_:Int)
def Jh3:St:=⟨(0,.d (.int .u8 p0_))::(1,.d (.int .i64 p1_))::[],[]⟩
variable {p0_ p1_}
theorem Kn {z} (H:HE n p0_ p1_=some z):AF Try.prog 33 [.d (.int .u8 p0_),.d (.int .i64 p1_)] (.d (.bool z)):=by
 exact fO 18 (Jh3 p0_ p1_) Try.func33 (sr (ck 1 (en (sr (ck 4 (gc 1 (decide (p1_>=0)) (pA (ck 3 (bx H λ gd9 h319 H=>soG (λ hg=>Jl (C6 h319 hg)) (Cd (λ hh=>hh) (Cd (λ hh=>hh) (Ed))) (gc 2 ((decide (p1_>=0))&&(decide (p1_<8))) (pA (ck 1 (en (re (by cases H;exact pr rd)))))))))))))))
end
section
variable (p0_:Ab) (p1_:Aa)
def Jh4:St:=⟨(0,.agg [.d (.int .i64 p0_.Modes),.d (.int .u8 p0_.Accept),.d (.sl (p0_.Rules.map Ak))])::(1,.agg [.d (.int .i64 p1_.Mode),.d (.int .i64 p1_.Last),.d (.int .u8 p1_.Need)])::[],[]⟩
variable {p0_ p1_}
theorem H8 {z} (H:CN n p0_ p1_=some z):AF Try.prog 20 [.agg (AL p0_),.agg (B4 p1_)] (.d (.bool z)):=by
 exact fO 27 (Jh4 p0_ p1_) Try.func20 (sr (ck 3 (en (sr (ck 5 (gc 1 (decide (p1_.Mode>=0)) (ck 1 (gc 2 (decide (p1_.Mode>=0)) (pA (ck 2 (gc 1 ((decide (p1_.Mode>=0))&&(decide (p1_.Mode<p0_.Modes))) (ck 1 (gc 1 ((decide (p1_.Mode>=0))&&(decide (p1_.Mode<p0_.Modes))) (bx H λ r118 h320 H=>cG false (leZ) rfl (λ hg=>Kn (C6 h320 hg)) (Or.inl rfl) (Cd (λ hh=>hh) (Cd (λ hh=>hh) (Ed))) rfl (pA (ck 2 (gc 1 (((decide (p1_.Mode>=0))&&(decide (p1_.Mode<p0_.Modes)))&&r118) (bx H λ r119 h321 H=>cG false (leZ) rfl (λ hg=>Kn (C6 h321 hg)) (Or.inl rfl) (Cd (λ hh=>hh) (Ed)) rfl (pA (ck 1 (en (re (by cases H;exact pr rd)))))))))))))))))))))))
end
section
variable (p0_:(List (List UInt8))) (p1_:(List UInt8)) (out_8:(List (List UInt8))) (done_1:Bool) (i_14:Int) (out_9:(List (List UInt8))) (done_2:Bool) (done_3:Bool) (out_10:(List (List UInt8))) (done_4:Bool) (out_11:(List (List UInt8)))
def Jh5:St:=⟨(0,.d (.sl (p0_.map eS)))::(1,.d (.str p1_))::[],[]⟩
def Jh6:St:=⟨(0,.d (.sl (p0_.map eS)))::(1,.d (.str p1_))::(5,.osl 0 1 0 (out_8.length))::(6,.d (.bool done_1))::(7,.d (.int .i64 i_14))::[],[some (.arr 1 (out_8.map eS))]⟩
def Jh7:St:=⟨(1,.d (.str p1_))::(5,.osl 0 1 0 (out_9.length))::(6,.d (.bool done_2))::[],[some (.arr 1 (out_9.map eS))]⟩
def Jh8:St:=⟨(0,.d (.sl (p0_.map eS)))::(1,.d (.str p1_))::(5,.osl 0 1 0 (out_8.length))::(6,.d (.bool done_3))::(7,.d (.int .i64 i_14))::[],[some (.arr 1 (out_8.map eS))]⟩
def Jh9:St:=⟨(0,.d (.sl (p0_.map eS)))::(1,.d (.str p1_))::(5,.osl 0 1 0 (out_10.length))::(6,.d (.bool done_4))::(7,.d (.int .i64 i_14))::[],[some (.arr 1 (out_10.map eS))]⟩
def Qg:((List (List UInt8))×Bool)->Ex->St->Prop:=xX 0 0 (λ (y:((List (List UInt8))×Bool))=>Jh7 p1_ y.1 y.2)
def KU:((List (List UInt8))×Bool×Int)->St:=(λ (x:((List (List UInt8))×Bool×Int))=>Jh6 p0_ p1_ x.1 x.2.1 x.2.2)
def Jia:St:=⟨(5,.osl 0 1 0 (out_11.length))::[],[some (.arr 1 (out_11.map eS))]⟩
variable {p0_ p1_ out_8 done_1 i_14 out_9 done_2 done_3 out_10 done_4 out_11}
theorem Pd (x:((List (List UInt8))×Bool×Int)) (z:(((List (List UInt8))×Bool×Int)⊕((List (List UInt8))×Bool))) (H:Du n p0_ p1_ x.1 x.2.1 x.2.2=some z):WP (cxk 49 0) (AC Try.f88) [1,1,1,0,1,0,0] (AJ 0 (KU p0_ p1_) (Qg p1_) z) (KU p0_ p1_ x):=by
 obtain ⟨out_8,done_1,i_14⟩:=x
 refine sq (sr (ck 2 (sp (Av eS p0_) (ck 1 (en (cn H (λ H=>?_) (λ H=>?_)))))))
 ·refine sk (qz (sq (bk 1 (sj (λ (x:Bool)=>Jh8 p0_ p1_ out_8 i_14 x) (λ (x:Bool)=>Dt n p0_ p1_ out_8 i_14 x) z ?_ (λ hFR4_insert_J1=>?_)))))
  ·intro done_3 H
   refine sj (λ (x:((List (List UInt8))×Bool))=>Jh9 p0_ p1_ i_14 x.1 x.2) (λ (x:((List (List UInt8))×Bool))=>Ds n p0_ i_14 x.1 x.2) z ?_ (λ hFR4_insert_J2=>?_)
   ·rintro ⟨out_10,done_4⟩ H
    exact rz (ck 3 (bx H λ x78 h322 H=>sp (AA eS h322) (ck 2 (bx H λ l55 h323 H=>sp (Bm eS 0 1 h323) (ck 1 (ae (qN (qz (rz (ck 3 (ae (by cases H;exact og (sg [0,1,5,6,7])))))))))))))
   refine sr (ck 5 (bx H λ x79 h324 H=>sE (λ hg=>AA eS (C6 h324 hg)) (gc 1 (!done_3) (ck 1 (gc 1 (!done_3) (pA (en (cn H (λ H=>?_) (λ H=>?_)))))))))
   ·exact sr (ck 3 (bx H λ l56 h325 H=>sp (Bm eS 0 1 h325) (ck 1 (en (rz (ck 1 (ae (qs (sg [0,1,5,6,7]) (hFR4_insert_J2 (l56,true) H)))))))))
   ·exact sk (qs (sg [0,1,5,6,7]) (hFR4_insert_J2 (out_8,done_3) H))
  refine sr (ck 2 (bx H λ x80 h326 H=>sp (AA eS h326) (ck 3 (en (cn H (λ H=>?_) (λ H=>?_))))))
  ·exact rz (ck 1 (ae (qs (sg [0,1,5,6,7]) (hFR4_insert_J1 true H))))
  ·exact sk (qs (sg [0,1,5,6,7]) (hFR4_insert_J1 done_1 H))
 ·exact ex 0 (qx (by cases H;exact xo rfl (sg [1,5,6])))
theorem M7 {z} (H:Fy n p0_ p1_=some z):AF Try.prog 88 [.d (.sl (p0_.map eS)),.d (.str p1_)] (.own 1 (z.map eS)):=by
 refine fO 49 (Jh5 p0_ p1_) Try.func88 (sr (ck 1 (en (sr (ck 2 (en (sr (ck 1 (en (sq (sr (ck 1 (en (bk 0 (bx H λ y80 h327 H=>lX Pd h327 (sg [0,1,5,6,7]) rfl λ s hE64=>qH (qs (hE64) (sj (λ (x:(List (List UInt8)))=>Jia x) (λ (x:(List (List UInt8)))=>Fa n x) z ?_ (λ hFR4_insert_J3=>?_))))))))))))))))))
 ·intro out_11 H
  exact sr (ck 2 (en (re (by cases H;exact pr (rO (v:=.osl 0 1 0 (z.length)) [0] (ao vo))))))
 refine sr (ck 2 (en (cn H (λ H=>?_) (λ H=>?_))))
 ·exact rz (ck 3 (bx H λ l57 h328 H=>sp (Bm eS 0 1 h328) (ck 1 (ae (qs (sg [5]) (hFR4_insert_J3 l57 H))))))
 ·exact sk (qs (sg [5]) (hFR4_insert_J3 y80.1 H))
end
section
variable (p0_:(List Int)) (p1_:(List Int)) (i_15:Int)
def Jib:St:=⟨(0,.d (.sl (p0_.map eU8)))::(1,.d (.sl (p1_.map eU8)))::[],[]⟩
def Jic:St:=⟨(0,.d (.sl (p0_.map eU8)))::(1,.d (.sl (p1_.map eU8)))::(6,.d (.int .i64 (if ((p1_.length:Nat):Int)<((p0_.length:Nat):Int) then ((p1_.length:Nat):Int) else ((p0_.length:Nat):Int))))::(7,.d (.int .i64 i_15))::[],[]⟩
def Jid:St:=⟨(6,.d (.int .i64 (if ((p1_.length:Nat):Int)<((p0_.length:Nat):Int) then ((p1_.length:Nat):Int) else ((p0_.length:Nat):Int))))::[],[]⟩
def Qh:(Unit⊕(Int×Bool))->Ex->St->Prop:=xS (xX 0 0 (λ (y:Unit)=>Jid p0_ p1_)) (xR ty Try.f82 (λ (y:(Int×Bool))=>.tup [.d (.int .i64 y.1),.d (.bool y.2)]))
def KW:Int->St:=(λ (x:Int)=>Jic p0_ p1_ x)
variable {p0_ p1_ i_15}
theorem JC (x:Int) (z:(Int⊕(Unit⊕(Int×Bool)))) (H:Dv n p0_ p1_ x=some z):WP (cxk 29 0) (AC Try.f82) [1,1,0,1,0,0] (AJ 0 (KW p0_ p1_) (Qh p0_ p1_) z) (KW p0_ p1_ x):=by
 revert H
 generalize x=i_15
 intro H
 refine sq (sr (ck 3 (en (cn H (λ H=>?_) (λ H=>?_)))))
 ·refine sk (qz (sq (bk 1 (sr (ck 2 (bx H λ x81 h329 H=>sp (AA eU8 h329) (ck 3 (bx H λ x82 h330 H=>sp (AA eU8 h330) (ck 2 (en (cn H (λ H=>?_) (λ H=>?_))))))))))))
  ·exact sr (ck 3 (en (re (qR (qr (by cases H;exact ro rfl rdT))))))
  ·exact sk (qN (qz (rz (ck 3 (ae (by cases H;exact og (sg [0,1,6,7])))))))
 ·exact ex 0 (qx (by cases H;exact xo rfl (sg [6])))
theorem I5 {z} (H:Eu n p0_ p1_=some z):AF Try.prog 82 [.d (.sl (p0_.map eU8)),.d (.sl (p1_.map eU8))] (.tup [.d (.int .i64 z.1),.d (.bool z.2)]):=by
 refine fO 29 (Jib p0_ p1_) Try.func82 (sr (ck 2 (en (sr (ck 1 (sp (Av eU8 p0_) (ck 1 (sp (Av eU8 p1_) (ck 2 (en (sq (sr (ck 1 (en (bk 0 (bx H λ y81 h331 H=>?_))))))))))))))))
 rcases y81 with y82|y83
 ·exact lX JC h331 (sg [0,1,6,7]) rfl λ s hE65=>qH (qs (hE65) (sr (ck 3 (en (re (by cases H;exact pr rdT))))))
 ·exact lR JC h331 (sg [0,1,6,7]) rfl λ s hE66=>qR (qr (by cases H;exact pr hE66))
end
section
variable (p0_:Int)
def Jie:St:=⟨(0,.d (.int .u8 p0_))::[],[]⟩
variable {p0_}
theorem Oq {z} (H:Gz n p0_=some z):AF Try.prog 32 [.d (.int .u8 p0_)] (.d (.int .i64 z)):=by
 refine fO 26 (Jie p0_) Try.func32 (sr (ck 1 (en (sr (ck 3 (en (sq (sr (ck 4 (gc 1 (decide (CB .u8 p0_ 127>=97)) (pA (en (cn H (λ H=>?_) (λ H=>?_))))))))))))))
 ·exact sr (ck 1 (en (re (qr (by cases H;exact pr rd)))))
 ·refine sk (qz (sq (sr (ck 4 (gc 1 (decide (CB .u8 p0_ 127>=65)) (pA (en (cn H (λ H=>?_) (λ H=>?_)))))))))
  ·exact sr (ck 1 (en (re (qr (by cases H;exact pr rd)))))
  ·refine sk (qz (sq (sr (ck 4 (gc 1 (decide (CB .u8 p0_ 127>=48)) (pA (en (cn H (λ H=>?_) (λ H=>?_)))))))))
   ·exact sr (ck 1 (en (re (qr (by cases H;exact pr rd)))))
   ·refine sk (qz (sq (sr (ck 2 (en (cn H (λ H=>?_) (λ H=>?_)))))))
    ·exact sr (ck 1 (en (re (qr (by cases H;exact pr rd)))))
    ·exact sk (qz (sr (ck 1 (en (re (by cases H;exact pr rd))))))
end
section
variable (p0_:Ab) (p1_:Aa) (p2_:Int)
def Jif:St:=⟨(0,.agg [.d (.int .i64 p0_.Modes),.d (.int .u8 p0_.Accept),.d (.sl (p0_.Rules.map Ak))])::(1,.agg [.d (.int .i64 p1_.Mode),.d (.int .i64 p1_.Last),.d (.int .u8 p1_.Need)])::(2,.d (.int .i64 p2_))::[],[]⟩
variable {p0_ p1_ p2_}
theorem Hb {z} (H:Fb n p0_ p1_ p2_=some z):AF Try.prog 18 [.agg (AL p0_),.agg (B4 p1_),.d (.int .i64 p2_)] (.tup [.agg [.d (.int .i64 z.1.Mode),.d (.int .i64 z.1.Last),.d (.int .u8 z.1.Need)],.d (.bool z.2)]):=by
 refine fO 87 (Jif p0_ p1_ p2_) Try.func18 (sr (ck 4 (en (sq (sr (ck 5 (gc 1 (!(decide (p2_<0))) (sE (g:=(!(decide (p2_<0)))) (λ hg=>Av Ak p0_.Rules) (gc 1 (!(decide (p2_<0))) (pO (en (cn H (λ H=>?_) (λ H=>?_)))))))))))))
 ·exact sr (ck 3 (en (re (qr (by cases H;exact pr rdT)))))
 ·refine sk (qz (sr (ck 3 (bx H λ x83 h332 H=>sp (AA Ak h332) (ck 3 (en (sq (sr (ck 7 (gc 1 (!(x83.From != p1_.Mode)) (ck 1 (gc 1 (!(x83.From != p1_.Mode)) (bx H λ r120 h333 H=>cG false (leZ) rfl (λ hg=>Kn (C6 h333 hg)) (Or.inl rfl) (Cd (λ hh=>hh) (Cd (λ hh=>hh) (Ed))) rfl (gc 1 (!(x83.From != p1_.Mode)) (pO (en (cn H (λ H=>?_) (λ H=>?_))))))))))))))))))
  ·exact sr (ck 3 (en (re (qr (by cases H;exact pr rdT)))))
  ·refine sk (qz (sq (sr (ck 6 (gc 1 (((x83.Print.length:Nat):Int)==0) (ck 1 (gc 3 (((x83.Print.length:Nat):Int)==0) (pA (en (cn H (λ H=>?_) (λ H=>?_)))))))))))
   ·exact sr (ck 3 (en (re (qr (by cases H;exact pr rdT)))))
   ·refine sk (qz (sq (sr (ck 4 (en (cn H (λ H=>?_) (λ H=>?_)))))))
    ·exact sr (ck 12 (en (re (qr (by cases H;exact pr rdT)))))
    ·refine sk (qz (sq (sr (ck 4 (bx H λ b10 h334 H=>sp (GP h334) (bx H λ r121 h335 H=>ca false (Oq h335) (bx H λ r122 h336 H=>ca false (Kn h336) (ck 1 (en (cn H (λ H=>?_) (λ H=>?_)))))))))))
     ·exact sr (ck 3 (en (re (qr (by cases H;exact pr rdT)))))
     ·exact sk (qz (sr (ck 8 (bx H λ b11 h337 H=>sp (GP h337) (bx H λ r123 h338 H=>ca false (Oq h338) (ck 5 (en (re (by cases H;exact pr rdT)))))))))
end
section
variable (p1_:(List UInt8)) (p2_:Aa) (p3_:(List Int)) (b0_:Ao) (x_99:Ao) (m_1:Ao) (m_2:Ao) (r_7:Int) (x_100:Ao) (m_3:Ao) (rec78k0_:((List UInt8)->Aa->(List Int)->Ao->Option Ao))
def JcZ:St:=⟨(0,.ptr 0 0)::(1,.d (.str p1_))::(2,.agg [.d (.int .i64 p2_.Mode),.d (.int .i64 p2_.Last),.d (.int .u8 p2_.Need)])::(3,.d (.sl (p3_.map eU8)))::[],[some (.box (CK b0_))]⟩
def Jc0:St:=⟨[],[some (.box (CK x_99))]⟩
def Jc1:St:=⟨(0,.ptr 0 0)::(1,.d (.str p1_))::(3,.d (.sl (p3_.map eU8)))::(6,.ptr 1 0)::[],[some (.box (CK m_1)),some (.box (B4 p2_))]⟩
def Jc2:St:=⟨(0,.ptr 0 0)::(1,.d (.str p1_))::(3,.d (.sl (p3_.map eU8)))::(6,.ptr 1 0)::(8,.d (.int .i64 r_7))::[],[some (.box (CK m_2)),some (.box (B4 p2_))]⟩
def Jc3:St:=⟨[],[some (.box (CK x_100))]⟩
def Jc4:St:=⟨(0,.ptr 0 0)::(1,.d (.str p1_))::(3,.d (.sl (p3_.map eU8)))::(6,.ptr 1 0)::(8,.d (.int .i64 r_7))::[],[some (.box (CK m_3)),some (.box (B4 p2_))]⟩
def Ko:Ao->Ex->St->Prop:=xX 1 0 (λ (y:Ao)=>Jc3 y)
def F9:(Ao×Int)->St:=(λ (x:(Ao×Int))=>Jc2 p1_ p2_ p3_ x.1 x.2)
variable {p1_ p2_ p3_ b0_ x_99 m_1 m_2 r_7 x_100 m_3 rec78k0_}
theorem JD (hrec78k0_:∀ {p1_:(List UInt8)} {p2_:Aa} {p3_:(List Int)} {b0_:Ao} {z:Ao},rec78k0_ p1_ p2_ p3_ b0_=some z->Bk Try.prog 78 [.ptr 0 0,.d (.str p1_),.agg (B4 p2_),.d (.sl (p3_.map eU8))] [some (.box (CK b0_))] 1 (.tup []) [some (.box (CK z))]) (x:(Ao×Int)) (z:((Ao×Int)⊕Ao)) (H:BB n rec78k0_ p1_ p2_ p3_ x.1 x.2=some z):WP (cxk 102 1) (AC Try.f78) [1,1,1,0,0] (AJ 1 (F9 p1_ p2_ p3_) (Ko) z) (F9 p1_ p2_ p3_ x):=by
 obtain ⟨m_2,r_7⟩:=x
 refine sq (sr (ck 6 (sp (Av Ak m_2.T.Rules) (ck 1 (en (cn H (λ H=>?_) (λ H=>?_)))))))
 ·refine sk (qz (sj (λ (x:Ao)=>Jc4 p1_ p2_ p3_ r_7 x) (λ (x:Ao)=>CA n r_7 x) z ?_ (λ hFR4_Maker_collect_J2=>?_)))
  ·intro m_3 H
   exact rz (ck 3 (ae (by cases H;exact og (sg [0,1,3,6,8]))))
  refine bk 1 (sr (ck 6 (bx H λ x84 h343 H=>sp (AA Ak h343) (ck 3 (bx H λ r128 h344 H=>ca false (I5 h344) (ck 5 (en (sr (ck 6 (bx H λ r129 h345 H=>ca false (Hb h345) (ck 6 (en (sr (ck 3 (pA (ck 3 (gc 4 (r128.2&&r129.2) (ck 1 (bx H λ x85 h346 H=>sE (λ hg=>AA Ak (C6 h346 hg)) (gc 2 (r128.2&&r129.2) (sE (g:=(r128.2&&r129.2)) (λ hg=>Av eU8 x85.Cells) (gc 1 (r128.2&&r129.2) (pA (en (cn H (λ H=>?_) (λ H=>?_))))))))))))))))))))))))))
  ·exact rx 17 16 (.refl _) (ck 8 (bx H λ x86 h347 H=>sp (AA Ak h347) (ck 2 (bx H λ s7 h348 H=>sp (XI h348) (ck 3 (bx H λ l58 h349 H=>sp (MA eU8 1 h349) (mx (bx H λ r130 h350 H=>lt [0] (hrec78k0_ h350) (nz (qN (qs (sg [0,1,3,6,8]) (hFR4_Maker_collect_J2 r130 H))))))))))))
  ·exact sk (qN (qs (sg [0,1,3,6,8]) (hFR4_Maker_collect_J2 m_2 H)))
 ·exact ex 0 (qx (by cases H;exact xo rfl (sg [])))
theorem Kp {z} (hrec78k0_:∀ {p1_:(List UInt8)} {p2_:Aa} {p3_:(List Int)} {b0_:Ao} {z:Ao},rec78k0_ p1_ p2_ p3_ b0_=some z->Bk Try.prog 78 [.ptr 0 0,.d (.str p1_),.agg (B4 p2_),.d (.sl (p3_.map eU8))] [some (.box (CK b0_))] 1 (.tup []) [some (.box (CK z))]) (H:A1 n rec78k0_ p1_ p2_ p3_ b0_=some z):Bk Try.prog 78 [.ptr 0 0,.d (.str p1_),.agg (B4 p2_),.d (.sl (p3_.map eU8))] [some (.box (CK b0_))] 1 (.tup []) [some (.box (CK z))]:=by
 refine fL 102 1 (JcZ p1_ p2_ p3_ b0_) Try.func78 (sr (ck 1 (en (sj (λ (x:Ao)=>Jc1 p1_ p2_ p3_ x) (λ (x:Ao)=>BC n rec78k0_ p1_ p2_ p3_ x) z ?_ (λ hFR4_Maker_collect_J1=>?_)))))
 ·intro m_1 H
  exact sr (ck 1 (en (bk 0 (bx H λ y84 h351 H=>lX (JD hrec78k0_) h351 (sg [0,1,3,6,8]) rfl λ s hE67=>qH (by cases H;exact pL' (rl (s':=Jc0 z) (tr (hE67) (sg []))))))))
 refine sr (ck 1 (sp (Av eU8 p3_) (ck 3 (gc 3 (((p3_.length:Nat):Int)==0) (ck 1 (bx H λ r131 h352 H=>cG false (leZ) rfl (λ hg=>H8 (C6 h352 hg)) (Or.inl rfl) (Cd (λ hh=>hh) (Cd (λ hh=>hh) (Ed))) rfl (pA (en (cn H (λ H=>?_) (λ H=>?_))))))))))
 ·exact rz (ck 6 (bx H λ r132 h353 H=>ca false (M7 h353) (ck 3 (ae (qs (sg [0,1,3,6]) (hFR4_Maker_collect_J1 ({ T:=b0_.T,L:=r132 }:Ao) H))))))
 ·exact sk (qs (sg [0,1,3,6]) (hFR4_Maker_collect_J1 b0_ H))
end
section
variable (p1_:(List UInt8)) (p2_:Aa) (p3_:(List Int)) (b0_:Ao)
variable {p1_ p2_ p3_ b0_}
theorem Ma {z} (H:Ea n p1_ p2_ p3_ b0_=some z):Bk Try.prog 78 [.ptr 0 0,.d (.str p1_),.agg (B4 p2_),.d (.sl (p3_.map eU8))] [some (.box (CK b0_))] 1 (.tup []) [some (.box (CK z))]:=by
  have key:∀ (d:Nat) {p1_:(List UInt8)} {p2_:Aa} {p3_:(List Int)} {b0_:Ao} {z:Ao},Nm (λ _ _ _ _=>none) (A1 n) d p1_ p2_ p3_ b0_=some z->Bk Try.prog 78 [.ptr 0 0,.d (.str p1_),.agg (B4 p2_),.d (.sl (p3_.map eU8))] [some (.box (CK b0_))] 1 (.tup []) [some (.box (CK z))]:=by
    intro d
    induction d with
    | zero=>intro _ _ _ _ _ H;cases H
    | succ d ih=>intro _ _ _ _ _ H;exact Kp (λ h=>ih h) H
  exact key n H
end
section
variable (p1_:(List UInt8)) (p2_:Aa) (p3_:(List Int)) (b0_:Ao) (x_103:Ao) (m_4:Ao) (m_5:Ao) (r_8:Int) (x_104:Ao) (m_6:Ao) (rec78k1_:((List UInt8)->Aa->(List Int)->Ao->Option Ao))
def Jc5:St:=⟨(0,.ptr 0 0)::(1,.d (.str p1_))::(2,.agg [.d (.int .i64 p2_.Mode),.d (.int .i64 p2_.Last),.d (.int .u8 p2_.Need)])::(3,.d (.sl (p3_.map eU8)))::[],[some (.box (LE b0_ (.osl 1 1 0 (b0_.L.length)))),some (.arr 1 (b0_.L.map eS))]⟩
def Jc6:St:=⟨[],[some (.box (CK x_103)),none]⟩
def Jc7:St:=⟨(0,.ptr 0 0)::(1,.d (.str p1_))::(3,.d (.sl (p3_.map eU8)))::(6,.ptr 2 0)::[],[some (.box (CK m_4)),none,some (.box (B4 p2_))]⟩
def Jc8:St:=⟨(0,.ptr 0 0)::(1,.d (.str p1_))::(3,.d (.sl (p3_.map eU8)))::(6,.ptr 2 0)::(8,.d (.int .i64 r_8))::[],[some (.box (CK m_5)),none,some (.box (B4 p2_))]⟩
def Jc9:St:=⟨[],[some (.box (CK x_104)),none]⟩
def Jda:St:=⟨(0,.ptr 0 0)::(1,.d (.str p1_))::(3,.d (.sl (p3_.map eU8)))::(6,.ptr 2 0)::(8,.d (.int .i64 r_8))::[],[some (.box (CK m_6)),none,some (.box (B4 p2_))]⟩
def JE:Ao->Ex->St->Prop:=xX 2 0 (λ (y:Ao)=>Jc9 y)
def FQ:(Ao×Int)->St:=(λ (x:(Ao×Int))=>Jc8 p1_ p2_ p3_ x.1 x.2)
variable {p1_ p2_ p3_ b0_ x_103 m_4 m_5 r_8 x_104 m_6 rec78k1_}
theorem I6 (x:(Ao×Int)) (z:((Ao×Int)⊕Ao)) (H:Gi n p1_ p2_ p3_ x.1 x.2=some z):WP (cxk 102 2) (AC Try.f78) [1,1,1,0,0] (AJ 2 (FQ p1_ p2_ p3_) (JE) z) (FQ p1_ p2_ p3_ x):=by
 obtain ⟨m_5,r_8⟩:=x
 refine sq (sr (ck 6 (sp (Av Ak m_5.T.Rules) (ck 1 (en (cn H (λ H=>?_) (λ H=>?_)))))))
 ·refine sk (qz (sj (λ (x:Ao)=>Jda p1_ p2_ p3_ r_8 x) (λ (x:Ao)=>D3 n r_8 x) z ?_ (λ hFR4_Maker_collectx_J2=>?_)))
  ·intro m_6 H
   exact rz (ck 3 (ae (by cases H;exact og (sg [0,1,3,6,8]))))
  refine bk 1 (sr (ck 6 (bx H λ x87 h358 H=>sp (AA Ak h358) (ck 3 (bx H λ r137 h359 H=>ca false (I5 h359) (ck 5 (en (sr (ck 6 (bx H λ r138 h360 H=>ca false (Hb h360) (ck 6 (en (sr (ck 3 (pA (ck 3 (gc 4 (r137.2&&r138.2) (ck 1 (bx H λ x88 h361 H=>sE (λ hg=>AA Ak (C6 h361 hg)) (gc 2 (r137.2&&r138.2) (sE (g:=(r137.2&&r138.2)) (λ hg=>Av eU8 x88.Cells) (gc 1 (r137.2&&r138.2) (pA (en (cn H (λ H=>?_) (λ H=>?_))))))))))))))))))))))))))
  ·exact rx 17 16 (.refl _) (ck 8 (bx H λ x89 h362 H=>sp (AA Ak h362) (ck 2 (bx H λ s8 h363 H=>sp (XI h363) (ck 3 (bx H λ l59 h364 H=>sp (MA eU8 1 h364) (mx (bx H λ r139 h365 H=>lt [0] (Ma h365) (nz (qN (qs (sg [0,1,3,6,8]) (hFR4_Maker_collectx_J2 r139 H))))))))))))
  ·exact sk (qN (qs (sg [0,1,3,6,8]) (hFR4_Maker_collectx_J2 m_5 H)))
 ·exact ex 0 (qx (by cases H;exact xo rfl (sg [])))
theorem JF {z} (hrec78k1_:∀ {p1_:(List UInt8)} {p2_:Aa} {p3_:(List Int)} {b0_:Ao} {z:Ao},rec78k1_ p1_ p2_ p3_ b0_=some z->Bk Try.prog 78 [.ptr 0 0,.d (.str p1_),.agg (B4 p2_),.d (.sl (p3_.map eU8))] [some (.box (LE b0_ (.osl 1 1 0 (b0_.L.length)))),some (.arr 1 (b0_.L.map eS))] 2 (.tup []) [some (.box (CK z)),none]) (H:Ew n rec78k1_ p1_ p2_ p3_ b0_=some z):Bk Try.prog 78 [.ptr 0 0,.d (.str p1_),.agg (B4 p2_),.d (.sl (p3_.map eU8))] [some (.box (LE b0_ (.osl 1 1 0 (b0_.L.length)))),some (.arr 1 (b0_.L.map eS))] 2 (.tup []) [some (.box (CK z)),none]:=by
 refine fL 102 2 (Jc5 p1_ p2_ p3_ b0_) Try.func78 (sr (ck 1 (en (sj (λ (x:Ao)=>Jc7 p1_ p2_ p3_ x) (λ (x:Ao)=>D4 n p1_ p2_ p3_ x) z ?_ (λ hFR4_Maker_collectx_J1=>?_)))))
 ·intro m_4 H
  exact sr (ck 1 (en (bk 0 (bx H λ y85 h366 H=>lX I6 h366 (sg [0,1,3,6,8]) rfl λ s hE68=>qH (by cases H;exact pL' (rl (s':=Jc6 z) (tr (hE68) (sg []))))))))
 refine sr (ck 1 (sp (Av eU8 p3_) (ck 3 (gc 3 (((p3_.length:Nat):Int)==0) (ck 1 (bx H λ r140 h367 H=>cG false (leZ) rfl (λ hg=>H8 (C6 h367 hg)) (Or.inl rfl) (Cd (λ hh=>hh) (Cd (λ hh=>hh) (Ed))) rfl (pA (en (cn H (λ H=>?_) (λ H=>?_))))))))))
 ·exact rz (ck 6 (bx H λ r141 h368 H=>cb (ks:=[1]) (obl:=[(0+List.length b0_.L,List.length (b0_.L.map eS))]) false (leK leM (leZ)) (DK MW (DK rfl rfl)) (M7 h368) (Or.inr (Jf4 λ _=>rfl)) rfl (ck 3 (ae (qs (tr (UC 1 rfl) (sg [0,1,3,6])) (hFR4_Maker_collectx_J1 ({ T:=b0_.T,L:=r141 }:Ao) H))))))
 ·exact sk (qs (tr (fzc (enc:=eS) (xs:=b0_.L) 0 3 1 1) (sg [0,1,3,6])) (hFR4_Maker_collectx_J1 b0_ H))
end
section
variable (p1_:(List UInt8)) (p2_:Aa) (p3_:(List Int)) (b0_:Ao)
variable {p1_ p2_ p3_ b0_}
theorem Lf {z} (H:Fz n p1_ p2_ p3_ b0_=some z):Bk Try.prog 78 [.ptr 0 0,.d (.str p1_),.agg (B4 p2_),.d (.sl (p3_.map eU8))] [some (.box (LE b0_ (.osl 1 1 0 (b0_.L.length)))),some (.arr 1 (b0_.L.map eS))] 2 (.tup []) [some (.box (CK z)),none]:=by
  have key:∀ (d:Nat) {p1_:(List UInt8)} {p2_:Aa} {p3_:(List Int)} {b0_:Ao} {z:Ao},Nm (λ _ _ _ _=>none) (Ew n) d p1_ p2_ p3_ b0_=some z->Bk Try.prog 78 [.ptr 0 0,.d (.str p1_),.agg (B4 p2_),.d (.sl (p3_.map eU8))] [some (.box (LE b0_ (.osl 1 1 0 (b0_.L.length)))),some (.arr 1 (b0_.L.map eS))] 2 (.tup []) [some (.box (CK z)),none]:=by
    intro d
    induction d with
    | zero=>intro _ _ _ _ _ H;cases H
    | succ d ih=>intro _ _ _ _ _ H;exact JF (λ h=>ih h) H
  exact key n H
end
section
variable (p0_:Ab) (p1_:(List Int))
def Jig:St:=⟨(0,.agg [.d (.int .i64 p0_.Modes),.d (.int .u8 p0_.Accept),.d (.sl (p0_.Rules.map Ak))])::(1,.d (.sl (p1_.map eU8)))::[],[]⟩
variable {p0_ p1_}
theorem Si {z} (H:Of n p0_ p1_=some z):AF Try.prog 62 [.agg (AL p0_),.d (.sl (p1_.map eU8))] (.d (.sl (z.map eS))):=by
 exact fO 18 (Jig p0_ p1_) Try.func62 (sr (ck 2 (en (sr (ck 5 (en (sr (ck 1 (bx H λ r142 h369 H=>ca false (Km h369) (ck 1 (bx H λ r143 h370 H=>lt [2,1] (Lf h370) (en (sr (ck 5 (en (re (by cases H;exact pr rd)))))))))))))))))
end
section
variable (p0_:(List Aa)) (p1_:Aa) (i_16:Int)
def Jih:St:=⟨(0,.d (.sl (p0_.map As)))::(1,.agg [.d (.int .i64 p1_.Mode),.d (.int .i64 p1_.Last),.d (.int .u8 p1_.Need)])::[],[]⟩
def Jii:St:=⟨(0,.d (.sl (p0_.map As)))::(3,.ptr 0 0)::(5,.d (.int .i64 i_16))::[],[some (.box (B4 p1_))]⟩
def Jij:St:=⟨[],[]⟩
def Sj:(Unit⊕Int)->Ex->St->Prop:=xS (xX 0 0 (λ (y:Unit)=>Jij)) (xR ty Try.f34 (λ (y:Int)=>.d (.int .i64 y)))
def Mb:Int->St:=(λ (x:Int)=>Jii p0_ p1_ x)
variable {p0_ p1_ i_16}
theorem KX (x:Int) (z:(Int⊕(Unit⊕Int))) (H:CM n p0_ p1_ x=some z):WP (cxk 19 0) (AC Try.f34) [1,0,1,0,0] (AJ 0 (Mb p0_ p1_) (Sj) z) (Mb p0_ p1_ x):=by
 revert H
 generalize x=i_16
 intro H
 refine sq (sr (ck 2 (sp (Av As p0_) (ck 1 (en (cn H (λ H=>?_) (λ H=>?_)))))))
 ·refine sk (qz (sq (bk 1 (sr (ck 2 (bx H λ x90 h371 H=>sp (AA As h371) (ck 3 (en (cn H (λ H=>?_) (λ H=>?_))))))))))
  ·exact sr (ck 2 (en (re (qR (qr (by cases H;exact ro rfl rd))))))
  ·exact sk (qN (qz (rz (ck 3 (ae (by cases H;exact og (sg [0,3,5])))))))
 ·exact ex 0 (qx (by cases H;exact xo rfl (sg [])))
theorem Kq {z} (H:GB n p0_ p1_=some z):AF Try.prog 34 [.d (.sl (p0_.map As)),.agg (B4 p1_)] (.d (.int .i64 z)):=by
 refine fO 19 (Jih p0_ p1_) Try.func34 (sr (ck 2 (en (sq (sr (ck 1 (en (bk 0 (bx H λ y86 h372 H=>?_)))))))))
 rcases y86 with y87|y88
 ·exact lX KX h372 (sg [0,3,5]) rfl λ s hE69=>qH (qs (hE69) (sr (ck 1 (en (re (by cases H;exact pr rd))))))
 ·exact lR KX h372 (sg [0,3,5]) rfl λ s hE70=>qR (qr (by cases H;exact pr hE70))
end
end Go.AI
end
section
namespace Go.AI
open Go.Proofs
set_option maxRecDepth 10000
variable {n:Nat}
section
variable (p0_:Ab) (out_12:(List Aa)) (i_17:Int) (out_13:(List Aa)) (out_14:(List Aa)) (k_3:Int) (out_15:(List Aa)) (out_16:(List Aa))
def Jik:St:=⟨(0,.agg [.d (.int .i64 p0_.Modes),.d (.int .u8 p0_.Accept),.d (.sl (p0_.Rules.map Ak))])::[],[]⟩
def Jil:St:=⟨(1,.ptr 0 0)::(3,.osl 1 3 0 (out_12.length))::(4,.d (.int .i64 i_17))::[],[some (.box (AL p0_)),some (.arr 3 (out_12.map As))]⟩
def Jim:St:=⟨(3,.osl 0 3 0 (out_13.length))::[],[some (.arr 3 (out_13.map As))]⟩
def Jin:St:=⟨(1,.ptr 0 0)::(3,.osl 1 3 0 (out_14.length))::(4,.d (.int .i64 i_17))::(5,.d (.int .i64 k_3))::[],[some (.box (AL p0_)),some (.arr 3 (out_14.map As))]⟩
def Jio:St:=⟨(1,.ptr 0 0)::(3,.osl 1 3 0 (out_15.length))::(4,.d (.int .i64 i_17))::[],[some (.box (AL p0_)),some (.arr 3 (out_15.map As))]⟩
def Jip:St:=⟨(1,.ptr 0 0)::(3,.osl 1 3 0 (out_16.length))::(4,.d (.int .i64 i_17))::(5,.d (.int .i64 k_3))::[],[some (.box (AL p0_)),some (.arr 3 (out_16.map As))]⟩
def Qi:(List Aa)->Ex->St->Prop:=xX 0 2 (λ (y:(List Aa))=>Jio p0_ i_17 y)
def KY:((List Aa)×Int)->St:=(λ (x:((List Aa)×Int))=>Jin p0_ i_17 x.1 x.2)
def Qj:(List Aa)->Ex->St->Prop:=xX 0 0 (λ (y:(List Aa))=>Jim y)
def KZ:((List Aa)×Int)->St:=(λ (x:((List Aa)×Int))=>Jil p0_ x.1 x.2)
variable {p0_ out_12 i_17 out_13 out_14 k_3 out_15 out_16}
theorem Pe (x:((List Aa)×Int)) (z:(((List Aa)×Int)⊕(List Aa))) (H:CO n p0_ i_17 x.1 x.2=some z):WP (cxk 45 0) (AC Try.f26) [1,1,0,1,0,0,1,0,0,1,0,0] (AJ 0 (KY p0_ i_17) (Qi p0_ i_17) z) (KY p0_ i_17 x):=by
 obtain ⟨out_14,k_3⟩:=x
 refine sq (sr (ck 3 (sp (Av Ak p0_.Rules) (ck 1 (en (cn H (λ H=>?_) (λ H=>?_)))))))
 ·refine sk (qz (sj (λ (x:(List Aa))=>Jip p0_ i_17 k_3 x) (λ (x:(List Aa))=>Dw n k_3 x) z ?_ (λ hFR3_States_J1=>?_)))
  ·intro out_16 H
   exact rz (ck 3 (ae (by cases H;exact og (sg [1,3,4,5]))))
  refine bk 3 (sr (ck 3 (bx H λ x91 h374 H=>sp (Bc 1 3 h374) (sp (DD As 1 0 (ty 26) h374) (ck 1 (bx H λ r145 h375 H=>ca false (Hb h375) (ck 6 (en (sr (ck 4 (bx H λ r146 h376 H=>cG (ks:=[1]) (obl:=[(0+List.length out_14,List.length (out_14.map As))]) false (leK leM (leZ)) (DK MW (DK rfl rfl)) (λ hg=>Kq (C6 h376 hg)) (Or.inr trivial) (Cd (λ hh=>hh) (Cd (λ hh=>hh) (Ed))) rfl (gc 1 r145.2 (pA (en (cn H (λ H=>?_) (λ H=>?_))))))))))))))))
  ·exact rz (ck 3 (bx H λ l60 h377 H=>sp (Bm As 1 3 h377) (ck 1 (ae (qN (qs (sg [1,3,4,5]) (hFR3_States_J1 l60 H)))))))
  ·exact sk (qN (qs (sg [1,3,4,5]) (hFR3_States_J1 out_14 H)))
 ·exact ex 2 (qx (by cases H;exact xo rfl (sg [1,3,4])))
theorem Pf (x:((List Aa)×Int)) (z:(((List Aa)×Int)⊕(List Aa))) (H:Dx n p0_ x.1 x.2=some z):WP (cxk 45 0) (AC Try.f26) [1,1,0,1,0,0] (AJ 0 (KZ p0_) (Qj) z) (KZ p0_ x):=by
 obtain ⟨out_12,i_17⟩:=x
 refine sq (sr (ck 4 (en (cn H (λ H=>?_) (λ H=>?_)))))
 ·exact sk (qz (sq (bk 1 (sr (ck 1 (en (bk 2 (bx H λ y89 h378 H=>lX Pe h378 (sg [1,3,4,5]) rfl λ s hE71=>qH (qN (qs (hE71) (rz (ck 3 (ae (by cases H;exact og (sg [1,3,4])))))))))))))))
 ·exact ex 0 (qx (by cases H;exact xo rfl (sg [3])))
theorem M8 {z} (H:FA n p0_=some z):AF Try.prog 26 [.agg (AL p0_)] (.own 3 (z.map As)):=by
 exact fO 45 (Jik p0_) Try.func26 (sr (ck 2 (en (sr (bx H λ r144 h373 H=>ca false (Km h373) (ck 2 (en (sq (sr (ck 1 (en (bk 0 (bx H λ y90 h379 H=>lX Pf h379 (sg [1,3,4]) rfl λ s hE72=>qH (qs (hE72) (sr (ck 2 (en (re (by cases H;exact pr (rO (v:=.osl 0 3 0 (z.length)) [0] (ao vo)))))))))))))))))))))
end
section
variable (p0_:Ab) (r147:(List Aa)) (out_17:(List Bool)) (i_18:Int) (out_18:(List Bool)) (out_19:(List Bool)) (grown_1:Bool) (out_20:(List Bool)) (out_21:(List Bool)) (grown_2:Bool) (i_19:Int) (out_22:(List Bool)) (grown_3:Bool) (out_23:(List Bool)) (grown_4:Bool) (k_4:Int) (out_24:(List Bool)) (grown_5:Bool) (out_25:(List Bool)) (grown_6:Bool)
def Jiq:St:=⟨(0,.agg [.d (.int .i64 p0_.Modes),.d (.int .u8 p0_.Accept),.d (.sl (p0_.Rules.map Ak))])::[],[]⟩
def Jir:St:=⟨(1,.ptr 0 0)::(3,.d (.sl (r147.map As)))::(4,.osl 1 1 0 (out_17.length))::(5,.d (.int .i64 i_18))::[],[some (.box (AL p0_)),some (.arr 1 (out_17.map eB))]⟩
def Jis:St:=⟨(1,.ptr 0 0)::(3,.d (.sl (r147.map As)))::(4,.osl 1 1 0 (out_18.length))::[],[some (.box (AL p0_)),some (.arr 1 (out_18.map eB))]⟩
def Sk:(List Bool)->Ex->St->Prop:=xX 0 0 (λ (y:(List Bool))=>Jis p0_ r147 y)
def Mc:((List Bool)×Int)->St:=(λ (x:((List Bool)×Int))=>Jir p0_ r147 x.1 x.2)
def Jit:St:=⟨(1,.ptr 0 0)::(3,.d (.sl (r147.map As)))::(4,.osl 1 1 0 (out_19.length))::(6,.d (.bool grown_1))::[],[some (.box (AL p0_)),some (.arr 1 (out_19.map eB))]⟩
def Jiu:St:=⟨(4,.osl 0 1 0 (out_20.length))::[],[some (.arr 1 (out_20.map eB))]⟩
def Jiv:St:=⟨(1,.ptr 0 0)::(3,.d (.sl (r147.map As)))::(4,.osl 1 1 0 (out_21.length))::(6,.d (.bool grown_2))::(7,.d (.int .i64 i_19))::[],[some (.box (AL p0_)),some (.arr 1 (out_21.map eB))]⟩
def Jiw:St:=⟨(1,.ptr 0 0)::(3,.d (.sl (r147.map As)))::(4,.osl 1 1 0 (out_22.length))::(6,.d (.bool grown_3))::[],[some (.box (AL p0_)),some (.arr 1 (out_22.map eB))]⟩
def Jix:St:=⟨(1,.ptr 0 0)::(3,.d (.sl (r147.map As)))::(4,.osl 1 1 0 (out_23.length))::(6,.d (.bool grown_4))::(7,.d (.int .i64 i_19))::(8,.d (.int .i64 k_4))::[],[some (.box (AL p0_)),some (.arr 1 (out_23.map eB))]⟩
def Jiy:St:=⟨(1,.ptr 0 0)::(3,.d (.sl (r147.map As)))::(4,.osl 1 1 0 (out_24.length))::(6,.d (.bool grown_5))::(7,.d (.int .i64 i_19))::[],[some (.box (AL p0_)),some (.arr 1 (out_24.map eB))]⟩
def JeP:St:=⟨(1,.ptr 0 0)::(3,.d (.sl (r147.map As)))::(4,.osl 1 1 0 (out_25.length))::(6,.d (.bool grown_6))::(7,.d (.int .i64 i_19))::(8,.d (.int .i64 k_4))::[],[some (.box (AL p0_)),some (.arr 1 (out_25.map eB))]⟩
def Sl:((List Bool)×Bool)->Ex->St->Prop:=xX 0 6 (λ (y:((List Bool)×Bool))=>Jiy p0_ r147 i_19 y.1 y.2)
def Md:((List Bool)×Bool×Int)->St:=(λ (x:((List Bool)×Bool×Int))=>Jix p0_ r147 i_19 x.1 x.2.1 x.2.2)
def Sm:((List Bool)×Bool)->Ex->St->Prop:=xX 0 4 (λ (y:((List Bool)×Bool))=>Jiw p0_ r147 y.1 y.2)
def Me:((List Bool)×Bool×Int)->St:=(λ (x:((List Bool)×Bool×Int))=>Jiv p0_ r147 x.1 x.2.1 x.2.2)
def Sn:(List Bool)->Ex->St->Prop:=xX 0 2 (λ (y:(List Bool))=>Jiu y)
def Mf:((List Bool)×Bool)->St:=(λ (x:((List Bool)×Bool))=>Jit p0_ r147 x.1 x.2)
variable {p0_ r147 out_17 i_18 out_18 out_19 grown_1 out_20 out_21 grown_2 i_19 out_22 grown_3 out_23 grown_4 k_4 out_24 grown_5 out_25 grown_6}
theorem Qk (x:((List Bool)×Int)) (z:(((List Bool)×Int)⊕(List Bool))) (H:Do n p0_ r147 x.1 x.2=some z):WP (cxk 73 0) (AC Try.f29) [1,1,0,1,0,0] (AJ 0 (Mc p0_ r147) (Sk p0_ r147) z) (Mc p0_ r147 x):=by
 obtain ⟨out_17,i_18⟩:=x
 refine sq (sr (ck 2 (sp (Av As r147) (ck 1 (en (cn H (λ H=>?_) (λ H=>?_)))))))
 ·exact sk (qz (sq (bk 1 (rz (ck 4 (bx H λ x92 h381 H=>sp (AA As h381) (ck 1 (bx H λ r148 h382 H=>ca false (H8 h382) (ck 1 (bx H λ l61 h383 H=>sp (Bm eB 1 1 h383) (ck 1 (ae (qN (qz (rz (ck 3 (ae (by cases H;exact og (sg [1,3,4,5])))))))))))))))))))
 ·exact ex 0 (qx (by cases H;exact xo rfl (sg [1,3,4])))
theorem Ql (x:((List Bool)×Bool×Int)) (z:(((List Bool)×Bool×Int)⊕((List Bool)×Bool))) (H:Cu n p0_ r147 i_19 x.1 x.2.1 x.2.2=some z):WP (cxk 73 0) (AC Try.f29) [1,1,1,0,1,0,0,1,0,1,1,0,0,1,0,0,1,0,0] (AJ 0 (Md p0_ r147 i_19) (Sl p0_ r147 i_19) z) (Md p0_ r147 i_19 x):=by
 obtain ⟨out_23,grown_4,k_4⟩:=x
 refine sq (sr (ck 3 (sp (Av Ak p0_.Rules) (ck 4 (bx H λ x93 h385 H=>sE (λ hg=>Bc 1 1 (C6 h385 hg)) (sE (g:=decide (k_4<((p0_.Rules.length:Nat):Int))) (λ hg=>DD eB 1 0 (ty 4) (C6 h385 hg)) (gc 1 (decide (k_4<((p0_.Rules.length:Nat):Int))) (pA (en (cn H (λ H=>?_) (λ H=>?_)))))))))))
 ·refine sk (qz (sj (λ (x:((List Bool)×Bool))=>JeP p0_ r147 i_19 k_4 x.1 x.2) (λ (x:((List Bool)×Bool))=>DT n k_4 x.1 x.2) z ?_ (λ hFR3_Alive_J1=>?_)))
  ·rintro ⟨out_25,grown_6⟩ H
   exact rz (ck 3 (ae (by cases H;exact og (sg [1,3,4,6,7,8]))))
  refine bk 7 (sr (ck 3 (bx H λ x94 h386 H=>sp (AA As h386) (ck 2 (bx H λ r149 h387 H=>ca false (Hb h387) (ck 6 (en (sr (ck 5 (bx H λ r150 h388 H=>cG false (leZ) rfl (λ hg=>Kq (C6 h388 hg)) (Or.inl rfl) (Cd (λ hh=>hh) (Cd (λ hh=>hh) (Ed))) rfl (bx H λ x95 h389 H=>sE (λ hg=>Bc 1 1 (C6 h389 hg)) (sE (g:=r149.2) (λ hg=>DD eB 1 0 (ty 4) (C6 h389 hg)) (pA (en (cn H (λ H=>?_) (λ H=>?_))))))))))))))))
  ·exact sr (ck 2 (bx H λ x96 h390 H=>sp (Bc 1 1 h390) (bx H λ l62 h391 H=>stA eB 1 0 (ty 4) h390 h391 (en (rg (tr (sn 4 1 1 (Di h391)) (sn 69 1 1 (Di h391))) (ck 1 (ae (qN (qs (sg [1,3,4,6,7,8]) (hFR3_Alive_J1 (l62,true) H))))))))))
  ·exact sk (qN (qs (sg [1,3,4,6,7,8]) (hFR3_Alive_J1 (out_23,grown_4) H)))
 ·exact ex 6 (qx (by cases H;exact xo rfl (sg [1,3,4,6,7])))
theorem Qm (x:((List Bool)×Bool×Int)) (z:(((List Bool)×Bool×Int)⊕((List Bool)×Bool))) (H:Dp n p0_ r147 x.1 x.2.1 x.2.2=some z):WP (cxk 73 0) (AC Try.f29) [1,1,1,0,1,0,0,1,0,1,1,0,0] (AJ 0 (Me p0_ r147) (Sm p0_ r147) z) (Me p0_ r147 x):=by
 obtain ⟨out_21,grown_2,i_19⟩:=x
 refine sq (sr (ck 2 (sp (Av As r147) (ck 1 (en (cn H (λ H=>?_) (λ H=>?_)))))))
 ·exact sk (qz (sq (bk 5 (sr (ck 1 (en (bk 6 (bx H λ y92 h392 H=>lX Ql h392 (sg [1,3,4,6,7,8]) rfl λ s hE74=>qH (qN (qs (hE74) (rz (ck 3 (ae (by cases H;exact og (sg [1,3,4,6,7])))))))))))))))
 ·exact ex 4 (qx (by cases H;exact xo rfl (sg [1,3,4,6])))
theorem Qn (x:((List Bool)×Bool)) (z:(((List Bool)×Bool)⊕(List Bool))) (H:EQ n p0_ r147 x.1 x.2=some z):WP (cxk 73 0) (AC Try.f29) [1,1,1,0,1,0,0] (AJ 0 (Mf p0_ r147) (Sn) z) (Mf p0_ r147 x):=by
 obtain ⟨out_19,grown_1⟩:=x
 refine sq (sr (ck 1 (en (cn H (λ H=>?_) (λ H=>?_)))))
 ·exact sk (qz (bk 3 (sr (ck 1 (en (sr (ck 1 (en (bk 4 (bx H λ y93 h393 H=>lX Qm h393 (sg [1,3,4,6,7]) rfl λ s hE75=>qH (qN (by cases H;exact og (tr (hE75) (sg [1,3,4,6]))))))))))))))
 ·exact ex 2 (qx (by cases H;exact xo rfl (sg [4])))
theorem UT {z} (H:HP n p0_=some z):AF Try.prog 29 [.agg (AL p0_)] (.own 1 (z.map eB)):=by
 exact fO 73 (Jiq p0_) Try.func29 (sr (ck 2 (en (sr (ck 1 (bx H λ r147 h380 H=>ca false (M8 h380) (ck 3 (en (sq (sr (ck 1 (en (bk 0 (bx H λ y91 h384 H=>lX Qk h384 (sg [1,3,4,5]) rfl λ s hE73=>qH (qs (hE73) (sq (sr (ck 1 (en (bk 2 (bx H λ y94 h394 H=>lX Qn h394 (sg [1,3,4,6]) rfl λ s hE76=>qH (qs (hE76) (sr (ck 2 (en (re (by cases H;exact pr (rO (v:=.osl 0 1 0 (z.length)) [0] (ao vo)))))))))))))))))))))))))))))
end
section
variable (p0_:Ab) (p1_:Aa)
def Jiz:St:=⟨(0,.agg [.d (.int .i64 p0_.Modes),.d (.int .u8 p0_.Accept),.d (.sl (p0_.Rules.map Ak))])::(1,.agg [.d (.int .i64 p1_.Mode),.d (.int .i64 p1_.Last),.d (.int .u8 p1_.Need)])::[],[]⟩
variable {p0_ p1_}
theorem UU {z} (H:HQ n p0_ p1_=some z):AF Try.prog 81 [.agg (AL p0_),.agg (B4 p1_)] (.d (.bool z)):=by
 exact fO 27 (Jiz p0_ p1_) Try.func81 (sr (ck 3 (en (sr (ck 1 (bx H λ r151 h395 H=>ca false (UT h395) (ck 1 (en (sr (ck 1 (bx H λ r152 h396 H=>ca false (M8 h396) (ck 1 (bx H λ r153 h397 H=>ca false (Kq h397) (ck 1 (en (sr (ck 5 (sE (g:=decide (r153>=0)) (λ hg=>Av eB r151) (gc 1 (decide (r153>=0)) (pA (ck 3 (bx H λ x97 h398 H=>sE (λ hg=>AA eB (C6 h398 hg)) (gc 1 ((decide (r153>=0))&&(decide (r153<((r151.length:Nat):Int)))) (pA (ck 1 (en (re (by cases H;exact pr rd))))))))))))))))))))))))))))
end
section
variable (p0_:Ab) (p1_:Aa) (p2_:(List Int)) (r_9:Int) (rec65_:(Ab->Aa->(List Int)->Option Bool))
def JiA:St:=⟨(0,.agg [.d (.int .i64 p0_.Modes),.d (.int .u8 p0_.Accept),.d (.sl (p0_.Rules.map Ak))])::(1,.agg [.d (.int .i64 p1_.Mode),.d (.int .i64 p1_.Last),.d (.int .u8 p1_.Need)])::(2,.d (.sl (p2_.map eU8)))::[],[]⟩
def JiB:St:=⟨(2,.d (.sl (p2_.map eU8)))::(3,.ptr 0 0)::(4,.ptr 1 0)::(7,.d (.int .i64 r_9))::[],[some (.box (AL p0_)),some (.box (B4 p1_))]⟩
def JiC:St:=⟨[],[]⟩
def S6:(Unit⊕Bool)->Ex->St->Prop:=xS (xX 0 0 (λ (y:Unit)=>JiC)) (xR ty Try.f65 (λ (y:Bool)=>.d (.bool y)))
def M9:Int->St:=(λ (x:Int)=>JiB p0_ p1_ p2_ x)
variable {p0_ p1_ p2_ r_9 rec65_}
theorem Mg (hrec65_:∀ {p0_:Ab} {p1_:Aa} {p2_:(List Int)} {z:Bool},rec65_ p0_ p1_ p2_=some z->AF Try.prog 65 [.agg (AL p0_),.agg (B4 p1_),.d (.sl (p2_.map eU8))] (.d (.bool z))) (x:Int) (z:(Int⊕(Unit⊕Bool))) (H:Ey n rec65_ p0_ p1_ p2_ x=some z):WP (cxk 55 0) (AC Try.f65) [1,1,0,1,0,0] (AJ 0 (M9 p0_ p1_ p2_) (S6) z) (M9 p0_ p1_ p2_ x):=by
 revert H
 generalize x=r_9
 intro H
 refine sq (sr (ck 3 (sp (Av Ak p0_.Rules) (ck 1 (en (cn H (λ H=>?_) (λ H=>?_)))))))
 ·refine sk (qz (sq (bk 1 (sr (ck 3 (bx H λ x98 h401 H=>sp (AA Ak h401) (ck 3 (bx H λ r156 h402 H=>ca false (I5 h402) (ck 5 (en (sr (ck 3 (bx H λ r157 h403 H=>ca false (Hb h403) (ck 6 (en (sr (ck 3 (pA (ck 5 (bx H λ l63 h404 H=>sE (λ hg=>MA eU8 1 (C6 h404 hg)) (bx H λ r158 h405 H=>cG false (leZ) rfl (λ hg=>hrec65_ (C6 h405 hg)) (Or.inl rfl) (Cd (λ hh=>hh) (Cd (λ hh=>hh) (Cd (λ hh=>hh) (Ed)))) rfl (pA (en (cn H (λ H=>?_) (λ H=>?_)))))))))))))))))))))))))
  ·exact sr (ck 1 (en (re (qR (qr (by cases H;exact ro rfl rd))))))
  ·exact sk (qN (qz (rz (ck 3 (ae (by cases H;exact og (sg [2,3,4,7])))))))
 ·exact ex 0 (qx (by cases H;exact xo rfl (sg [])))
theorem S7 {z} (hrec65_:∀ {p0_:Ab} {p1_:Aa} {p2_:(List Int)} {z:Bool},rec65_ p0_ p1_ p2_=some z->AF Try.prog 65 [.agg (AL p0_),.agg (B4 p1_),.d (.sl (p2_.map eU8))] (.d (.bool z))) (H:C0 n rec65_ p0_ p1_ p2_=some z):AF Try.prog 65 [.agg (AL p0_),.agg (B4 p1_),.d (.sl (p2_.map eU8))] (.d (.bool z)):=by
 refine fO 55 (JiA p0_ p1_ p2_) Try.func65 (sr (ck 3 (en (sq (sr (ck 1 (sp (Av eU8 p2_) (ck 1 (en (cn H (λ H=>?_) (λ H=>?_)))))))))))
 ·exact sr (ck 2 (bx H λ r155 h400 H=>ca true (UU h400) (ck 1 (en (re (qr (by cases H;exact pr rd)))))))
 ·refine sk (qz (sq (sr (ck 1 (en (bk 0 (bx H λ y95 h406 H=>?_)))))))
  rcases y95 with y96|y97
  ·exact lX (Mg hrec65_) h406 (sg [2,3,4,7]) rfl λ s hE77=>qH (qs (hE77) (sr (ck 1 (en (re (by cases H;exact pr rd))))))
  ·exact lR (Mg hrec65_) h406 (sg [2,3,4,7]) rfl λ s hE78=>qR (qr (by cases H;exact pr hE78))
end
section
variable (p0_:Ab) (p1_:Aa) (p2_:(List Int))
variable {p0_ p1_ p2_}
theorem Wu {z} (H:RX n p0_ p1_ p2_=some z):AF Try.prog 65 [.agg (AL p0_),.agg (B4 p1_),.d (.sl (p2_.map eU8))] (.d (.bool z)):=by
  have key:∀ (d:Nat) {p0_:Ab} {p1_:Aa} {p2_:(List Int)} {z:Bool},Nm (λ _ _ _=>none) (C0 n) d p0_ p1_ p2_=some z->AF Try.prog 65 [.agg (AL p0_),.agg (B4 p1_),.d (.sl (p2_.map eU8))] (.d (.bool z)):=by
    intro d
    induction d with
    | zero=>intro _ _ _ _ H;cases H
    | succ d ih=>intro _ _ _ _ H;exact S7 (λ h=>ih h) H
  exact key n H
end
section
variable (p0_:Ab) (p1_:(List Int))
def JiD:St:=⟨(0,.agg [.d (.int .i64 p0_.Modes),.d (.int .u8 p0_.Accept),.d (.sl (p0_.Rules.map Ak))])::(1,.d (.sl (p1_.map eU8)))::[],[]⟩
variable {p0_ p1_}
theorem PV {z} (H:LB n p0_ p1_=some z):AF Try.prog 47 [.agg (AL p0_),.d (.sl (p1_.map eU8))] (.d (.bool z)):=by
 exact fO 9 (JiD p0_ p1_) Try.func47 (sr (ck 2 (en (sr (ck 1 (bx H λ r159 h407 H=>ca false (Km h407) (ck 1 (bx H λ r160 h408 H=>ca true (Wu h408) (ck 1 (en (re (by cases H;exact pr rd))))))))))))
end
section
variable (p0_:Ab) (p1_:(List Int)) (at_1:Int) (n_4:Int) (at_2:Int) (at_3:Int)
def JiE:St:=⟨(0,.agg [.d (.int .i64 p0_.Modes),.d (.int .u8 p0_.Accept),.d (.sl (p0_.Rules.map Ak))])::(1,.d (.sl (p1_.map eU8)))::[],[]⟩
def JiF:St:=⟨(1,.d (.sl (p1_.map eU8)))::(2,.ptr 0 0)::(8,.d (.int .i64 at_1))::(9,.d (.int .i64 n_4))::[],[some (.box (AL p0_))]⟩
def JiG:St:=⟨(8,.d (.int .i64 at_2))::[],[]⟩
def JiH:St:=⟨(1,.d (.sl (p1_.map eU8)))::(2,.ptr 0 0)::(8,.d (.int .i64 at_3))::(9,.d (.int .i64 n_4))::[],[some (.box (AL p0_))]⟩
def S8:Int->Ex->St->Prop:=xX 0 0 (λ (y:Int)=>JiG y)
def Na:(Int×Int)->St:=(λ (x:(Int×Int))=>JiF p0_ p1_ x.1 x.2)
variable {p0_ p1_ at_1 n_4 at_2 at_3}
theorem So (x:(Int×Int)) (z:((Int×Int)⊕Int)) (H:G6 n p0_ p1_ x.1 x.2=some z):WP (cxk 34 0) (AC Try.f42) [1,1,1,1,0,1,0,0] (AJ 0 (Na p0_ p1_) (S8) z) (Na p0_ p1_ x):=by
 obtain ⟨at_1,n_4⟩:=x
 refine sq (sr (ck 2 (sp (Av eU8 p1_) (ck 1 (en (cn H (λ H=>?_) (λ H=>?_)))))))
 ·refine sk (qz (sj (λ (x:Int)=>JiH p0_ p1_ n_4 x) (λ (x:Int)=>LC n n_4 x) z ?_ (λ hFR4_Read_J1=>?_)))
  ·intro at_3 H
   exact rz (ck 3 (ae (by cases H;exact og (sg [1,2,8,9]))))
  refine bk 1 (sr (ck 3 (bx H λ l64 h411 H=>sp (XJ eU8 1 h411) (bx H λ r162 h412 H=>ca false (PV h412) (en (cn H (λ H=>?_) (λ H=>?_)))))))
  ·exact rz (ck 2 (ae (qN (qs (sg [1,2,8,9]) (hFR4_Read_J1 n_4 H)))))
  ·exact sk (qN (qs (sg [1,2,8,9]) (hFR4_Read_J1 at_1 H)))
 ·exact ex 0 (qx (by cases H;exact xo rfl (sg [8])))
theorem Wv {z} (H:Og n p0_ p1_=some z):AF Try.prog 42 [.agg (AL p0_),.d (.sl (p1_.map eU8))] (.tup [.d (.str z.1),.d (.int .i64 z.2.1),.d (.int .i64 z.2.2)]):=by
 refine fO 34 (JiE p0_ p1_) Try.func42 (sr (ck 4 (en (sr (ck 2 (bx H λ r161 h409 H=>ca false (Si h409) (ck 1 (en (sq (sr (ck 1 (sp (Av eS r161) (ck 1 (en (cn H (λ H=>?_) (λ H=>?_))))))))))))))))
 ·exact sr (ck 1 (bx H λ x99 h410 H=>sp (AA eS h410) (ck 2 (sp (Av eU8 p1_) (ck 3 (en (re (qr (by cases H;exact pr rdT)))))))))
 ·exact sk (qz (sr (ck 1 (en (sq (sr (ck 1 (en (bk 0 (bx H λ y98 h413 H=>lX So h413 (sg [1,2,8,9]) rfl λ s hE79=>qH (qs (hE79) (sr (ck 4 (en (re (by cases H;exact pr rdT))))))))))))))))
end
section
variable (p0_:Ab) (p1_:(List Int)) (p2_:Int)
def JiI:St:=⟨(0,.agg [.d (.int .i64 p0_.Modes),.d (.int .u8 p0_.Accept),.d (.sl (p0_.Rules.map Ak))])::(1,.d (.sl (p1_.map eU8)))::(2,.d (.int .i64 p2_))::[],[]⟩
variable {p0_ p1_ p2_}
theorem UV {z} (H:ME n p0_ p1_ p2_=some z):AF Try.prog 44 [.agg (AL p0_),.d (.sl (p1_.map eU8)),.d (.int .i64 p2_)] (.tup [.d (.sl (z.1.map eS)),.d (.int .i64 z.2)]):=by
 refine fO 19 (JiI p0_ p1_ p2_) Try.func44 (sr (ck 3 (en (sq (sr (ck 2 (en (cn H (λ H=>?_) (λ H=>?_)))))))))
 ·exact sr (ck 2 (en (re (qr (by cases H;exact pr (rT (vs:=[.d (.nil),.d (.int .i64 1)]) [] (t1 (ad vn) (t1 (ad vd) (t0)))))))))
 ·refine sk (qz (sr (ck 2 (bx H λ r163 h414 H=>ca true (Si h414) (ck 1 (en (sq (sr (ck 1 (sp (Av eS r163) (ck 2 (en (cn H (λ H=>?_) (λ H=>?_))))))))))))))
  ·exact sr (ck 2 (en (re (qr (by cases H;exact pr (rT (vs:=[.d (.nil),.d (.int .i64 2)]) [] (t1 (ad vn) (t1 (ad vd) (t0)))))))))
  ·exact sk (qz (sr (ck 3 (en (re (by cases H;exact pr rdT))))))
end
section
variable (p0_:MM) (p1_:(List Int)) (p2_:Int)
def JiJ:St:=⟨(0,.agg [.d (.int .u8 p0_.Base),.d (.int .u8 p0_.Drop),.d (.sl (p0_.More.map FL))])::(1,.d (.sl (p1_.map eU8)))::(2,.d (.int .i8 p2_))::[],[]⟩
variable {p0_ p1_ p2_}
theorem Gg {z} (H:BV n p0_ p1_ p2_=some z):AF Try.prog 10 [.agg (XT p0_),.d (.sl (p1_.map eU8)),.d (.int .i8 p2_)] (.d (.bool z)):=by
 exact fO 91 (JiJ p0_ p1_ p2_) Try.func10 (sr (ck 2 (en (sr (bx H λ r164 h415 H=>ca false (SZ h415) (ck 1 (en (sr (ck 1 (bx H λ r165 h416 H=>ca false (Wt h416) (ck 2 (en (sr (ck 2 (bx H λ r166 h417 H=>ca false (US h417) (ck 1 (en (sr (ck 2 (bx H λ r167 h418 H=>ca false (IH h418) (ck 7 (en (sr (ck 2 (bx H λ r168 h419 H=>ca false (Wv h419) (ck 7 (en (sr (ck 4 (bx H λ r169 h420 H=>ca false (HF h420) (ck 5 (en (sr (ck 4 (bx H λ r170 h421 H=>ca false (UV h421) (ck 5 (en (sr (ck 4 (gc 1 r164 (pA (ck 3 (gc 1 (r164&&(r167.1==r168.1)) (pA (ck 3 (gc 1 ((r164&&(r167.1==r168.1))&&(r167.2.1==r168.2.1)) (pA (ck 3 (bx H λ r171 h422 H=>cG false (leZ) rfl (λ hg=>LZ (C6 h422 hg)) (Or.inl rfl) (Cd (λ hh=>hh) (Cd (λ hh=>hh) (Ed))) rfl (pA (ck 3 (gc 1 ((((r164&&(r167.1==r168.1))&&(r167.2.1==r168.2.1))&&(r167.2.2==r168.2.2))&&r171) (pA (ck 3 (bx H λ r172 h423 H=>cG false (leZ) rfl (λ hg=>L3 (C6 h423 hg)) (Or.inl rfl) (Cd (λ hh=>hh) (Cd (λ hh=>hh) (Ed))) rfl (ck 2 (bx H λ r173 h424 H=>cG false (leZ) rfl (λ hg=>PV (C6 h424 hg)) (Or.inl rfl) (Cd (λ hh=>hh) (Cd (λ hh=>hh) (Ed))) rfl (gc 1 (((((r164&&(r167.1==r168.1))&&(r167.2.1==r168.2.1))&&(r167.2.2==r168.2.2))&&r171)&&(r169.2==r170.2)) (pA (ck 1 (en (re (by cases H;exact pr rd)))))))))))))))))))))))))))))))))))))))))))))))))))))))))))))))
end
end Go.AI
end
section
namespace Go.AI
def CRd (F:Nat->Option Obj) (l:List D) (cs:List Value):Prop:=l.length=cs.length/\∀ (i:Nat) (y:D) (v:Value),l[i]? = some y->cs[i]? = some v->Bw F y v
def IJ {α:Type} (P:Program) (t:TypeId) (enc:α->List D) (ok:α->Prop):Prop:=
 ∀ (H:Type) (e:TypeId×Value->H) (w:World) (base:Nat) (spare:Nat->Bool) (held:Bool) (fuel:Nat) (cs:List Value) (x:DataW H×List MemPlace),DataW.trod e P w base spare held fuel t cs=some x->∃ a:α,ok a/\CRd (λ b=>w.heap[b]?) (enc a) cs
theorem UW {F:Nat->Option Obj} {y:D} {v:Value} (h:Bw F y v):CRd F [y] [v]:=by
 refine ⟨rfl,λ i a b ha hb=>?_⟩
 cases i with
 | zero=>simp at ha hb;subst ha;subst hb;exact h
 | succ i=>simp at ha
theorem TT {P:Program} {t:TypeId} {k:IntKind} (ht:P.underlying t=some (.int k)):IJ P t (λ n=>[.int k n]) (λ n=>(Lit.int k n).wf=true):=by
 intro H e w base spare held fuel cs x h
 obtain ⟨n,rfl,_,hw⟩:=DataW.trod_int ht h
 exact ⟨n,hw,UW (.int k n)⟩
theorem Ww {α:Type} {Q:Nat->α->Prop}:∀ n,(∀ i,i<n->∃ a,Q i a)->∃ l:List α,l.length=n/\∀ i a,l[i]? = some a->Q i a:=by
 intro n
 induction n with
 | zero=>intro _;exact ⟨[],rfl,λ i a h=>by simp at h⟩
 | succ n ih=>
  intro h
  obtain ⟨l,hl,hq⟩:=ih λ i hi=>h i (by omega)
  obtain ⟨a,ha⟩:=h n (by omega)
  refine ⟨l++[a],by simp [hl],λ i b hb=>?_⟩
  rcases Nat.lt_or_ge i l.length with hlt|hge
  ·rw [JkE hlt] at hb;exact hq i b hb
  ·rw [JkN hge] at hb
   have:i-l.length=0:=by have:=Ad hb;simp at this;omega
   rw [this] at hb
   simp at hb
   subst hb
   have:i=n:=by omega
   subst this
   exact ha
theorem Wx {α β:Type} {f:α->Option β}:∀ {l:List α} {r:List β},l.mapM f=some r->r.length=l.length/\∀ (i:Nat) (a:α),l[i]? = some a->r[i]? = f a:=by
 intro l
 induction l with
 | nil=>intro r h;simp at h;subst h;exact ⟨rfl,λ i a h=>by simp at h⟩
 | cons a l ih=>
  intro r h
  rw [List.mapM_cons] at h
  simp only [Option.bind_eq_bind,Option.bind_eq_some_iff,Option.pure_def,JkF] at h
  obtain ⟨b,hb,r',hr',rfl⟩:=h
  obtain ⟨h1,h2⟩:=ih hr'
  refine ⟨by simp [h1],λ i x hx=>?_⟩
  cases i with
  | zero=>simp at hx;subst hx;simp [hb]
  | succ i=>simpa using h2 i x (by simpa using hx)
theorem PW {α:Type} {P:Program} {t e:TypeId} {enc:α->List D} {ok:α->Prop} {sz:Nat} (ht:P.underlying t=some (.slice e)) (hsz:P.cellsOf e=sz) (h1:Nat.ble 1 sz=true) (hl:∀ a,(enc a).length=sz) (he:IJ P e enc ok):IJ P t (eL enc) (λ l=>∀ a∈l,ok a):=by
 intro H en w base spare held fuel cs x h
 have h1:=JkK h1
 rcases DataW.trod_slice ht h with ⟨rfl,_⟩|⟨a,len,cap,elems,rest,n,_,rfl,_,_,hcap,_,hel,hget,_,_⟩
 ·exact ⟨[],λ a h=>by simp at h,UW (.sl0 _ _)⟩
 ·rw [hsz] at hget
  have hex:∀ i,i<len->∃ y:α,ok y/\∃ ci,w.cells? base (a.add (i*sz)) sz=some ci/\CRd (λ b=>w.heap[b]?) (enc y) ci:=λ i hi=>by
   have hg:=hget i hi
   rw [Jkw (show i<elems.length by omega)] at hg
   simp only [Option.bind_eq_some_iff] at hg
   obtain ⟨ci,hc,htr⟩:=hg
   obtain ⟨y,hy,hcr⟩:=he H en w base spare held n ci _ htr
   exact ⟨y,hy,ci,hc,hcr⟩
  obtain ⟨l,hll,hq⟩:=Ww len hex
  refine ⟨l,λ y hy=>?_,UW ?_⟩
  ·obtain ⟨i,hi⟩:=List.mem_iff_getElem?.1 hy
   exact (hq i y hi).1
  ·rcases Nat.eq_zero_or_pos len with h0|hpos
   ·have:l=[]:=List.length_eq_zero_iff.1 (by omega)
    subst this;subst h0
    exact .sl0 _ _
   ·
    have hcell:∀ i y,l[i]? = some y->∀ j,j<sz->∃ v,w.cell? ((a.add (i*sz)).add j)=some v/\∀ d,(enc y)[j]? = some d->Bw (λ b=>w.heap[b]?) d v:=λ i y hy j hj=>by
     obtain ⟨_,ci,hc,hcr⟩:=hq i y hy
     unfold World.cells? at hc
     split at hc
     ·obtain ⟨g1,g2⟩:=Wx hc
      have:=g2 j j (by simp [hj])
      have hjc:j<ci.length:=by rw [g1];simpa using hj
      rw [Jkw hjc] at this
      exact ⟨ci[j],this.symm,λ d hd=>hcr.2 j d _ hd (Jkw hjc)⟩
     ·cases hc
    have h0:l[0]? = some l[0]:=Jkw (by omega)
    obtain ⟨v0,hv0,_⟩:=hcell 0 _ h0 0 (by omega)
    have ha0:(a.add (0*sz)).add 0=a:=by simp [Addr.add]
    rw [ha0] at hv0
    obtain ⟨b,off,spot⟩:=a
    unfold World.cell? at hv0
    simp only at hv0
    split at hv0
    ·rename_i c ty fr hblk
     cases spot with
     | some s=>simp at hv0
     | none=>
      have hcell':∀ i y,l[i]? = some y->∀ j d,(enc y)[j]? = some d->∃ v,c[off+i*sz+j]? = some v/\Bw (λ b=>w.heap[b]?) d v:=λ i y hy j d hd=>by
       have hj:j<sz:=by rw [← hl y];exact Ad hd
       obtain ⟨v,hv,hr⟩:=hcell i y hy j hj
       rw [Cw,Cw,Lp hblk] at hv
       exact ⟨v,hv,hr d hd⟩
      have hlen:(l.map enc).length=len:=by simp [hll]
      have:=Bw.sl (F:=λ b=>w.heap[b]?) (l.map enc) b off cap sz c ty fr (λ i j=>(c[off+i*sz+j]?).getD undef) hblk (λ e he=>by
        simp only [List.mem_map] at he
        obtain ⟨y,_,rfl⟩:=he
        exact hl y) (by omega) (λ i e hi j d hd=>by
        simp only [JkA,Jkz] at hi
        obtain ⟨y,hy,rfl⟩:=hi
        obtain ⟨v,hv,_⟩:=hcell' i y hy j d hd
        simp only [hv,Option.getD_some]) (λ i e hi j d hd=>by
        simp only [JkA,Jkz] at hi
        obtain ⟨y,hy,rfl⟩:=hi
        obtain ⟨v,hv,hr⟩:=hcell' i y hy j d hd
        simp only [hv,Option.getD_some]
        exact hr)
      rw [hlen] at this
      exact this
    ·cases hv0
theorem Fi {F:Nat->Option Obj} {l m:List D} {cs:List Value} {o n:Nat} (h:CRd F l ((cs.drop o).take n)) (hn:Nat.beq l.length n=true) (h':CRd F m (cs.drop (o+n))):CRd F (l++m) (cs.drop o):=by
 have hn:=JkD hn
 have e:cs.drop o=(cs.drop o).take n++cs.drop (o+n):=by rw [← List.drop_drop,List.take_append_drop]
 rw [e]
 refine ⟨by simp only [List.length_append,h.1,h'.1],λ i y v hy hv=>?_⟩
 rcases Nat.lt_or_ge i l.length with hlt|hge
 ·rw [JkE hlt] at hy
  rw [JkE (by rw [← h.1];exact hlt)] at hv
  exact h.2 i y v hy hv
 ·rw [JkN hge] at hy
  rw [JkN (by rw [← h.1];exact hge),← h.1] at hv
  exact h'.2 _ y v hy hv
theorem UX {F:Nat->Option Obj} {cs:List Value} {o:Nat} (h:cs.length<=o):CRd F [] (cs.drop o):=by
 rw [List.drop_eq_nil_of_le h];exact ⟨rfl,λ i y v hy=>by simp at hy⟩
theorem XU {H:Type} {enc:TypeId×Value->H} {P:Program} {w:World} {base:Nat} {spare:Nat->Bool} {held:Bool} {fuel:Nat} {t e:TypeId} {n:Nat} {cs:List Value} {x:DataW H×List MemPlace} (ht:P.underlying t=some (.array n e)) (h:DataW.trod enc P w base spare held fuel t cs=some x) :
  ∃ m,cs.length=P.cellsOf t/\∀ i,i<n->∃ y,DataW.trod enc P w base spare held m e ((cs.drop (i*P.cellsOf e)).take (P.cellsOf e))=some y:=by
 cases fuel with
 | zero=>simp [DataW.trod] at h
 | succ m=>
  unfold DataW.trod at h
  rw [ht] at h
  split at h<;>simp_all
  obtain ⟨xs,hp,_⟩:=h.2
  refine ⟨m,λ i hi=>?_⟩
  obtain ⟨g1,g2⟩:=Wx hp
  have:=g2 i i (by simp [hi])
  have hlt:i<xs.length:=by rw [g1];simpa using hi
  rw [Jkw hlt] at this
  exact ⟨_,_,this.symm⟩
end Go.AI
end
section
namespace Go.AI
open Go.ChangeShapes Go.WideShapes Go.ChangeAt Go.RowKit
variable {P:Program} {H:Type} {en:TypeId×Value->H} {W W':World} {base:Nat} {spare:Nat->Bool} {held:Bool} {t e:TypeId} {v:Value} {d:DataW H} {ps:List MemPlace} {α:Type} {enc:α->List D} {ok:α->Prop}
theorem JeQ {cs:Array Value} (hv:v=.agg cs) (hd:DataW.Trod en P W base spare held t v d ps) (hr:IJ P t enc ok):∃ a,ok a/\Af (λ b=>W.heap[b]?) noR (.agg ((enc a).map .d)) v:=by
 subst hv
 obtain ⟨fuel,hf⟩:=hd
 obtain ⟨a,h1,h2,h3⟩:=hr H en W base spare held fuel _ _ hf
 refine ⟨a,h1,.agg _ _ (by simpa [Value.cells] using h2) λ i x u hx hu=>?_⟩
 simp only [JkA,Jkz] at hx
 obtain ⟨y,hy,rfl⟩:=hx
 exact .d _ _ (h3 i y u hy (by simpa [Value.cells] using hu))
theorem YF {y:α->D} (hc:v.cells=#[v]) (hd:DataW.Trod en P W base spare held t v d ps) (hr:IJ P t enc ok) (he:∀ a,enc a=[y a]):∃ a,ok a/\Af (λ b=>W.heap[b]?) noR (.d (y a)) v:=by
 obtain ⟨fuel,hf⟩:=hd
 obtain ⟨a,h1,h2,h3⟩:=hr H en W base spare held fuel _ _ hf
 refine ⟨a,h1,.d _ _ (h3 0 (y a) v (by rw [he];rfl) (by rw [hc];rfl))⟩
theorem JiK {F:Nat->Option Obj} {ρ:Nat->Option Loc}:CR F ρ [] []:=⟨rfl,λ i a v h=>by simp at h⟩
theorem UY {F:Nat->Option Obj} {ρ:Nat->Option Loc} {a:AV} {v:Value} {l:List AV} {vs:List Value} (h:Af F ρ a v) (h':CR F ρ l vs):CR F ρ (a::l) (v::vs):=by
 refine ⟨by simp [h'.1],λ i x u hx hu=>?_⟩
 cases i with
 | zero=>simp at hx hu;subst hx;subst hu;exact h
 | succ i=>exact h'.2 i x u (by simpa using hx) (by simpa using hu)
theorem fld {w:World} {fuel:Nat} {cs:List Value} {fs:Array Field} {xs:List (DataW H×List MemPlace)} (hg:∀ (i:Nat) (f:Field),fs[i]? = some f->DataW.trod en P w base spare held fuel f.type ((cs.drop f.offset).take (P.cellsOf f.type))=xs[i]?) (hxl:xs.length=fs.size) (i:Nat) {f:Field} (hf:fs[i]? = some f) (u o n:Nat) (hu:f.type=u) (ho:f.offset=o) (hn:P.cellsOf u=n) (hr:IJ P u enc ok) :
  ∃ a,ok a/\CRd (λ b=>w.heap[b]?) (enc a) ((cs.drop o).take n):=by
 have:=hg i f hf
 have hi:i<xs.length:=by rw [hxl];exact Ar hf
 rw [Jkw hi,hu,ho,hn] at this
 exact hr H en w base spare held fuel _ _ this
theorem JjP {w:World} {fuel:Nat} {cs:List Value} {m:Nat} (hg:∀ i,i<m->∃ y,DataW.trod en P w base spare held fuel e ((cs.drop (i*P.cellsOf e)).take (P.cellsOf e))=some y) (i:Nat) (hi:Nat.ble (i+1) m=true) (o n:Nat) (hn:P.cellsOf e=n) (ho:i*n=o) (hr:IJ P e enc ok) :
  ∃ a,ok a/\CRd (λ b=>w.heap[b]?) (enc a) ((cs.drop o).take n):=by
 obtain ⟨y,hy⟩:=hg i (JkK hi)
 rw [hn,ho] at hy
 exact hr H en w base spare held fuel _ _ hy
theorem Jdb {f:FuncId} {args:List AV} {vs:Array Value} (hc:AF P f args (.d (.bool true))) (hcr:CR (λ b=>W.heap[b]?) noR args vs.toList):Calls P f vs W λ e W'=>e=.returned (.bool true)/\(∀ before:List MemPlace,W.keptBut W' (·∈before))/\∀ b,b<W.heap.size->W'.heap[b]? = W.heap[b]? := by
 refine (hc.2 (λ b=>W.heap[b]?) W vs hcr λ b o h=>h).mono λ e W' h=>?_
 obtain ⟨v,F',ρ,rfl,hS,hr,hmu⟩:=h
 have hv:v=.bool true:=by
  have:(B3 true 0 (.d (.bool true))).1=.d (.bool true):=rfl
  rw [this] at hr
  exact hr.bool
 subst hv
 have hold:∀ b,b<W.heap.size->W'.heap[b]? = W.heap[b]? := λ b hb=>hS.old b (by omega)
 refine ⟨rfl,λ before=>World.keptBut_mono (λ p hp=>hp.elim) (?_:W.keptBut W' λ _=>False),hold⟩
 refine ⟨hmu.1,hmu.2.1,λ i hi=>?_⟩
 rw [hold i hi]
 cases hh:W.heap[i]? with
 | none=>rfl
 | some o=>cases o<;>first|exact ⟨rfl,rfl,rfl,λ _ _=>rfl⟩|exact .inr ⟨rfl,rfl⟩|rfl
theorem ZI {f:Func} {s:ChangeSpec} {apart fresh handsOn again:Bool} {args:Array Value} {ds gs:List (DataW H)} {before pa pv:List MemPlace}
  (hW:DataW.Whole en P f.params.toList s.vars apart W args.toList ds gs before)
  (hres:∀ (b:Nat) (sp:Nat->Bool) (hd:Bool),DataW.TrodAll en P W' b sp hd f.resultTypes.toList (v.resultList f.resultTypes.size) (s.fn H (ds++gs)).results [])
  (hargs:∀ sp:Nat->Bool,(∀ p∈before,sp p.block=true)->DataW.TrodAll en P W' 0 sp true f.params.toList args.toList (s.fn H (ds++gs)).args pa)
  (hvars:∀ sp:Nat->Bool,(∀ p∈before,sp p.block=true)->DataW.TrodVars en P W' sp s.vars (s.fn H (ds++gs)).vars pv)
  (hps:before=pa++pv) (hk:W.keptBut W' (·∈before)) (hold:∀ b,b<W.heap.size->W'.heap[b]? = W.heap[b]?)
  (hok:∀ (j:Nat) (t:TypeId) (r:Value),f.resultTypes[j]? = some t->(v.resultList f.resultTypes.size)[j]? = some r->Value.okWide P W' .any 0 t r) :
  s.post en P f apart fresh handsOn again W args v W':=by
 have hin:∀ p∈before,(λ b=>decide (b<W.heap.size)) p.block=true:=λ p hp=>by simpa using hW.lt p hp
 have hlt:=hW.lt
 refine ⟨ds,gs,before,[],pa,pv,hW,hres _ _ _,hargs _ hin,hvars _ hin,World.keptBut_mono (λ p hp=>⟨hp,?_⟩) hk,λ _=>?_⟩
 ·rw [hps,List.mem_append] at hp
  exact Or.inr hp
 ·obtain ⟨_,_,_,_,_,hz,hn⟩:=hW
  refine ⟨hok,_,_,([]++pa)++pv,⟨[]++pa,pv,trodAll_append (hargs _ (λ _ _=>rfl)) (hres _ _ _),hvars _ (λ _ _=>rfl),rfl,?_,?_⟩,?_⟩
  ·intro b off hp
   have hp:MemPlace.cell b off∈before:=by rw [hps];simpa using hp
   have:=hz b off hp
   simp only [World.frozen?,hold b (hlt _ hp)] at this ⊢
   exact this
  ·intro ha
   have:=hn ha
   rw [hps] at this
   simpa using this
  ·intro p hp _
   rw [hps]
   simpa using hp
theorem Jdc (hl:laidOutB P=true) (hr:P.readableRec t=true) (hrow:t<P.types.size) (h:DataW.Trod en P W 0 (λ _=>true) true t v d ps) (hb:∀ p∈ps,p.block<W.heap.size) {sp:Nat->Bool} (hs:∀ p∈ps,sp p.block=true) (hold:∀ b,b<W.heap.size->W'.heap[b]? = W.heap[b]?):DataW.Trod en P W' 0 sp true t v d ps:=by
 refine WideElems.Trod_stays hl hr hrow h (λ p hp=>?_) hs
 have:=hb p hp
 cases p with
 | cell b o=>exact World.cell?_of_block (w:=W) (hold b this)
 | map b=>exact hold b this
end Go.AI
end
section
namespace Go.AI
open Go.Proofs Go.ChangeShapes Go.WideShapes Go.ChangeAt Go.RowKit
def okI (k:IntKind) (n:Int):Prop:=(Lit.int k n).wf=true
theorem rd5:IJ Try.prog 5 eU8 (okI .u8):=TT Try.underlying5
theorem JiL:IJ Try.prog 50 (eL eU8) (λ l=>∀ a∈l,okI .u8 a):=PW (sz:=1) Try.underlying50 (by kernel_rfl) rfl (λ _=>rfl) rd5
theorem Jkp:IJ Try.prog 67 (JjN eU8) (λ x=>okI .u8 x.a0/\okI .u8 x.a1):=by
 intro H e w base spare held fuel cs x h
 obtain ⟨m,hcl,hg⟩:=XU Try.underlying67 h
 have hcl:cs.length=2:=hcl.trans (by kernel_rfl)
 obtain ⟨a0,k0,c0⟩:=JjP hg 0 rfl 0 1 (by kernel_rfl) rfl rd5
 obtain ⟨a1,k1,c1⟩:=JjP hg 1 rfl 1 1 (by kernel_rfl) rfl rd5
 refine ⟨⟨a0,a1⟩,⟨k0,k1⟩,?_⟩
 have:=Fi c0 rfl (Fi c1 rfl (UX (Nat.le_of_eq hcl)))
 exact this
def Kr (x:DE):Prop:=(∀ a∈x.P,okI .u8 a)/\(∀ a∈x.C,okI .u8 a)/\okI .u8 x.L/\okI .u8 x.R/\(okI .u8 x.W.a0/\okI .u8 x.W.a1)
theorem Jkq:IJ Try.prog 69 FL Kr:=by
 intro H e w base spare held fuel cs x h
 obtain ⟨xs,n,_,_,hcl,hxl,hg⟩:=DataW.trod_struct Try.underlying69 h
 have hcl:cs.length=6:=hcl.trans (by kernel_rfl)
 obtain ⟨a0,k0,c0⟩:=fld hg hxl 0 rfl 50 0 1 rfl rfl (by kernel_rfl) JiL
 obtain ⟨a1,k1,c1⟩:=fld hg hxl 1 rfl 50 1 1 rfl rfl (by kernel_rfl) JiL
 obtain ⟨a2,k2,c2⟩:=fld hg hxl 2 rfl 5 2 1 rfl rfl (by kernel_rfl) rd5
 obtain ⟨a3,k3,c3⟩:=fld hg hxl 3 rfl 5 3 1 rfl rfl (by kernel_rfl) rd5
 obtain ⟨a4,k4,c4⟩:=fld hg hxl 4 rfl 67 4 2 rfl rfl (by kernel_rfl) Jkp
 refine ⟨⟨a0,a1,a2,a3,a4⟩,⟨k0,k1,k2,k3,k4⟩,?_⟩
 have:=Fi c0 rfl (Fi c1 rfl (Fi c2 rfl (Fi c3 rfl (Fi c4 rfl (UX (Nat.le_of_eq hcl))))))
 exact this
theorem Jkr:IJ Try.prog 22 (eL FL) (λ l=>∀ a∈l,Kr a):=PW (sz:=6) Try.underlying22 (by kernel_rfl) rfl (λ _=>rfl) Jkq
def XV (x:MM):Prop:=okI .u8 x.Base/\okI .u8 x.Drop/\(∀ a∈x.More,Kr a)
theorem Jks:IJ Try.prog 24 JjO XV:=by
 intro H e w base spare held fuel cs x h
 obtain ⟨xs,n,_,_,hcl,hxl,hg⟩:=DataW.trod_struct Try.underlying24 h
 have hcl:cs.length=3:=hcl.trans (by kernel_rfl)
 obtain ⟨a0,k0,c0⟩:=fld hg hxl 0 rfl 5 0 1 rfl rfl (by kernel_rfl) rd5
 obtain ⟨a1,k1,c1⟩:=fld hg hxl 1 rfl 5 1 1 rfl rfl (by kernel_rfl) rd5
 obtain ⟨a2,k2,c2⟩:=fld hg hxl 2 rfl 22 2 1 rfl rfl (by kernel_rfl) Jkr
 refine ⟨⟨a0,a1,a2⟩,⟨k0,k1,k2⟩,?_⟩
 have:=Fi c0 rfl (Fi c1 rfl (Fi c2 rfl (UX (Nat.le_of_eq hcl))))
 exact this
theorem Jkt:IJ Try.prog 34 eI8 (okI .i8):=TT Try.underlying34
end Go.AI
end
section
namespace Go.AI
def Le {α:Type} (a b:Option α):Prop:=∀ z,a=some z->b=some z
theorem Le.refl {α:Type} (a:Option α):Le a a:=λ _ h=>h
theorem Le.bind {α β:Type} {a a':Option α} {f f':α->Option β} (h:Le a a') (hf:∀ x,Le (f x) (f' x)):Le (a.bind f) (a'.bind f'):=by
 intro z hz
 obtain ⟨x,h1,h2⟩:=bind_some hz
 rw [h x h1]
 exact hf x z h2
theorem Le.ite {α:Type} {c:Prop} [Decidable c] {a a' b b':Option α} (h:Le a a') (h':Le b b'):Le (if c then a else b) (if c then a' else b'):=by
 split
 ·exact h
 ·exact h'
theorem Le.whl {σ ρ:Type} {body body':σ->Option (σ⊕ρ)} (hb:∀ x,Le (body x) (body' x)):∀ {n m:Nat},n<=m->∀ x,Le (whl body n x) (whl body' m x):=by
 intro n
 induction n with
 | zero=>intro m _ x z hz;cases hz
 | succ n ih=>
  intro m hm x z hz
  cases m with
  | zero=>omega
  | succ m=>
   simp only [Go.AI.whl] at hz ⊢
   cases hx:body x with
   | none=>rw [hx] at hz;cases hz
   | some y=>
    rw [hb x y hx]
    rw [hx] at hz
    cases y with
    | inl y=>exact ih (by omega) y z hz
    | inr r=>exact hz
theorem Le.sum {α β γ:Type} {y:α⊕β} {f f':α->Option γ} {g g':β->Option γ} (hf:∀ a,Le (f a) (f' a)) (hg:∀ b,Le (g b) (g' b)):Le (match y with | .inl a=>f a | .inr b=>g b) (match y with | .inl a=>f' a | .inr b=>g' b):=by
 cases y with
 | inl a=>exact hf a
 | inr b=>exact hg b
def Ev {α:Type} (f:Nat->Option α) (z:α):Prop:=∃ n,∀ m,n<=m->f m=some z
theorem Ev.const {α:Type} {z:α}:Ev (λ _=>some z) z:=⟨0,λ _ _=>rfl⟩
theorem Ev.of {α:Type} {f:Nat->Option α} {z:α} (hm:∀ n m,n<=m->Le (f n) (f m)) {n:Nat} (h:f n=some z):Ev f z:=⟨n,λ m hnm=>hm n m hnm z h⟩
theorem Ev.all {α:Type} {f:Nat->Option α} {z:α} (h:∀ n,f n=some z):Ev f z:=⟨0,λ m _=>h m⟩
theorem Ev.bind {α β:Type} {f:Nat->Option α} {g:Nat->α->Option β} {x:α} {z:β} (h:Ev f x) (hg:Ev (λ n=>g n x) z):Ev (λ n=>(f n).bind (g n)) z:=by
 obtain ⟨n,hn⟩:=h
 obtain ⟨m,hm⟩:=hg
 refine ⟨max n m,λ k hk=>?_⟩
 show (f k).bind (g k)=_
 rw [hn k (by omega)]
 exact hm k (by omega)
theorem Ev.out {α:Type} {f:Nat->Option α} {z:α} (h:Ev f z):∃ n,f n=some z:=by
 obtain ⟨n,hn⟩:=h
 exact ⟨n,hn n (Nat.le_refl n)⟩
theorem Ev.congr {α:Type} {f g:Nat->Option α} {z:α} (h:Ev f z) (e:∀ n,g n=f n):Ev g z:=by
 obtain ⟨n,hn⟩:=h
 exact ⟨n,λ m hm=>by rw [e m];exact hn m hm⟩
theorem Ev.whl {σ ρ:Type} {body:Nat->σ->Option (σ⊕ρ)} {r:ρ} (I:Nat->σ->Prop) (h:∀ k x,I k x->(∃ y j,j<k/\I j y/\Ev (λ n=>body n x) (.inl y))\/Ev (λ n=>body n x) (.inr r)):∀ (k:Nat) (x:σ),I k x->Ev (λ n=>Go.AI.whl (body n) n x) r:=by
 have key:∀ (k:Nat) (x:σ),I k x->∃ N c,∀ n fuel,N<=n->c<=fuel->Go.AI.whl (body n) fuel x=some r:=by
  intro k
  induction k using Nat.strongRecOn with
  | _ k ih=>
   intro x hx
   rcases h k x hx with ⟨y,j,hj,hy,N1,h1⟩|⟨N1,h1⟩
   ·obtain ⟨N2,c,h2⟩:=ih j hj y hy
    refine ⟨max N1 N2,c+1,λ n fuel hn hf=>?_⟩
    cases fuel with
    | zero=>omega
    | succ fuel=>
     have e:=h1 n (by omega)
     simp only at e
     simp only [Go.AI.whl,e]
     exact h2 n fuel (by omega) (by omega)
   ·refine ⟨N1,1,λ n fuel hn hf=>?_⟩
    cases fuel with
    | zero=>omega
    | succ fuel=>
     have e:=h1 n hn
     simp only at e
     simp only [Go.AI.whl,e]
 intro k x hx
 obtain ⟨N,c,hh⟩:=key k x hx
 exact ⟨max N c,λ m hm=>hh m m (by omega) (by omega)⟩
end Go.AI
end
section
namespace Go.AI
theorem lr {α:Type} {x:Option α}:Le x x:=Le.refl x
theorem Pg {n m} (_:n<=m) (a b):Le (GQ n a b) (GQ m a b):=.ite (.bind lr λ _=>.bind lr λ _=>.bind lr λ _=>lr) lr
theorem S9 {n m} (h:n<=m):Le (Kf n) (Kf m):=.bind (Le.whl (λ _=>Pg h _ _) h _) λ _=>lr
theorem Nx {n m} (_:n<=m) (a):Le (DW n a) (DW m a):=lr
theorem Sp {n m} (h:n<=m) (a b):Le (FE n a b) (FE m a b):=.ite (.bind lr λ _=>.bind (Nx h _) λ _=>.ite lr lr) lr
theorem Wy {n m} (h:n<=m) (a):Le (Jo n a) (Jo m a):=.bind (Le.whl (λ _=>Sp h _ _) h _) λ y2=>by rcases y2 with _|_;exact lr;exact lr
theorem Ks {n m} (_:n<=m) (a):Le (FF n a) (FF m a):=.ite lr (.ite lr (.ite lr (.ite lr lr)))
theorem Ny {n m} (h:n<=m) (a b):Le (C8 n a b) (C8 m a b):=.ite (.bind lr λ _=>.bind (Ks h _) λ _=>.ite lr lr) lr
theorem Qo {n m} (h:n<=m) (a):Le (EJ n a) (EJ m a):=.bind (Le.whl (λ _=>Ny h _ _) h _) λ y5=>by rcases y5 with _|_;exact lr;exact lr
theorem UZ {n m} (_:n<=m) (a):Le (Jp n a) (Jp m a):=lr
theorem Qp {n m} (h:n<=m) (a b):Le (EK n a b) (EK m a b):=.ite (.bind lr λ _=>.bind (UZ h _) λ _=>.ite lr lr) lr
theorem U0 {n m} (h:n<=m) (a b):Le (HJ n a b) (HJ m a b):=.ite lr (.bind (Wy h _) λ _=>.ite lr (.ite lr (.ite lr (.bind (Qo h _) λ _=>.ite (.bind (Le.ite (lr) (lr)) λ _=>lr) (.bind (Le.whl (λ _=>Qp h _ _) h _) λ y8=>by rcases y8 with _|_;exact lr;exact lr)))))
theorem Qq {n m} (_:n<=m) (a b c):Le (EL n a b c) (EL m a b c):=.ite (.bind lr λ _=>.bind lr λ _=>.ite lr lr) lr
theorem U1 {n m} (h:n<=m) (a b):Le (HK n a b) (HK m a b):=.ite lr (.bind (Le.whl (λ _=>Qq h _ _ _) h _) λ y11=>by rcases y11 with _|_;exact lr;exact lr)
theorem U2 {n m} (h:n<=m) (a b):Le (HL n a b) (HL m a b):=.bind (Le.ite (U1 h _ _) (lr)) λ _=>lr
theorem Qr {n m} (h:n<=m) (a b c d e):Le (DN n a b c d e) (DN m a b c d e):=.ite (.bind lr λ _=>.bind (U2 h _ _) λ _=>.ite lr lr) lr
theorem Qs {n m} (h:n<=m) (a b):Le (DO n a b) (DO m a b):=.ite (.bind lr λ _=>.bind (U0 h _ _) λ _=>.ite lr (.bind lr λ _=>.bind (Le.whl (λ _=>Qr h _ _ _ _ _) h _) λ y14=>by rcases y14 with _|_;exact lr;exact lr)) lr
theorem U3 {n m} (h:n<=m) (a):Le (HM n a) (HM m a):=.ite lr (.bind (Le.ite (lr) (lr)) λ _=>.ite lr (.ite lr (.bind (Le.whl (λ _=>Qs h _ _) h _) λ y17=>by rcases y17 with _|_;exact lr;exact lr)))
theorem Kt {n m} (h:n<=m) (a):Le (Gy n a) (Gy m a):=.bind (U3 h _) λ _=>lr
theorem U4 {n m} (_:n<=m):Le (Jq n) (Jq m):=lr
theorem Ku {n m} (_:n<=m) (a b):Le (Hz n a b) (Hz m a b):=.bind (Le.ite (lr) (lr)) λ _=>lr
theorem PX {n m} (h:n<=m) (a b c):Le (HZ n a b c) (HZ m a b c):=.ite lr (.bind lr λ _=>.bind (Le.ite (Ku h _ _) (lr)) λ _=>.ite lr (.ite (.ite lr lr) (.bind lr λ _=>.bind (Ks h _) λ _=>.bind (Ku h _ _) λ _=>.ite lr (.bind lr λ _=>.bind (Ks h _) λ _=>lr))))
theorem IK {n m} (_:n<=m) (a b c d):Le (Cy n a b c d) (Cy m a b c d):=lr
theorem IL {n m} (h:n<=m) (a b c d e f):Le (CW n a b c d e f) (CW m a b c d e f):=.bind lr λ _=>.bind lr λ _=>IK h _ _ _ _
theorem Ou {n m} (h:n<=m) (a b c d e f):Le (By n a b c d e f) (By m a b c d e f):=.ite (.bind lr λ _=>.bind (PX h _ _ _) λ _=>.ite (IK h _ _ _ _) (.ite (.bind lr λ _=>.bind lr λ _=>IL h _ _ _ _ _ _) (IL h _ _ _ _ _ _))) lr
theorem Ov {n m} (h:n<=m) (a b c d e):Le (Cz n a b c d e) (Cz m a b c d e):=.ite (.bind (Le.whl (λ _=>Ou h _ _ _ _ _ _) h _) λ _=>lr) lr
theorem Mh {n m} (h:n<=m) (a):Le (Eo n a) (Eo m a):=.bind (U4 h) λ _=>.bind (Le.whl (λ _=>Ov h _ _ _ _ _) h _) λ _=>lr
theorem Ta {n m} (h:n<=m) (a):Le (H1 n a) (H1 m a):=.bind (Mh h _) λ _=>lr
theorem Mi {n m} (h:n<=m) (a b):Le (Ep n a b) (Ep m a b):=.bind (Le.ite (Ku h _ _) (lr)) λ _=>.bind (Le.ite (Ku h _ _) (lr)) λ _=>lr
theorem K0 {n m} (_:n<=m) (a b c):Le (DP n a b c) (DP m a b c):=lr
theorem Qt {n m} (h:n<=m) (a b c d e):Le (Dj n a b c d e) (Dj m a b c d e):=.ite (.bind lr λ _=>.bind (Mi h _ _) λ _=>.ite (.bind lr λ _=>.bind lr λ _=>.bind lr λ _=>K0 h _ _ _) (K0 h _ _ _)) lr
theorem K1 {n m} (_:n<=m) (a b c):Le (DQ n a b c) (DQ m a b c):=lr
theorem Qu {n m} (h:n<=m) (a b c d e):Le (Dk n a b c d e) (Dk m a b c d e):=.ite (.bind lr λ _=>.bind lr λ _=>.ite (.bind lr λ _=>.bind lr λ _=>.bind lr λ _=>K1 h _ _ _) (K1 h _ _ _)) lr
theorem Qv {n m} (h:n<=m) (a b c):Le (EM n a b c) (EM m a b c):=.ite (.bind lr λ _=>.bind lr λ _=>.bind lr λ _=>.bind (Le.whl (λ _=>Qu h _ _ _ _ _) h _) λ _=>lr) lr
theorem U5 {n m} (h:n<=m) (a):Le (HN n a) (HN m a):=.bind (Mh h _) λ _=>.bind lr λ _=>.bind (Le.whl (λ _=>Qt h _ _ _ _ _) h _) λ _=>.bind (Le.whl (λ _=>Qv h _ _ _) h _) λ _=>lr
theorem Ph {n m} (_:n<=m) (a b c):Le (D0 n a b c) (D0 m a b c):=.bind (Le.ite (lr) (lr)) λ _=>.bind (Le.ite (lr) (lr)) λ _=>.ite lr lr
theorem I7 {n m} (h:n<=m) (a b):Le (Er n a b) (Er m a b):=.bind (Le.whl (λ _=>Ph h _ _ _) h _) λ _=>lr
theorem Hw {n m} (_:n<=m) (a b c):Le (Bs n a b c) (Bs m a b c):=.ite (.bind lr λ _=>.bind lr λ _=>lr) lr
theorem Nz {n m} (_:n<=m) (a b c d):Le (CH n a b c d) (CH m a b c d):=.ite (.bind lr λ _=>lr) lr
theorem H9 {n m} (_:n<=m) (a b):Le (C9 n a b) (C9 m a b):=lr
theorem NA {n m} (h:n<=m) (a b c d e f g):Le (Cg n a b c d e f g) (Cg m a b c d e f g):=.ite (.bind lr λ _=>.bind (PX h _ _ _) λ _=>.bind (Le.ite (lr) (lr)) λ _=>.ite (.bind lr λ _=>.bind lr λ _=>H9 h _ _) (H9 h _ _)) lr
theorem NB {n m} (h:n<=m) (a b c d e):Le (CI n a b c d e) (CI m a b c d e):=.ite (.bind lr λ _=>.bind (Mi h _ _) λ _=>.bind lr λ _=>.bind lr λ _=>.bind (Le.whl (λ _=>NA h _ _ _ _ _ _ _) h _) λ _=>lr) lr
theorem K2 {n m} (h:n<=m) (a):Le (DR n a) (DR m a):=.bind (Ta h _) λ _=>.bind (Le.whl (λ _=>Nz h _ _ _ _) h _) λ _=>.bind lr λ _=>.bind lr λ _=>.bind (U5 h _) λ _=>.bind (Le.whl (λ _=>NB h _ _ _ _ _) h _) λ _=>lr
theorem Gm {n m} (_:n<=m) (a b c d):Le (CX n a b c d) (CX m a b c d):=lr
theorem Lg {n m} (h:n<=m) (a b c d e f g i j k l):Le (Bz n a b c d e f g i j k l) (Bz m a b c d e f g i j k l):=.ite (.bind lr λ _=>.bind lr λ _=>.bind (I7 h _ _) λ _=>.ite (.bind (Hw h _ _ _) λ _=>Gm h _ _ _ _) (Gm h _ _ _ _)) lr
theorem Lh {n m} (h:n<=m) (a b c d e f g i j):Le (BA n a b c d e f g i j) (BA m a b c d e f g i j):=.ite (.bind lr λ _=>.bind lr λ _=>.bind (Le.whl (λ _=>Lg h _ _ _ _ _ _ _ _ _ _ _) h _) λ _=>lr) lr
theorem Li {n m} (h:n<=m) (a b c d e f g):Le (BX n a b c d e f g) (BX m a b c d e f g):=.ite (.bind lr λ _=>.bind (Le.whl (λ _=>Lh h _ _ _ _ _ _ _ _ _) h _) λ _=>lr) lr
theorem Ia {n m} (h:n<=m) (a b):Le (CJ n a b) (CJ m a b):=.bind lr λ _=>.bind lr λ _=>.ite lr (.bind (Hw h _ _ _) λ _=>.bind (Le.whl (λ _=>Li h _ _ _ _ _ _ _) h _) λ _=>lr)
theorem E6 {n m} (_:n<=m) (a b c d):Le (CQ n a b c d) (CQ m a b c d):=lr
theorem MQ {n m} (_:n<=m) (a b c d e f):Le (CT n a b c d e f) (CT m a b c d e f):=.ite lr lr
theorem Fj {n m} (_:n<=m) (a b):Le (BS n a b) (BS m a b):=lr
theorem I8 {n m} (h:n<=m) (a b c d e f g):Le (Bt n a b c d e f g) (Bt m a b c d e f g):=.ite (.bind lr λ _=>.bind lr λ _=>.bind (I7 h _ _) λ _=>.ite (.bind (MQ h _ _ _ _ _ _) λ _=>.ite lr (Fj h _ _)) (.ite lr (Fj h _ _))) lr
theorem Lj {n m} (h:n<=m) (a b c d e):Le (Cp n a b c d e) (Cp m a b c d e):=.bind lr λ _=>.bind (Le.whl (λ _=>I8 h _ _ _ _ _ _ _) h _) λ y35=>by rcases y35 with _|_;exact lr;exact lr
theorem Ga {n m} (_:n<=m) (a b):Le (Cb n a b) (Cb m a b):=lr
theorem Kv {n m} (h:n<=m) (a b c):Le (BM n a b c) (BM m a b c):=.ite (.bind lr λ _=>.bind lr λ _=>.ite (Ga h _ _) (Ga h _ _)) lr
theorem Hx {n m} (h:n<=m) (a):Le (Cq n a) (Cq m a):=.bind (Le.whl (λ _=>Kv h _ _ _) h _) λ _=>lr
theorem Hc {n m} (_:n<=m) (a b):Le (Dl n a b) (Dl m a b):=lr
theorem Hd {n m} (h:n<=m) (a b c d e f):Le (B9 n a b c d e f) (B9 m a b c d e f):=.bind (E6 h _ _ _ _) λ _=>.bind (Lj h _ _ _ _ _) λ _=>.ite (Hc h _ _) (.ite (Hc h _ _) lr)
theorem Mj {n m} (h:n<=m) (a b c d e f g i):Le (BQ n a b c d e f g i) (BQ m a b c d e f g i):=.ite (.bind lr λ _=>.bind (Le.ite (lr) (lr)) λ _=>.ite (Hd h _ _ _ _ _ _) (Hd h _ _ _ _ _ _)) lr
theorem Mk {n m} (h:n<=m) (a b c d e f):Le (Ca n a b c d e f) (Ca m a b c d e f):=.ite (.bind lr λ _=>.bind (Le.whl (λ _=>Mj h _ _ _ _ _ _ _ _) h _) λ _=>lr) lr
theorem IM {n m} (h:n<=m) (a b):Le (CY n a b) (CY m a b):=.bind (K2 h _) λ _=>.bind (Ia h _ _) λ _=>.bind (Le.whl (λ _=>Mk h _ _ _ _ _ _) h _) λ _=>lr
theorem He {n m} (_:n<=m) (a b c):Le (Dm n a b c) (Dm m a b c):=lr
theorem DG {n m} (_:n<=m) (a b c d):Le (A3 n a b c d) (A3 m a b c d):=.ite lr (.ite (.bind lr λ _=>lr) (.bind lr λ _=>lr))
theorem JG {n m} (h:n<=m) (a b c d e f g i):Le (B0 n a b c d e f g i) (B0 m a b c d e f g i):=.ite (.bind (DG h _ _ _ _) λ _=>lr) lr
theorem EY {n m} (_:n<=m) (a b c d):Le (BF n a b c d) (BF m a b c d):=lr
theorem Io {n m} (h:n<=m) (a b c d e f g i j):Le (Bn n a b c d e f g i j) (Bn m a b c d e f g i j):=.ite (.bind lr λ _=>.bind lr λ _=>.bind (I7 h _ _) λ _=>.ite (.bind (JG h _ _ _ _ _ _ _ _) λ _=>.ite lr (EY h _ _ _ _)) (.ite lr (EY h _ _ _ _))) lr
theorem Gb {n m} (h:n<=m) (a b c d e f g):Le (BN n a b c d e f g) (BN m a b c d e f g):=.bind lr λ _=>.bind (Le.whl (λ _=>Io h _ _ _ _ _ _ _ _ _) h _) λ y42=>by rcases y42 with _|_;exact lr;exact lr
theorem PY {n m} (_:n<=m) (a):Le (Jr n a) (Jr m a):=.bind lr λ _=>lr
theorem Fk {n m} (_:n<=m) (a b c d):Le (Cl n a b c d) (Cl m a b c d):=lr
theorem I9 {n m} (h:n<=m) (a b c d e f g i):Le (C2 n a b c d e f g i) (C2 m a b c d e f g i):=.ite (.bind lr λ _=>.ite (.bind (DG h _ _ _ _) λ _=>Fk h _ _ _ _) (Fk h _ _ _ _)) lr
theorem Fl {n m} (h:n<=m) (a b c d e f g i):Le (Cm n a b c d e f g i) (Cm m a b c d e f g i):=.bind (E6 h _ _ _ _) λ _=>.bind (Gb h _ _ _ _ _ _ _) λ _=>.ite lr lr
theorem Ja {n m} (h:n<=m) (a b c d e f g):Le (C3 n a b c d e f g) (C3 m a b c d e f g):=.ite (.bind lr λ _=>.bind lr λ _=>.bind (Le.ite (lr) (lr)) λ _=>.ite (Fl h _ _ _ _ _ _ _ _) (Fl h _ _ _ _ _ _ _ _)) lr
theorem Gn {n m} (h:n<=m) (a b c d):Le (BY n a b c d) (BY m a b c d):=.bind (Le.whl (λ _=>I9 h _ _ _ _ _ _ _ _) h _) λ _=>.bind (Le.whl (λ _=>Ja h _ _ _ _ _ _ _) h _) λ _=>.bind (PY h _) λ _=>lr
theorem Nb {n m} (_:n<=m) (a b c d e):Le (H2 n a b c d e) (H2 m a b c d e):=lr
theorem Fm {n m} (_:n<=m) (a b):Le (Co n a b) (Co m a b):=lr
theorem Jb {n m} (h:n<=m) (a b c d e):Le (Bu n a b c d e) (Bu m a b c d e):=.ite (.bind lr λ _=>.bind lr λ _=>.ite (.bind lr λ _=>.bind lr λ _=>Fm h _ _) (Fm h _ _)) lr
theorem Gp {n m} (h:n<=m) (a b c):Le (BZ n a b c) (BZ m a b c):=.bind lr λ _=>.bind (Le.whl (λ _=>Jb h _ _ _ _ _) h _) λ _=>lr
theorem EZ {n m} (_:n<=m) (a b c d):Le (BG n a b c d) (BG m a b c d):=lr
theorem Ip {n m} (h:n<=m) (a b c d e f g i):Le (Bo n a b c d e f g i) (Bo m a b c d e f g i):=.ite (.bind lr λ _=>.ite (.bind (DG h _ _ _ _) λ _=>EZ h _ _ _ _) (EZ h _ _ _ _)) lr
theorem E0 {n m} (h:n<=m) (a b c d e f g i):Le (Bp n a b c d e f g i) (Bp m a b c d e f g i):=.bind (E6 h _ _ _ _) λ _=>.bind (Gb h _ _ _ _ _ _ _) λ _=>.ite lr lr
theorem Iq {n m} (h:n<=m) (a b c d e f g i):Le (BH n a b c d e f g i) (BH m a b c d e f g i):=.ite (.bind lr λ _=>.bind lr λ _=>.bind (Le.ite (lr) (lr)) λ _=>.ite (E0 h _ _ _ _ _ _ _ _) (E0 h _ _ _ _ _ _ _ _)) lr
theorem Gc {n m} (h:n<=m) (a b c d):Le (Bd n a b c d) (Bd m a b c d):=.bind (Le.whl (λ _=>Ip h _ _ _ _ _ _ _ _) h _) λ _=>.bind (Le.whl (λ _=>Iq h _ _ _ _ _ _ _ _) h _) λ _=>.bind (PY h _) λ _=>lr
theorem E1 {n m} (_:n<=m) (a b c d e f):Le (BI n a b c d e f) (BI m a b c d e f):=.bind lr λ _=>lr
theorem Ir {n m} (h:n<=m) (a b c d e f g i j):Le (A7 n a b c d e f g i j) (A7 m a b c d e f g i j):=.ite (.bind lr λ _=>.bind (Hx h _) λ _=>.ite (.bind lr λ _=>.bind lr λ _=>lr) (.bind lr λ _=>.bind lr λ _=>.bind (Gp h _ _ _) λ _=>.bind (Gc h _ _ _ _) λ _=>.ite (.bind lr λ _=>.bind (Nb h _ _ _ _ _) λ _=>.ite lr (E1 h _ _ _ _ _ _)) (.ite lr (E1 h _ _ _ _ _ _)))) lr
theorem E2 {n m} (h:n<=m) (a b c d e f g i):Le (BJ n a b c d e f g i) (BJ m a b c d e f g i):=.bind (Le.whl (λ _=>Ir h _ _ _ _ _ _ _ _ _) h _) λ y50=>by rcases y50 with _|_;exact lr;exact lr
theorem Kw {n m} (h:n<=m) (a b c d e f g):Le (Cc n a b c d e f g) (Cc m a b c d e f g):=.bind (Gn h _ _ _ _) λ _=>.ite (.bind (Nb h _ _ _ _ _) λ _=>.ite lr (E2 h _ _ _ _ _ _ _ _)) (.ite lr (E2 h _ _ _ _ _ _ _ _))
theorem Ml {n m} (h:n<=m) (a b):Le (FZ n a b) (FZ m a b):=.bind (Kt h _) λ _=>.ite lr (.bind (IM h _ _) λ _=>.bind (He h _ _ _) λ _=>.bind (Kw h _ _ _ _ _ _ _) λ _=>.ite lr (.ite lr lr))
theorem Mm {n m} (_:n<=m) (a b c d e):Le (Es n a b c d e) (Es m a b c d e):=.ite lr (.bind lr λ _=>lr)
theorem EA {n m} (_:n<=m) (a b c d e f):Le (Bg n a b c d e f) (Bg m a b c d e f):=.bind lr λ _=>lr
theorem Ib {n m} (h:n<=m) (a b c d e f g i j):Le (A6 n a b c d e f g i j) (A6 m a b c d e f g i j):=.ite (.bind lr λ _=>.bind (Hx h _) λ _=>.ite (.bind lr λ _=>.bind lr λ _=>lr) (.bind lr λ _=>.bind lr λ _=>.bind (Gp h _ _ _) λ _=>.bind (Gc h _ _ _ _) λ _=>.ite (.bind lr λ _=>.bind (Mm h _ _ _ _ _) λ _=>.ite lr (EA h _ _ _ _ _ _)) (.ite lr (EA h _ _ _ _ _ _)))) lr
theorem EB {n m} (h:n<=m) (a b c d e f g i):Le (Bh n a b c d e f g i) (Bh m a b c d e f g i):=.bind (Le.whl (λ _=>Ib h _ _ _ _ _ _ _ _ _) h _) λ y53=>by rcases y53 with _|_;exact lr;exact lr
theorem JH {n m} (h:n<=m) (a b c d e f g):Le (B1 n a b c d e f g) (B1 m a b c d e f g):=.bind (Gn h _ _ _ _) λ _=>.ite (.bind (Mm h _ _ _ _ _) λ _=>.ite lr (EB h _ _ _ _ _ _ _ _)) (.ite lr (EB h _ _ _ _ _ _ _ _))
theorem Kx {n m} (h:n<=m) (a b c):Le (EN n a b c) (EN m a b c):=.ite lr (.bind (Kt h _) λ _=>.ite lr (.bind (IM h _ _) λ _=>.bind (He h _ _ _) λ _=>.bind (JH h _ _ _ _ _ _ _) λ _=>.ite lr (.ite lr lr)))
theorem Ow {n m} (_:n<=m) (a b c):Le (CZ n a b c) (CZ m a b c):=.ite (.bind lr λ _=>.bind lr λ _=>.ite lr lr) lr
theorem Sq {n m} (h:n<=m) (a b):Le (Et n a b) (Et m a b):=.ite lr (.bind (Le.whl (λ _=>Ow h _ _ _) h _) λ y56=>by rcases y56 with _|_;exact lr;exact lr)
theorem PZ {n m} (h:n<=m) (a b):Le (G2 n a b) (G2 m a b):=.bind (Kt h _) λ _=>.ite lr (.bind (K2 h _) λ _=>.bind (Ia h _ _) λ _=>lr)
theorem Tb {n m} (h:n<=m):Le (H3 n) (H3 m):=.bind (S9 h) λ _=>.bind (Ml h _ _) λ _=>.bind (Ml h _ _) λ _=>.bind (Ml h _ _) λ _=>.bind (Kx h _ _ _) λ _=>.bind (Kx h _ _ _) λ _=>.bind (Kx h _ _ _) λ _=>.bind (Le.ite (Sq h _ _) (lr)) λ _=>.bind (Le.ite (PZ h _ _) (lr)) λ _=>.bind (Le.ite (PZ h _ _) (lr)) λ _=>lr
theorem U6 {n m} (_:n<=m):Le (HO n) (HO m):=lr
theorem Ky {n m} (_:n<=m) (a b):Le (HE n a b) (HE m a b):=.bind (Le.ite (lr) (lr)) λ _=>lr
theorem Mn {n m} (h:n<=m) (a b):Le (CN n a b) (CN m a b):=.bind (Le.ite (Ky h _ _) (lr)) λ _=>.bind (Le.ite (Ky h _ _) (lr)) λ _=>lr
theorem JI {n m} (_:n<=m) (a b c d):Le (Ds n a b c d) (Ds m a b c d):=.bind lr λ _=>.bind lr λ _=>lr
theorem JJ {n m} (h:n<=m) (a b c d e):Le (Dt n a b c d e) (Dt m a b c d e):=.bind (Le.ite (lr) (lr)) λ _=>.ite (.bind lr λ _=>JI h _ _ _ _) (JI h _ _ _ _)
theorem Pi {n m} (h:n<=m) (a b c d e):Le (Du n a b c d e) (Du m a b c d e):=.ite (.bind lr λ _=>.ite (JJ h _ _ _ _ _) (JJ h _ _ _ _ _)) lr
theorem JK {n m} (_:n<=m) (a):Le (Fa n a) (Fa m a):=lr
theorem Tc {n m} (h:n<=m) (a b):Le (Fy n a b) (Fy m a b):=.bind (Le.whl (λ _=>Pi h _ _ _ _ _) h _) λ _=>.ite (.bind lr λ _=>JK h _) (JK h _)
theorem Pj {n m} (_:n<=m) (a b c):Le (Dv n a b c) (Dv m a b c):=.ite (.bind lr λ _=>.bind lr λ _=>.ite lr lr) lr
theorem Nc {n m} (h:n<=m) (a b):Le (Eu n a b) (Eu m a b):=.bind (Le.whl (λ _=>Pj h _ _ _) h _) λ y81=>by rcases y81 with _|_;exact lr;exact lr
theorem Ox {n m} (_:n<=m) (a):Le (Gz n a) (Gz m a):=.ite lr (.ite lr (.ite lr (.ite lr lr)))
theorem IN {n m} (h:n<=m) (a b c):Le (Fb n a b c) (Fb m a b c):=.ite lr (.bind lr λ _=>.bind (Le.ite (Ky h _ _) (lr)) λ _=>.ite lr (.ite lr (.ite lr (.bind lr λ _=>.bind (Ox h _) λ _=>.bind (Ky h _ _) λ _=>.ite lr (.bind lr λ _=>.bind (Ox h _) λ _=>lr)))))
theorem FR {n m} (_:n<=m) (a b):Le (CA n a b) (CA m a b):=lr
theorem JL {n m} (h:n<=m) {r r':((List UInt8)->Aa->(List Int)->Ao->Option Ao)} (hrec78k0_:∀ a0 a1 a2 a3,Le (r a0 a1 a2 a3) (r' a0 a1 a2 a3)) (a b c d e):Le (BB n r a b c d e) (BB m r' a b c d e):=.ite (.bind lr λ _=>.bind (Nc h _ _) λ _=>.bind (IN h _ _ _) λ _=>.bind (Le.ite (lr) (lr)) λ _=>.ite (.bind lr λ _=>.bind lr λ _=>.bind lr λ _=>.bind (hrec78k0_ _ _ _ _) λ _=>FR h _ _) (FR h _ _)) lr
theorem FS {n m} (h:n<=m) {r r':((List UInt8)->Aa->(List Int)->Ao->Option Ao)} (hrec78k0_:∀ a0 a1 a2 a3,Le (r a0 a1 a2 a3) (r' a0 a1 a2 a3)) (a b c d):Le (BC n r a b c d) (BC m r' a b c d):=.bind (Le.whl (λ _=>JL h hrec78k0_ _ _ _ _ _) h _) λ _=>lr
theorem Kz {n m} (h:n<=m) {r r':((List UInt8)->Aa->(List Int)->Ao->Option Ao)} (hrec78k0_:∀ a0 a1 a2 a3,Le (r a0 a1 a2 a3) (r' a0 a1 a2 a3)) (a b c d):Le (A1 n r a b c d) (A1 m r' a b c d):=.bind (Le.ite (Mn h _ _) (lr)) λ _=>.ite (.bind (Tc h _ _) λ _=>FS h hrec78k0_ _ _ _ _) (FS h hrec78k0_ _ _ _ _)
theorem Qx {n m} (_:n<=m) (a b c):Le (CM n a b c) (CM m a b c):=.ite (.bind lr λ _=>.ite lr lr) lr
theorem KA {n m} (h:n<=m) (a b):Le (GB n a b) (GB m a b):=.bind (Le.whl (λ _=>Qx h _ _ _) h _) λ y86=>by rcases y86 with _|_;exact lr;exact lr
theorem JM {n m} (_:n<=m) (a b):Le (Dw n a b) (Dw m a b):=lr
theorem Pk {n m} (h:n<=m) (a b c d):Le (CO n a b c d) (CO m a b c d):=.ite (.bind lr λ _=>.bind (IN h _ _ _) λ _=>.bind (Le.ite (KA h _ _) (lr)) λ _=>.ite (.bind lr λ _=>JM h _ _) (JM h _ _)) lr
theorem Pm {n m} (h:n<=m) (a b c):Le (Dx n a b c) (Dx m a b c):=.ite (.bind (Le.whl (λ _=>Pk h _ _ _ _) h _) λ _=>lr) lr
theorem Nd {n m} (h:n<=m) (a):Le (FA n a) (FA m a):=.bind (U6 h) λ _=>.bind (Le.whl (λ _=>Pm h _ _ _) h _) λ _=>lr
theorem Qy {n m} (h:n<=m) (a b c d):Le (Do n a b c d) (Do m a b c d):=.ite (.bind lr λ _=>.bind (Mn h _ _) λ _=>.bind lr λ _=>lr) lr
theorem K3 {n m} (_:n<=m) (a b c):Le (DT n a b c) (DT m a b c):=lr
theorem Qz {n m} (h:n<=m) (a b c d e f):Le (Cu n a b c d e f) (Cu m a b c d e f):=.bind (Le.ite (lr) (lr)) λ _=>.ite (.bind lr λ _=>.bind (IN h _ _ _) λ _=>.bind (Le.ite (KA h _ _) (lr)) λ _=>.bind (Le.ite (lr) (lr)) λ _=>.ite (.bind lr λ _=>.bind lr λ _=>K3 h _ _ _) (K3 h _ _ _)) lr
theorem QA {n m} (h:n<=m) (a b c d e):Le (Dp n a b c d e) (Dp m a b c d e):=.ite (.bind (Le.whl (λ _=>Qz h _ _ _ _ _ _) h _) λ _=>lr) lr
theorem QB {n m} (h:n<=m) (a b c d):Le (EQ n a b c d) (EQ m a b c d):=.ite (.bind (Le.whl (λ _=>QA h _ _ _ _ _) h _) λ _=>lr) lr
theorem U7 {n m} (h:n<=m) (a):Le (HP n a) (HP m a):=.bind (Nd h _) λ _=>.bind (Le.whl (λ _=>Qy h _ _ _ _) h _) λ _=>.bind (Le.whl (λ _=>QB h _ _ _ _) h _) λ _=>lr
theorem U9 {n m} (h:n<=m) (a b):Le (HQ n a b) (HQ m a b):=.bind (U7 h _) λ _=>.bind (Nd h _) λ _=>.bind (KA h _ _) λ _=>.bind (Le.ite (lr) (lr)) λ _=>lr
theorem Sr {n m} (h:n<=m) {r r':(Ab->Aa->(List Int)->Option Bool)} (hrec65_:∀ a0 a1 a2,Le (r a0 a1 a2) (r' a0 a1 a2)) (a b c d):Le (Ey n r a b c d) (Ey m r' a b c d):=.ite (.bind lr λ _=>.bind (Nc h _ _) λ _=>.bind (IN h _ _ _) λ _=>.bind (Le.ite (lr) (lr)) λ _=>.bind (Le.ite (hrec65_ _ _ _) (lr)) λ _=>.ite lr lr) lr
theorem Td {n m} (h:n<=m) {r r':(Ab->Aa->(List Int)->Option Bool)} (hrec65_:∀ a0 a1 a2,Le (r a0 a1 a2) (r' a0 a1 a2)) (a b c):Le (C0 n r a b c) (C0 m r' a b c):=.ite (.bind (U9 h _ _) λ _=>lr) (.bind (Le.whl (λ _=>Sr h hrec65_ _ _ _ _) h _) λ y95=>by rcases y95 with _|_;exact lr;exact lr)
end Go.AI
end
section
namespace Go.AI
theorem XW (a:Int):IntKind.i64.wrap a=if decide (a % 18446744073709551616>=9223372036854775808)=true then a % 18446744073709551616-18446744073709551616 else a % 18446744073709551616:=rfl
theorem TU (a:Int):IntKind.u8.wrap a=a % 256:=rfl
theorem NC {a:Int} (h:-9223372036854775808<=a) (h':a<9223372036854775808):IntKind.i64.wrap a=a:=by
 rw [XW]
 split
 ·rename_i hc;simp at hc;omega
 ·rename_i hc;simp at hc;omega
theorem Mo {a b:Int} (h:-9223372036854775808<=a+b) (h':a+b<9223372036854775808):Bl .i64 a b=a+b:=NC h h'
theorem ND {a b:Int} (h:-9223372036854775808<=a-b) (h':a-b<9223372036854775808):Ec .i64 a b=a-b:=NC h h'
theorem Jdd {a:Int} (h:0<=a) (h':a<256):IntKind.u8.wrap a=a:=by
 rw [TU];omega
theorem Wz (a:Int):0<=IntKind.u8.wrap a/\IntKind.u8.wrap a<256:=by
 rw [TU];omega
def MR (m k:Int):Bool:=decide (0<=k)&&decide (k<8)&&(CB .u8 (Jeh .u8 m k) 1==1)
theorem Jde (n:Nat) (m k:Int):Hz n m k=some (MR m k):=by
 unfold Hz MR
 by_cases h:0<=k
 ·by_cases h':k<8<;>simp [h,h',Ek]
 ·simp [h]
theorem Jdf (n:Nat) (m k:Int):HE n m k=some (MR m k):=by
 unfold HE MR
 by_cases h:0<=k
 ·by_cases h':k<8<;>simp [h,h',Ek]
 ·simp [h]
def GD (b:Int):Int:=
 if (decide (97<=CB .u8 b 127)&&decide (CB .u8 b 127<=122))=true then 1
 else if (decide (65<=CB .u8 b 127)&&decide (CB .u8 b 127<=90))=true then 2
 else if (decide (48<=CB .u8 b 127)&&decide (CB .u8 b 127<=57))=true then 3
 else if (CB .u8 b 127==32)=true then 4 else 5
theorem WA (n:Nat) (b:Int):FF n b=some (GD b):=by
 unfold FF GD
 split
 ·rfl
 ·split
  ·rfl
  ·split
   ·rfl
   ·split<;>rfl
theorem ZJ (n:Nat) (b:Int):Gz n b=some (GD b):=by
 unfold Gz GD
 simp only [ge_iff_le]
 split
 ·rfl
 ·split
  ·rfl
  ·split
   ·rfl
   ·split<;>rfl
theorem WB (b:Int):1<=GD b/\GD b<=5:=by
 unfold GD
 split
 ·omega
 ·split
  ·omega
  ·split
   ·omega
   ·split<;>omega
def TV (s:List UInt8) (i:Nat):Int:=(s[i]?.getD 0).toNat
theorem Oy {s:List UInt8} {i:Nat} (h:i<s.length):ML s (i:Int)=some (TV s i):=by
 unfold ML TV
 rw [if_pos (by omega)]
 simp
def YG:Aa:=⟨0,0,0⟩
def YH (r:Au) (s:Aa):Aa×Bool:=
 if ((r.From != s.Mode)||!MR r.Left s.Last)=true then (YG,false)
 else if (r.Print==[])=true then
  (if (CB .u8 s.Need r.Right==0)=true then (YG,false) else (⟨r.To,s.Last,CB .u8 s.Need r.Right⟩,true))
 else if (!MR s.Need (GD (TV r.Print 0)))=true then (YG,false)
 else (⟨r.To,GD (TV r.Print (r.Print.length-1)),r.Right⟩,true)
def AU (t:Ab) (s:Aa) (k:Int):Aa×Bool:=
 if (decide (k<0)||decide (k>=(t.Rules.length:Int)))=true then (YG,false) else YH (t.Rules[k.toNat]?.getD default) s
def Jdg (t:Ab):Prop:=∀ r∈t.Rules,r.Print.length<9223372036854775808
theorem Ss {α:Type} [Inhabited α] {l:List α} {k:Int} (h:0<=k) (h':k<l.length):idx l k=some (l[k.toNat]?.getD default):=by
 unfold idx
 rw [if_pos h]
 have:k.toNat<l.length:=by omega
 simp [this]
theorem QN {t:Ab} (ht:Jdg t) (n:Nat) (s:Aa) (k:Int):HZ n t s k=some (AU t s k):=by
 unfold HZ AU
 by_cases hk:(decide (k<0)||decide (k>=(t.Rules.length:Int)))=true
 ·rw [if_pos hk,if_pos hk];rfl
 ·rw [if_neg hk,if_neg hk]
  simp only [JkO,decide_eq_true_eq,not_or,Int.not_lt,ge_iff_le,Int.not_le] at hk
  rw [Ss hk.1 hk.2]
  have hmem:(t.Rules[k.toNat]?.getD default)∈t.Rules:=by
   have:k.toNat<t.Rules.length:=by omega
   simp [this]
  have hlen:=ht _ hmem
  generalize t.Rules[k.toNat]?.getD default=r at hlen ⊢
  simp only [Option.bind_some,Jde,WA]
  unfold YH
  by_cases h1:r.From=s.Mode
  ·simp only [h1,bne_self_eq_false,Bool.not_false,if_true,Option.bind_some,Bool.false_or]
   by_cases h2:MR r.Left s.Last=true
   ·simp only [h2,Bool.not_true,JkH,if_false]
    by_cases h3:r.Print=[]
    ·simp only [h3,beq_self_eq_true,if_true]
     split<;>rfl
    ·have h3':(r.Print==[])=false:=by simpa using h3
     have hpos:0<r.Print.length:=List.length_pos_iff.2 h3
     simp only [h3',JkH,if_false]
     have e0:=Oy (s:=r.Print) (i:=0) hpos
     simp only [Int.natCast_zero] at e0
     rw [e0]
     have e1:Ec .i64 ((r.Print.length:Nat):Int) 1=((r.Print.length-1:Nat):Int):=by rw [ND (by omega) (by omega)];omega
     rw [e1,Oy (by omega)]
     simp only [Option.bind_some]
     split<;>rfl
   ·have h2:MR r.Left s.Last=false:=by simpa using h2
    simp only [h2,Bool.not_false,if_true];rfl
  ·have h1':(r.From != s.Mode)=true:=by simpa using h1
   simp only [h1',Bool.not_true,JkH,if_false,Option.bind_some,Bool.true_or,if_true];rfl
end Go.AI
end
section
namespace Go.AI
theorem Aq {α:Type} {l:List α} {i:Nat} {x:α} (h:l[i]? = some x):i<l.length:=(List.getElem?_eq_some_iff.1 h).1
theorem Oz {t:Ab} (ht:Jdg t) (n:Nat) (s:Aa) (k:Int):Fb n t s k=some (AU t s k):=by
 unfold Fb AU
 by_cases hk:(decide (k<0)||decide (k>=(t.Rules.length:Int)))=true
 ·rw [if_pos hk,if_pos hk];rfl
 ·rw [if_neg hk,if_neg hk]
  simp only [JkO,decide_eq_true_eq,not_or,Int.not_lt,ge_iff_le,Int.not_le] at hk
  rw [Ss hk.1 hk.2]
  have hmem:(t.Rules[k.toNat]?.getD default)∈t.Rules:=by
   have:k.toNat<t.Rules.length:=by omega
   simp [this]
  have hlen:=ht _ hmem
  generalize t.Rules[k.toNat]?.getD default=r at hlen ⊢
  simp only [Option.bind_some,Jdf,ZJ]
  unfold YH
  by_cases h1:r.From=s.Mode
  ·simp only [h1,bne_self_eq_false,Bool.not_false,if_true,Option.bind_some,Bool.false_or]
   by_cases h2:MR r.Left s.Last=true
   ·simp only [h2,Bool.not_true,JkH,if_false]
    by_cases h3:r.Print=[]
    ·simp only [h3,List.length_nil,Int.natCast_zero,beq_self_eq_true,Bool.true_and,if_true]
     split<;>rfl
    ·have h3':(r.Print==[])=false:=by simpa using h3
     have hpos:0<r.Print.length:=List.length_pos_iff.2 h3
     have h4:(((r.Print.length:Nat):Int)==0)=false:=by simp;omega
     simp only [h3',h4,Bool.false_and,JkH,if_false]
     have e0:=Oy (s:=r.Print) (i:=0) hpos
     simp only [Int.natCast_zero] at e0
     rw [e0]
     have e1:Ec .i64 ((r.Print.length:Nat):Int) 1=((r.Print.length-1:Nat):Int):=by rw [ND (by omega) (by omega)];omega
     rw [e1,Oy (by omega)]
     simp only [Option.bind_some]
     split<;>rfl
   ·have h2:MR r.Left s.Last=false:=by simpa using h2
    simp only [h2,Bool.not_false,if_true];rfl
  ·have h1':(r.From != s.Mode)=true:=by simpa using h1
   simp only [h1',Bool.not_true,JkH,if_false,Option.bind_some,Bool.true_or,if_true];rfl
def AG (t:Ab) (s:Aa):Bool:=decide (s.Mode<t.Modes)&&MR t.Accept s.Mode&&MR s.Need 0
theorem Su (n:Nat) (t:Ab) (s:Aa):Ep n t s=some (AG t s):=by
 unfold Ep AG
 simp only [Jde]
 by_cases h1:s.Mode<t.Modes
 ·cases h2:MR t.Accept s.Mode<;>simp [h1]
 ·simp [h1]
theorem P0 (n:Nat) (t:Ab) (s:Aa):CN n t s=some (AG t s):=by
 unfold CN AG
 simp only [Jdf]
 have h0:¬ (0<=s.Mode)->MR t.Accept s.Mode=false:=λ h=>by simp [MR,h]
 by_cases h:0<=s.Mode
 ·by_cases h1:s.Mode<t.Modes
  ·cases h2:MR t.Accept s.Mode<;>simp [h,h1]
  ·simp [h1]
 ·simp [h,h0 h]
theorem eqS (a b:Aa):((a.Mode==b.Mode)&&((a.Last==b.Last)&&((a.Need==b.Need)&&true)))=decide (a=b):=by
 cases a;cases b
 simp [Bool.decide_and]
 rfl
def Ic (l:List Aa) (s:Aa):Int:=match l.findIdx? (λ x=>decide (x=s)) with
 | some i=>i
 | none=>-1
theorem Sv {l:List Aa} {s:Aa} (hl:l.length<9223372036854775807):Ev (λ n=>GB n l s) (Ic l s):=by
 have loop:Ev (λ n=>whl (λ x=>CM n l s x) n (0:Int)) (match l.findIdx? (λ x=>decide (x=s)) with|some i=>(.inr (i:Int):Unit⊕Int)|none=>.inl ()):=by
  refine Ev.whl (body:=λ n x=>CM n l s x) (λ k x=>∃ i:Nat,x=i/\i<=l.length/\k=l.length-i/\∀ j,j<i->∀ y,l[j]? = some y->y≠s) ?_ l.length 0 ⟨0,rfl,by omega,by omega,λ j hj=>by omega⟩
  rintro k x ⟨i,rfl,hi,rfl,hbefore⟩
  by_cases hlt:i<l.length
  ·have hg:l[i]? = some l[i]:=Jkw hlt
   have hidx:idx l (i:Int)=some l[i]:=by
    unfold idx
    rw [if_pos (by omega)]
    simp
   by_cases he:l[i]=s
   ·right
    refine Ev.all λ n=>?_
    unfold CM
    rw [if_pos (by simpa using hlt),hidx]
    simp only [Option.bind_some,eqS,he,decide_true,if_true]
    have:l.findIdx? (λ x=>decide (x=s))=some i:=by
     rw [List.findIdx?_eq_some_iff_getElem]
     refine ⟨hlt,by simpa using he,λ j hj=>?_⟩
     have hj':j<l.length:=by omega
     have:=hbefore j hj l[j] (Jkw hj')
     simpa using this
    rw [this]
   ·left
    refine ⟨((i+1:Nat):Int),l.length-(i+1),by omega,⟨i+1,rfl,by omega,rfl,λ j hj y hy=>?_⟩,Ev.all λ n=>?_⟩
    ·by_cases hji:j=i
     ·subst hji;rw [hg] at hy;cases hy;exact he
     ·exact hbefore j (by omega) y hy
    ·unfold CM
     rw [if_pos (by simpa using hlt),hidx]
     simp only [Option.bind_some,eqS,he,decide_false,JkH,if_false]
     rw [Mo (by omega) (by omega)]
     rfl
  ·right
   have hi':i=l.length:=by omega
   subst hi'
   refine Ev.all λ n=>?_
   unfold CM
   rw [if_neg (by simp)]
   have:l.findIdx? (λ x=>decide (x=s))=none:=by
    rw [List.findIdx?_eq_none_iff]
    intro y hy
    obtain ⟨j,hj⟩:=List.mem_iff_getElem?.1 hy
    have:=hbefore j (Aq hj) y hj
    simpa using this
   rw [this]
 refine (Ev.bind loop (g:=λ _ y=>match y with|Sum.inl _=>some (-1)|Sum.inr z=>some z) (z:=Ic l s) ?_).congr λ n=>?_
 ·unfold Ic
  cases l.findIdx? (λ x=>decide (x=s)) with
  | none=>exact Ev.const
  | some i=>exact Ev.const
 ·rfl
end Go.AI
end
section
namespace Go.AI
theorem XX (a b:Int) (h:0<=b) (h':b<256):0<=CB .u8 a b/\CB .u8 a b<=b:=by
 unfold CB
 have hb:(BitVec.ofInt 8 b).toNat=b.toNat:=by
  rw [BitVec.toNat_ofInt]
  omega
 have hle:(BitVec.ofInt 8 a &&& BitVec.ofInt 8 b).toNat<=b.toNat:=by
  rw [BitVec.toNat_and,hb];exact Nat.and_le_right
 have e:(BitVec.ofInt IntKind.u8.bits a &&& BitVec.ofInt IntKind.u8.bits b).toNat=(BitVec.ofInt 8 a &&& BitVec.ofInt 8 b).toNat:=rfl
 rw [e,Jdd (by omega) (by omega)]
 omega
def NE (r:Au):Prop:=0<=r.To/\r.To<2/\0<=r.Right/\r.Right<=63/\r.Print.length<=3
def Fn (t:Ab):Prop:=t.Rules.length<=11/\∀ r∈t.Rules,NE r
theorem Fn.short {t:Ab} (h:Fn t):Jdg t:=λ r hr=>by have:=(h.2 r hr).2.2.2.2;omega
def InU (s:Aa):Prop:=0<=s.Mode/\s.Mode<2/\0<=s.Last/\s.Last<=5/\0<=s.Need/\s.Need<=63
def JiM:List Aa:=(List.range 768).map λ i=>⟨(i / 384:Nat),(i / 64 % 6:Nat),(i % 64:Nat)⟩
theorem Jdh {s:Aa} (h:InU s):s∈JiM:=by
 obtain ⟨h1,h2,h3,h4,h5,h6⟩:=h
 obtain ⟨m,l,d⟩:=s
 simp only at h1 h2 h3 h4 h5 h6
 simp only [JiM,List.mem_map,List.mem_range]
 refine ⟨m.toNat*384+l.toNat*64+d.toNat,by omega,?_⟩
 have e1:(m.toNat*384+l.toNat*64+d.toNat) / 384=m.toNat:=by omega
 have e2:(m.toNat*384+l.toNat*64+d.toNat) / 64 % 6=l.toNat:=by omega
 have e3:(m.toNat*384+l.toNat*64+d.toNat) % 64=d.toNat:=by omega
 rw [e1,e2,e3]
 congr 1<;>omega
theorem Jdi {l m:List Aa} (h:l.Nodup) (hs:∀ x∈l,x∈m):l.length<=m.length:=by
 induction l generalizing m with
 | nil=>simp
 | cons a l ih=>
  rw [List.nodup_cons] at h
  have ha:=hs a (by simp)
  have hlen:(m.erase a).length=m.length-1:=List.length_erase_of_mem ha
  have hpos:0<m.length:=List.length_pos_of_mem ha
  have:=ih (m:=m.erase a) h.2 λ x hx=>by
   have hne:x≠a:=λ e=>h.1 (e▸hx)
   exact (List.mem_erase_of_ne hne).2 (hs x (by simp [hx]))
  simp
  omega
theorem Jdj {l:List Aa} (h:l.Nodup) (hs:∀ x∈l,InU x):l.length<=768:=by
 have:=Jdi h λ x hx=>Jdh (hs x hx)
 simpa [JiM] using this
theorem Jdk {t:Ab} (ht:Fn t) {s:Aa} (hs:InU s) {k:Int} (h:(AU t s k).2=true):InU (AU t s k).1:=by
 unfold AU at h ⊢
 split at h
 ·cases h
 ·rename_i hk
  rw [if_neg hk]
  simp only [JkO,decide_eq_true_eq,not_or,Int.not_lt,ge_iff_le,Int.not_le] at hk
  have hmem:(t.Rules[k.toNat]?.getD default)∈t.Rules:=by
   have:k.toNat<t.Rules.length:=by omega
   simp [this]
  have hr:=ht.2 _ hmem
  generalize t.Rules[k.toNat]?.getD default=r at hr h ⊢
  obtain ⟨a1,a2,a3,a4,a5⟩:=hr
  obtain ⟨b1,b2,b3,b4,b5,b6⟩:=hs
  unfold YH at h ⊢
  split at h
  ·cases h
  ·rename_i h1
   rw [if_neg h1]
   split at h
   ·rename_i h2
    rw [if_pos h2]
    split at h
    ·cases h
    ·rename_i h3
     rw [if_neg h3]
     have:=XX s.Need r.Right a3 (by omega)
     exact ⟨a1,a2,b3,b4,this.1,by show CB .u8 s.Need r.Right<=63;omega⟩
   ·rename_i h2
    rw [if_neg h2]
    split at h
    ·cases h
    ·rename_i h3
     rw [if_neg h3]
     have:=WB (TV r.Print (r.Print.length-1))
     exact ⟨a1,a2,by show 0<=GD _;omega,by show GD _<=5;omega,a3,a4⟩
def BD:Aa:=⟨0,0,63⟩
def KB (t:Ab) (s:Aa) (st:List Aa) (k:Nat):List Aa:=if (AU t s k).2=true/\(AU t s k).1 ∉ st then st++[(AU t s k).1] else st
def JN (t:Ab) (s:Aa) (m:Nat) (st:List Aa):List Aa:=(List.range m).foldl (KB t s) st
theorem JO (t:Ab) (s:Aa) (m:Nat) (st:List Aa):JN t s (m+1) st=KB t s (JN t s m st) m:=by
 simp [JN,List.range_succ]
def Sw (t:Ab):Nat->Nat->List Aa->List Aa
 | 0,_,st=>st
 | f+1,i,st=>match st[i]? with
  | some s=>Sw t f (i+1) (JN t s t.Rules.length st)
  | none=>st
def AN (t:Ab):List Aa:=Sw t 800 0 [BD]
structure EC (t:Ab) (st:List Aa):Prop where
 nodup:st.Nodup
 inU:∀ s∈st,InU s
 first:st[0]? = some BD
 origin:∀ (j:Nat) (s:Aa),st[j]? = some s->0<j->∃ (i:Nat) (s':Aa) (k:Nat),i<j/\st[i]? = some s'/\k<t.Rules.length/\AU t s' k=(s,true)
theorem EC.len {t:Ab} {st:List Aa} (h:EC t st):st.length<=768:=Jdj h.nodup h.inU
theorem EC.add {t:Ab} (ht:Fn t) {st:List Aa} (h:EC t st) {i:Nat} {s:Aa} (hi:st[i]? = some s) {k:Nat} (hk:k<t.Rules.length):EC t (KB t s st k):=by
 unfold KB
 split
 ·rename_i hc
  have hil:=Aq hi
  refine ⟨?_,λ x hx=>?_,?_,λ j x hj h0=>?_⟩
  ·rw [List.nodup_append]
   refine ⟨h.nodup,by simp,λ a ha b hb=>?_⟩
   simp at hb
   subst hb
   exact λ e=>hc.2 (e▸ha)
  ·simp only [List.mem_append,List.mem_singleton] at hx
   rcases hx with hx|rfl
   ·exact h.inU x hx
   ·exact Jdk ht (h.inU s (Jky hi)) hc.1
  ·rw [JkE (by omega)];exact h.first
  ·rcases Nat.lt_or_ge j st.length with hlt|hge
   ·rw [JkE hlt] at hj
    obtain ⟨i',s',k',a1,a2,a3,a4⟩:=h.origin j x hj h0
    exact ⟨i',s',k',a1,by rw [JkE (by omega)];exact a2,a3,a4⟩
   ·rw [JkN hge] at hj
    have:j-st.length=0:=by have:=Aq hj;simp at this;omega
    rw [this] at hj
    simp at hj
    subst hj
    refine ⟨i,s,k,by omega,by rw [JkE hil];exact hi,hk,?_⟩
    exact Prod.ext rfl hc.1
 ·exact h
theorem WC (t:Ab) (s:Aa) (st:List Aa) (k:Nat):st <+: KB t s st k:=by
 unfold KB
 split
 ·exact List.prefix_append _ _
 ·exact List.prefix_refl _
theorem Hf (t:Ab) (s:Aa) (st:List Aa):∀ m,st <+: JN t s m st:=by
 intro m
 induction m with
 | zero=>exact List.prefix_refl _
 | succ m ih=>rw [JO];exact ih.trans (WC _ _ _ _)
theorem OB {α:Type} {l m:List α} (h:l <+: m) {i:Nat} {x:α} (hi:l[i]? = some x):m[i]? = some x:=by
 obtain ⟨r,rfl⟩:=h
 rw [JkE (Aq hi)];exact hi
theorem EC.exp {t:Ab} (ht:Fn t) {st:List Aa} (h:EC t st) {i:Nat} {s:Aa} (hi:st[i]? = some s):∀ m,m<=t.Rules.length->EC t (JN t s m st):=by
 intro m
 induction m with
 | zero=>intro _;exact h
 | succ m ih=>
  intro hm
  rw [JO]
  exact (ih (by omega)).add ht (OB (Hf t s st m) hi) (by omega)
theorem Jdl (t:Ab) (s:Aa) (st:List Aa):∀ m k:Nat,k<m->(AU t s k).2=true->(AU t s k).1∈JN t s m st:=by
 intro m
 induction m with
 | zero=>intro k hk;omega
 | succ m ih=>
  intro k hk h
  rw [JO]
  by_cases e:k=m
  ·subst e
   unfold KB
   by_cases hc:(AU t s k).1∈JN t s k st
   ·rw [if_neg (λ hh=>hh.2 hc)];exact hc
   ·rw [if_pos ⟨h,hc⟩];simp
  ·exact (WC t s _ m).subset (ih k (by omega) h)
def Sx (t:Ab) (i:Nat) (st:List Aa):Prop:=∀ (j:Nat) (s:Aa),j<i->st[j]? = some s->∀ k:Nat,k<t.Rules.length->(AU t s k).2=true->(AU t s k).1∈st
theorem JiN {t:Ab} (ht:Fn t):∀ (f i:Nat) (st:List Aa),EC t st->Sx t i st->768<f+i->EC t (Sw t f i st)/\∀ i',Sx t i' (Sw t f i st):=by
 intro f
 induction f with
 | zero=>
  intro i st h hd hf
  have:=h.len
  refine ⟨h,λ i' j s hj hs=>?_⟩
  have hs:st[j]? = some s:=hs
  exact hd j s (by have:=Aq hs;omega) hs
 | succ f ih=>
  intro i st h hd hf
  simp only [Sw]
  cases hi:st[i]? with
  | none=>
   refine ⟨h,λ i' j s hj hs=>?_⟩
   have hs:st[j]? = some s:=hs
   exact hd j s (by have:=Aq hs;rw [List.getElem?_eq_none_iff] at hi;omega) hs
  | some s=>
   refine ih (i+1) _ (h.exp ht hi _ (Nat.le_refl _)) (λ j x hj hx k hk hk2=>?_) (by omega)
   by_cases e:j=i
   ·subst e
    have:=OB (Hf t s st t.Rules.length) hi
    rw [this] at hx
    cases hx
    exact Jdl t s st _ k hk hk2
   ·have hjl:j<st.length:=by have:=Aq hi;omega
    have hxx:st[j]? = some st[j]:=Jkw hjl
    have:=OB (Hf t s st t.Rules.length) hxx
    rw [this] at hx
    cases hx
    exact (Hf t s st t.Rules.length).subset (hd j _ (by omega) hxx k hk hk2)
theorem CF {t:Ab} (ht:Fn t):EC t (AN t)/\∀ i,Sx t i (AN t):=by
 refine JiN ht 800 0 [BD] ⟨by simp,λ s hs=>?_,rfl,λ j s hj h0=>?_⟩ (λ j s hj=>by omega) (by omega)
 ·simp at hs;subst hs;exact ⟨by decide,by decide,by decide,by decide,by decide,by decide⟩
 ·cases j with
  | zero=>omega
  | succ j=>simp at hj
end Go.AI
end
section
namespace Go.AI
theorem Ev.whlR {σ ρ:Type} {body:Nat->σ->Option (σ⊕ρ)} {R:ρ->Prop} (I:Nat->σ->Prop) (h:∀ k x,I k x->(∃ y j,j<k/\I j y/\Ev (λ n=>body n x) (.inl y))\/∃ r,R r/\Ev (λ n=>body n x) (.inr r)):∀ (k:Nat) (x:σ),I k x->∃ r,R r/\Ev (λ n=>Go.AI.whl (body n) n x) r:=by
 have key:∀ (k:Nat) (x:σ),I k x->∃ r,R r/\∃ N c,∀ n fuel,N<=n->c<=fuel->Go.AI.whl (body n) fuel x=some r:=by
  intro k
  induction k using Nat.strongRecOn with
  | _ k ih=>
   intro x hx
   rcases h k x hx with ⟨y,j,hj,hy,N1,h1⟩|⟨r,hr,N1,h1⟩
   ·obtain ⟨r,hr,N2,c,h2⟩:=ih j hj y hy
    refine ⟨r,hr,max N1 N2,c+1,λ n fuel hn hf=>?_⟩
    cases fuel with
    | zero=>omega
    | succ fuel=>
     have e:=h1 n (by omega)
     simp only at e
     simp only [Go.AI.whl,e]
     exact h2 n fuel (by omega) (by omega)
   ·refine ⟨r,hr,N1,1,λ n fuel hn hf=>?_⟩
    cases fuel with
    | zero=>omega
    | succ fuel=>
     have e:=h1 n hn
     simp only at e
     simp only [Go.AI.whl,e]
 intro k x hx
 obtain ⟨r,hr,N,c,hh⟩:=key k x hx
 exact ⟨r,hr,max N c,λ m hm=>hh m m (by omega) (by omega)⟩
def K4 (st:List Aa) (nb:List (Aa×Int)):Prop:=∀ s,Dg s nb=(st.findIdx? λ x=>decide (x=s)).map λ i=>(i:Int)
theorem Dq {st:List Aa} {s:Aa} {i:Nat} (hn:st.Nodup) (h:st[i]? = some s):(st.findIdx? λ x=>decide (x=s))=some i:=by
 have hi:=Aq h
 rw [List.findIdx?_eq_some_iff_getElem]
 have he:st[i]=s:=by rw [Jkw hi] at h;exact Option.some.inj h
 refine ⟨hi,by simpa using he,λ j hj=>?_⟩
 simp only [Bool.not_eq_true,decide_eq_false_iff_not]
 intro e
 have:=(List.getElem_inj (i:=j) (j:=i) (h₀:=by omega) (h₁:=hi) hn).1 (by rw [e,he])
 omega
theorem HG {st:List Aa} {s:Aa} (h:s ∉ st):(st.findIdx? λ x=>decide (x=s))=none:=by
 rw [List.findIdx?_eq_none_iff]
 intro y hy
 simp only [decide_eq_false_iff_not]
 exact λ e=>h (e▸hy)
theorem Pn {κ α:Type} [DecidableEq κ] (k k':κ) (v:α) (m:List (κ×α)):Dg k' (El k v m)=if k'=k then some v else Dg k' m:=by
 induction m with
 | nil=>simp [El,Dg]
 | cons p m ih=>
  simp only [El]
  by_cases h:k=p.1
  ·rw [if_pos h]
   simp only [Dg]
   by_cases h':k'=k
   ·simp [h']
   ·have:k'≠p.1:=λ e=>h' (e.trans h.symm)
    simp [h',this]
  ·rw [if_neg h]
   simp only [Dg]
   by_cases h':k'=p.1
   ·have:k'≠k:=λ e=>h (e▸h')
    rw [if_pos h',if_neg this,if_pos h']
   ·rw [if_neg h',if_neg h',ih]
theorem K4.snoc {st:List Aa} {nb:List (Aa×Int)} (h:K4 st nb) (hn:st.Nodup) {p:Aa} (hp:p ∉ st):K4 (st++[p]) (El p (st.length:Nat) nb):=by
 intro s
 rw [Pn]
 have hnd:(st++[p]).Nodup:=by
  rw [List.nodup_append]
  exact ⟨hn,by simp,λ a ha b hb=>by simp at hb;subst hb;exact λ e=>hp (e▸ha)⟩
 by_cases e:s=p
 ·subst e
  rw [if_pos rfl,Dq hnd (i:=st.length) (by simp)]
  rfl
 ·rw [if_neg e,h s]
  by_cases hs:s∈st
  ·obtain ⟨i,hi⟩:=List.mem_iff_getElem?.1 hs
   rw [Dq hn hi,Dq hnd (i:=i) (by rw [JkE (Aq hi)];exact hi)]
  ·rw [HG hs,HG (by simp [hs,e])]
def Id (i m j k:Nat):Prop:=j<i\/(j=i/\k<m)
structure Dy (t:Ab) (st:List Aa) (fr:List (List Int)) (i m:Nat):Prop where
 len:fr.length=st.length
 cov:∀ j s k,Id i m j k->st[j]? = some s->k<t.Rules.length->(AU t s (k:Nat)).2=true->(AU t s (k:Nat)).1∈st
 sound:∀ (n:Nat) l,fr[n]? = some l->∀ x∈l,∃ (j:Nat) (s:Aa) (k:Nat) (s':Aa),x=(j:Int)/\st[j]? = some s/\k<t.Rules.length/\st[n]? = some s'/\AU t s (k:Nat)=(s',true)
 compl:∀ (n:Nat) l,fr[n]? = some l->∀ (j:Nat) (s:Aa) (k:Nat) (s':Aa),Id i m j k->st[j]? = some s->k<t.Rules.length->st[n]? = some s'->AU t s (k:Nat)=(s',true)->(j:Int)∈l
 small:∀ (n:Nat) l,fr[n]? = some l->l.length<=i*11+m
theorem Dy.snoc {t:Ab} {st:List Aa} {fr:List (List Int)} {i m:Nat} (h:Dy t st fr i m) {p:Aa} (hp:p ∉ st) (hi:i<st.length):Dy t (st++[p]) (fr++[[]]) i m:=by
 have hget:∀ (j:Nat) s,Id i m j 0\/j<=i->(st++[p])[j]? = some s->st[j]? = some s:=λ j s hj hs=>by
  rcases Nat.lt_or_ge j st.length with hlt|hge
  ·rwa [JkE hlt] at hs
  ·rcases hj with (h1|⟨h1,_⟩)|h1<;>omega
 have hle:∀ {j k},Id i m j k->j<=i:=λ h=>by rcases h with h|⟨h,_⟩<;>omega
 refine ⟨by simp [h.len],λ j s k ht hs hk h2=>?_,λ n l hl x hx=>?_,λ n l hl j s k s' ht hs hk hs' he=>?_,λ n l hl=>?_⟩
 ·exact List.mem_append_left _ (h.cov j s k ht (hget j s (.inr (hle ht)) hs) hk h2)
 ·rcases Nat.lt_or_ge n fr.length with hlt|hge
  ·rw [JkE hlt] at hl
   obtain ⟨j,s,k,s',a1,a2,a3,a4,a5⟩:=h.sound n l hl x hx
   exact ⟨j,s,k,s',a1,by rw [JkE (Aq a2)];exact a2,a3,by rw [JkE (Aq a4)];exact a4,a5⟩
  ·rw [JkN hge] at hl
   have:n-fr.length=0:=by have:=Aq hl;simp at this;omega
   rw [this] at hl;simp at hl;subst hl;simp at hx
 ·have hs0:=hget j s (.inr (hle ht)) hs
  have hmem:s'∈st:=by have:=h.cov j s k ht hs0 hk (by rw [he]);rwa [he] at this
  rcases Nat.lt_or_ge n fr.length with hlt|hge
  ·rw [JkE hlt] at hl
   rw [JkE (by rw [← h.len];exact hlt)] at hs'
   exact h.compl n l hl j s k s' ht hs0 hk hs' he
  ·have hn:n=st.length:=by have:=Aq hs';simp at this;rw [h.len] at hge;omega
   subst hn
   simp at hs'
   subst hs'
   exact absurd hmem hp
 ·rcases Nat.lt_or_ge n fr.length with hlt|hge
  ·rw [JkE hlt] at hl;exact h.small n l hl
  ·rw [JkN hge] at hl
   have:n-fr.length=0:=by have:=Aq hl;simp at this;omega
   rw [this] at hl;simp at hl;subst hl;simp
theorem Dy.put {t:Ab} {st:List Aa} {fr:List (List Int)} {i m:Nat} (h:Dy t st fr i m) (hnd:st.Nodup) {s p:Aa} {q:Nat} {l:List Int} (hs:st[i]? = some s) (hm:m<t.Rules.length) (hst:AU t s (m:Nat)=(p,true)) (hq:st[q]? = some p) (hl:fr[q]? = some l):Dy t st (fr.set q (l++[(i:Int)])) i (m+1):=by
 have htk:∀ {j k},Id i (m+1) j k->Id i m j k\/(j=i/\k=m):=λ {j k} h=>by
  unfold Id at *
  omega
 have hql:=Aq hl
 refine ⟨by simp [h.len],λ j x k ht hx hk h2=>?_,λ n l' hl' x hx=>?_,λ n l' hl' j x k x' ht hx hk hx' he=>?_,λ n l' hl'=>?_⟩
 ·rcases htk ht with ht|⟨rfl,rfl⟩
  ·exact h.cov j x k ht hx hk h2
  ·rw [hs] at hx;cases hx;rw [hst];exact Jky hq
 ·by_cases e:n=q
  ·subst e
   rw [JkG hql] at hl'
   cases hl'
   simp only [List.mem_append,List.mem_singleton] at hx
   rcases hx with hx|rfl
   ·exact h.sound n l hl x hx
   ·exact ⟨i,s,m,p,rfl,hs,hm,hq,hst⟩
  ·rw [JkL (Ne.symm e)] at hl';exact h.sound n l' hl' x hx
 ·rcases htk ht with ht|⟨rfl,rfl⟩
  ·by_cases e:n=q
   ·subst e
    rw [JkG hql] at hl'
    cases hl'
    exact List.mem_append_left _ (h.compl n l hl j x k x' ht hx hk hx' he)
   ·rw [JkL (Ne.symm e)] at hl';exact h.compl n l' hl' j x k x' ht hx hk hx' he
  ·rw [hs] at hx;cases hx
   rw [hst] at he;cases he
   have e:n=q:=by
    have h1:=Aq hx'
    have h2:=Aq hq
    rw [Jkw h1] at hx'
    rw [Jkw h2] at hq
    exact (List.getElem_inj (h₀:=h1) (h₁:=h2) hnd).1 ((Option.some.inj hx').trans (Option.some.inj hq).symm)
   subst e
   rw [JkG hql] at hl'
   cases hl'
   simp
 ·by_cases e:n=q
  ·subst e
   rw [JkG hql] at hl'
   cases hl'
   have:=h.small n l hl
   simp;omega
  ·rw [JkL (Ne.symm e)] at hl'
   have:=h.small n l' hl'
   omega
theorem Dy.skip {t:Ab} {st:List Aa} {fr:List (List Int)} {i m:Nat} (h:Dy t st fr i m) {s:Aa} (hs:st[i]? = some s) (hst:(AU t s (m:Nat)).2=false):Dy t st fr i (m+1):=by
 have htk:∀ {j k},Id i (m+1) j k->Id i m j k\/(j=i/\k=m):=λ {j k} h=>by
  unfold Id at *
  omega
 refine ⟨h.len,λ j x k ht hx hk h2=>?_,h.sound,λ n l hl j x k x' ht hx hk hx' he=>?_,λ n l hl=>by have:=h.small n l hl;omega⟩
 ·rcases htk ht with ht|⟨rfl,rfl⟩
  ·exact h.cov j x k ht hx hk h2
  ·rw [hs] at hx;cases hx;rw [hst] at h2;cases h2
 ·rcases htk ht with ht|⟨rfl,rfl⟩
  ·exact h.compl n l hl j x k x' ht hx hk hx' he
  ·rw [hs] at hx;cases hx;rw [he] at hst;cases hst
end Go.AI
end
section
namespace Go.AI
theorem KC {α:Type} {l:List α} {i:Nat} {x:α} (h:l[i]? = some x):idx l (i:Int)=some x:=by
 unfold idx
 rw [if_pos (by omega)]
 simpa using h
theorem DH {α:Type} {eb:Nat} {xs ys:List α} (h:(xs.length+ys.length)*eb<=70368744177664):app eb xs ys=some (xs++ys):=by
 unfold app;rw [if_pos h]
theorem WD {t:Ab} (ht:Fn t) {i m:Nat} {s:Aa} {st:List Aa} {fr:List (List Int)} {nb:List (Aa×Int)} (hF:EC t st) (hi:st[i]? = some s) (hN:K4 st nb) (hR:Dy t st fr i m) (hm:m<t.Rules.length) :
  ∃ fr' nb',K4 (KB t s st m) nb'/\Dy t (KB t s st m) fr' i (m+1)/\∀ n,By n t (i:Int) st fr nb (m:Int)=some (.inl (KB t s st m,fr',nb',((m+1:Nat):Int))):=by
 have hil:=Aq hi
 have hlen:=hF.len
 have hrl:=ht.1
 have hinc:Bl .i64 (m:Int) 1=((m+1:Nat):Int):=by rw [Mo (by omega) (by omega)];rfl
 have hcond:decide ((m:Int)<((t.Rules.length:Nat):Int))=true:=by simpa using hm
 cases hp:(AU t s (m:Nat)).2 with
 | false=>
  have ha:KB t s st m=st:=by unfold KB;rw [if_neg (by rw [hp];simp)]
  refine ⟨fr,nb,by rw [ha];exact hN,by rw [ha];exact hR.skip hi hp,λ n=>?_⟩
  unfold By
  rw [if_pos hcond,KC hi]
  simp only [Option.bind_some,QN ht.short,hp,Bool.not_false,if_true,Cy,hinc,ha]
 | true=>
  have hpe:AU t s (m:Nat)=((AU t s (m:Nat)).1,true):=Prod.ext rfl hp
  generalize hpp:(AU t s (m:Nat)).1=p at hpe
  by_cases hmem:p∈st
  ·have ha:KB t s st m=st:=by unfold KB;rw [if_neg (by rw [hpp];exact λ hh=>hh.2 hmem)]
   obtain ⟨q,hq⟩:=List.mem_iff_getElem?.1 hmem
   have hql:=Aq hq
   obtain ⟨lq,hfq⟩:∃ lq,fr[q]? = some lq:=⟨_,Jkw (by rw [hR.len];exact hql)⟩
   have hsm:=hR.small q _ hfq
   have hget:Dg p nb=some (q:Int):=by rw [hN p,Dq hF.nodup hq];rfl
   have hiv:i<768:=by omega
   refine ⟨fr.set q (lq++[(i:Int)]),nb,by rw [ha];exact hN,by rw [ha];exact hR.put hF.nodup hi hm hpe hq hfq,λ n=>?_⟩
   unfold By
   rw [if_pos hcond,KC hi]
   simp only [Option.bind_some,QN ht.short,hpe,hget,Option.isSome_some,Bool.not_true,JkH,if_false,Option.getD_some,CW]
   rw [KC hfq]
   simp only [Option.bind_some]
   rw [DH (by simp;omega)]
   simp only [Option.bind_some,Cy,hinc,ha,Int.toNat_natCast]
  ·have ha:KB t s st m=st++[p]:=by unfold KB;rw [if_pos ⟨hp,by rw [hpp];exact hmem⟩,hpp]
   have hnd:(st++[p]).Nodup:=by have:=(hF.add ht hi hm).nodup;rwa [ha] at this
   have hget:Dg p nb=none:=by rw [hN p,HG hmem];rfl
   have hR':=hR.snoc hmem hil
   have hfq:(fr++[[]])[st.length]? = some ([]:List Int):=by rw [← hR.len];simp
   refine ⟨(fr++[[]]).set st.length ([]++[(i:Int)]),El p (st.length:Nat) nb,by rw [ha];exact hN.snoc hF.nodup hmem,by rw [ha];exact hR'.put hnd (by rw [JkE hil];exact hi) hm hpe (by simp) hfq,λ n=>?_⟩
   unfold By
   rw [if_pos hcond,KC hi]
   simp only [Option.bind_some,QN ht.short,hpe,hget,Option.isSome_none,Bool.not_false,Bool.not_true,JkH,if_true,if_false]
   rw [DH (by simp;omega),Option.bind_some,DH (by simp [hR.len];omega),Option.bind_some]
   simp only [CW]
   rw [KC hfq]
   simp only [Option.bind_some]
   rw [DH (by simp)]
   simp only [Option.bind_some,Cy,hinc,ha,Int.toNat_natCast]
theorem Dy.next {t:Ab} {st:List Aa} {fr:List (List Int)} {i:Nat} (h:Dy t st fr i t.Rules.length) (hr:t.Rules.length<=11):Dy t st fr (i+1) 0:=by
 have htk:∀ {j k},k<t.Rules.length->Id (i+1) 0 j k->Id i t.Rules.length j k:=λ {j k} hk h=>by
  unfold Id at *
  omega
 exact ⟨h.len,λ j s k ht hs hk=>h.cov j s k (htk hk ht) hs hk,h.sound,λ n l hl j s k s' ht hs hk=>h.compl n l hl j s k s' (htk hk ht) hs hk,λ n l hl=>by have:=h.small n l hl;omega⟩
theorem Jdm {t:Ab} (ht:Fn t) {i:Nat} {s:Aa} {st:List Aa} {fr:List (List Int)} {nb:List (Aa×Int)} (hF:EC t st) (hi:st[i]? = some s) (hN:K4 st nb) (hR:Dy t st fr i 0) :
  ∃ r:List Aa×List (List Int)×List (Aa×Int),(r.1=JN t s t.Rules.length st/\K4 r.1 r.2.2/\Dy t r.1 r.2.1 (i+1) 0) /\
   Ev (λ n=>whl (λ (x:((List Aa)×(List (List Int))×(List (Aa×Int))×Int))=>By n t (i:Int) x.1 x.2.1 x.2.2.1 x.2.2.2) n (st,fr,nb,0)) r:=by
 refine Ev.whlR (body:=λ n x=>By n t (i:Int) x.1 x.2.1 x.2.2.1 x.2.2.2) (λ k x=>∃ m:Nat,m<=t.Rules.length/\k=t.Rules.length-m/\x.1=JN t s m st/\x.2.2.2=(m:Int)/\K4 x.1 x.2.2.1/\Dy t x.1 x.2.1 i m) ?_ t.Rules.length (st,fr,nb,0) ⟨0,by omega,by omega,rfl,rfl,hN,hR⟩
 rintro k ⟨st',fr',nb',m'⟩ ⟨m,hm,rfl,h1,h2,h3,h4⟩
 simp only at h1 h2 h3 h4
 subst h1
 subst h2
 rcases Nat.lt_or_ge m t.Rules.length with hlt|hge
 ·left
  have hi':(JN t s m st)[i]? = some s:=OB (Hf t s st m) hi
  obtain ⟨fr2,nb2,g1,g2,g3⟩:=WD ht (hF.exp ht hi m hm) hi' h3 h4 hlt
  exact ⟨_,t.Rules.length-(m+1),by omega,⟨m+1,hlt,rfl,(JO t s m st).symm,rfl,g1,g2⟩,Ev.all g3⟩
 ·right
  have e:m=t.Rules.length:=by omega
  subst e
  refine ⟨(JN t s t.Rules.length st,fr',nb'),⟨rfl,h3,h4.next ht.1⟩,Ev.all λ n=>?_⟩
  unfold By
  rw [if_neg (by simp)]
theorem Sy {t:Ab} (ht:Fn t):∃ fr,Dy t (AN t) fr (AN t).length 0/\Ev (λ n=>Eo n t) (AN t,fr):=by
 have h0:EC t [BD]:=⟨by simp,λ s hs=>by simp at hs;subst hs;exact ⟨by decide,by decide,by decide,by decide,by decide,by decide⟩,rfl,λ j s hj h0=>by cases j with|zero=>omega|succ j=>simp at hj⟩
 have loop:∃ r:List Aa×List (List Int),(r.1=AN t/\Dy t r.1 r.2 r.1.length 0) /\
   Ev (λ n=>whl (λ (x:((List Aa)×(List (List Int))×(List (Aa×Int))×Int))=>Cz n t x.1 x.2.1 x.2.2.1 x.2.2.2) n ([BD],([[]]:List (List Int)),(El BD 0 []),0)) r:=by
  refine Ev.whlR (body:=λ n x=>Cz n t x.1 x.2.1 x.2.2.1 x.2.2.2) (λ k x=>∃ i:Nat,i<=x.1.length/\k=800-i/\Sw t (800-i) i x.1=AN t/\x.2.2.2=(i:Int)/\EC t x.1/\K4 x.1 x.2.2.1/\Dy t x.1 x.2.1 i 0) ?_ 800 _ ⟨0,by simp,by omega,rfl,rfl,h0,?_,?_⟩
  ·rintro k ⟨st,fr,nb,i'⟩ ⟨i,hil,rfl,hb,hi',hF,hN,hR⟩
   simp only at hil hb hi' hF hN hR
   subst hi'
   have hlen:=hF.len
   rcases Nat.lt_or_ge i st.length with hlt|hge
   ·left
    have hi:st[i]? = some st[i]:=Jkw hlt
    obtain ⟨r,⟨g1,g2,g3⟩,g4⟩:=Jdm ht hF hi hN hR
    have hexp:=hF.exp ht hi _ (Nat.le_refl _)
    refine ⟨(r.1,r.2.1,r.2.2,((i+1:Nat):Int)),800-(i+1),by omega,⟨i+1,?_,rfl,?_,rfl,by rw [g1];exact hexp,g2,g3⟩,?_⟩
    ·simp only [g1]
     have:=(Hf t st[i] st t.Rules.length).length_le
     omega
    ·simp only [g1]
     rw [← hb]
     have e:800-i=(800-(i+1))+1:=by omega
     rw [e]
     simp only [Sw,hi]
    ·refine (Ev.bind g4 (g:=λ _ y2=>some (.inl (y2.1,y2.2.1,y2.2.2,((i+1:Nat):Int)))) Ev.const).congr λ n=>?_
     unfold Cz
     rw [if_pos (by simpa using hlt)]
     have hinc:Bl .i64 (i:Int) 1=((i+1:Nat):Int):=by rw [Mo (by omega) (by omega)];rfl
     rw [hinc]
   ·right
    have e:i=st.length:=by omega
    subst e
    have hst:st=AN t:=by
     rw [← hb]
     have e:800-st.length=(800-(st.length+1))+1:=by omega
     rw [e]
     simp [Sw]
    refine ⟨(st,fr),⟨hst,hR⟩,Ev.all λ n=>?_⟩
    unfold Cz
    rw [if_neg (by simp)]
  ·intro s
   simp only [El,Dg]
   by_cases e:s=BD
   ·subst e;simp
   ·have:¬ BD=s:=λ h=>e h.symm
    simp [e,this]
  ·refine ⟨rfl,λ j s k ht=>?_,λ n l hl x hx=>?_,λ n l hl j s k s' ht=>?_,λ n l hl=>?_⟩
   ·unfold Id at ht;omega
   ·cases n with
    | zero=>simp at hl;subst hl;simp at hx
    | succ n=>simp at hl
   ·unfold Id at ht;omega
   ·cases n with
    | zero=>simp at hl;subst hl;simp
    | succ n=>simp at hl
 obtain ⟨⟨st,fr⟩,⟨g1,g2⟩,g3⟩:=loop
 simp only at g1 g2
 subst g1
 refine ⟨fr,g2,?_⟩
 have hs:∀ n,Jq n=some BD:=λ n=>rfl
 refine (Ev.bind g3 (g:=λ _ y3=>some (y3.1,y3.2)) Ev.const).congr λ n=>?_
 unfold Eo
 rw [hs,Option.bind_some]
theorem XY {t:Ab} (ht:Fn t):Ev (λ n=>H1 n t) (AN t):=by
 obtain ⟨fr,_,h⟩:=Sy ht
 exact (Ev.bind h (g:=λ _ r=>some r.1) Ev.const).congr λ n=>rfl
end Go.AI
end
section
namespace Go.AI
def Tot {α:Type} (f:Nat->Option α) (P:α->Prop):Prop:=∃ z,P z/\Ev f z
def Rd2 {σ ρ:Type} (I:σ->Prop) (P:ρ->Prop):σ⊕ρ->Prop
 | .inl y=>I y
 | .inr r=>P r
variable {α β σ ρ:Type} {P R:α->Prop}
theorem Tot.ev {f:Nat->Option α} {z:α} (h:Tot f (λ x=>x=z)):Ev f z:=by obtain ⟨_,rfl,h⟩:=h;exact h
theorem Ev.tot {f:Nat->Option α} {z:α} (h:Ev f z) (hp:P z):Tot f P:=⟨z,hp,h⟩
theorem Tot.pure {z:α} (h:P z):Tot (λ _=>some z) P:=⟨z,h,Ev.const⟩
theorem Tot.all {f:Nat->Option α} {z:α} (h:∀ n,f n=some z) (hp:P z):Tot f P:=⟨z,hp,Ev.all h⟩
theorem Tot.mono {f:Nat->Option α} (h:Tot f R) (hp:∀ x,R x->P x):Tot f P:=by obtain ⟨z,hz,h⟩:=h;exact ⟨z,hp z hz,h⟩
theorem Tot.bind {f:Nat->Option β} {g:Nat->β->Option α} {R:β->Prop} (h:Tot f R) (k:∀ x,R x->Tot (λ n=>g n x) P):Tot (λ n=>(f n).bind (g n)) P:=by
 obtain ⟨x,hx,h⟩:=h
 obtain ⟨z,hz,h'⟩:=k x hx
 exact ⟨z,hz,Ev.bind h h'⟩
theorem Tot.bindE {f:Nat->Option β} {g:Nat->β->Option α} {x:β} (h:Ev f x) (k:Tot (λ n=>g n x) P):Tot (λ n=>(f n).bind (g n)) P:=by
 obtain ⟨z,hz,h'⟩:=k
 exact ⟨z,hz,Ev.bind h h'⟩
theorem Tot.bindC {x:Option β} {y:β} {g:Nat->β->Option α} (h:x=some y) (k:Tot (λ n=>g n y) P):Tot (λ n=>x.bind (g n)) P:=by subst h;exact k
theorem Tot.bindA {f:Nat->Option β} {y:β} {g:Nat->β->Option α} (h:∀ n,f n=some y) (k:Tot (λ n=>g n y) P):Tot (λ n=>(f n).bind (g n)) P:=Tot.bindE (Ev.all h) k
theorem Tot.ite {c:Bool} {a b:Nat->Option α} (h1:c=true->Tot a P) (h2:c=false->Tot b P):Tot (λ n=>if c=true then a n else b n) P:=by
 cases c with
 | true=>exact h1 rfl
 | false=>exact h2 rfl
theorem Tot.iteT {c:Bool} {a b:Nat->Option α} (h:c=true) (k:Tot a P):Tot (λ n=>if c=true then a n else b n) P:=by subst h;exact k
theorem Tot.iteF {c:Bool} {a b:Nat->Option α} (h:c=false) (k:Tot b P):Tot (λ n=>if c=true then a n else b n) P:=by subst h;exact k
theorem Tot.guard {c:Bool} {f:Nat->Option β} {d:β} {g:Nat->β->Option α} {R:β->Prop} (h:c=true->Tot f R) (k:∀ x,(c=true->R x)->Tot (λ n=>g n x) P):Tot (λ n=>(if c=true then f n else some d).bind (g n)) P:=by
 cases c with
 | true=>exact Tot.bind (h rfl) λ x hx=>k x λ _=>hx
 | false=>exact k d λ h=>by cases h
theorem Tot.congr {f g:Nat->Option α} (h:Tot f P) (e:∀ n,g n=f n):Tot g P:=by obtain ⟨z,hz,h⟩:=h;exact ⟨z,hz,h.congr e⟩
theorem Tot.sum {y:β⊕σ} {f:Nat->β->Option α} {g:Nat->σ->Option α} (h1:∀ b,y=.inl b->Tot (λ n=>f n b) P) (h2:∀ b,y=.inr b->Tot (λ n=>g n b) P):Tot (λ n=>match y with | .inl b=>f n b | .inr b=>g n b) P:=by
 cases y with
 | inl b=>exact h1 b rfl
 | inr b=>exact h2 b rfl
theorem Tot.whl {body:Nat->σ->Option (σ⊕ρ)} {P:ρ->Prop} (I:Nat->σ->Prop) (h:∀ k x,I k x->Tot (λ n=>body n x) (Rd2 (λ y=>∃ j,j<k/\I j y) P)):∀ (k:Nat) (x:σ),I k x->Tot (λ n=>Go.AI.whl (body n) n x) P:=by
 have key:∀ (k:Nat) (x:σ),I k x->∃ r,P r/\∃ N c,∀ n fuel,N<=n->c<=fuel->Go.AI.whl (body n) fuel x=some r:=by
  intro k
  induction k using Nat.strongRecOn with
  | _ k ih=>
   intro x hx
   obtain ⟨z,hz,N1,h1⟩:=h k x hx
   cases z with
   | inl y=>
    obtain ⟨j,hj,hy⟩:=hz
    obtain ⟨r,hr,N2,c,h2⟩:=ih j hj y hy
    refine ⟨r,hr,max N1 N2,c+1,λ n fuel hn hf=>?_⟩
    cases fuel with
    | zero=>omega
    | succ fuel=>
     have e:=h1 n (by omega)
     simp only at e
     simp only [Go.AI.whl,e]
     exact h2 n fuel (by omega) (by omega)
   | inr r=>
    refine ⟨r,hz,N1,1,λ n fuel hn hf=>?_⟩
    cases fuel with
    | zero=>omega
    | succ fuel=>
     have e:=h1 n hn
     simp only at e
     simp only [Go.AI.whl,e]
 intro k x hx
 obtain ⟨r,hr,N,c,hh⟩:=key k x hx
 exact ⟨r,hr,max N c,λ m hm=>hh m m (by omega) (by omega)⟩
theorem Tot.upto {body:Nat->σ->Option (σ⊕ρ)} {P:ρ->Prop} (N:Nat) (I:Nat->σ->Prop)
  (step:∀ i x,i<N->I i x->Tot (λ n=>body n x) (Rd2 (I (i+1)) P))
  (last:∀ x,I N x->Tot (λ n=>body n x) (Rd2 (λ _=>False) P)) (x:σ) (h0:I 0 x):Tot (λ n=>Go.AI.whl (body n) n x) P:=by
 refine Tot.whl (body:=body) (λ k x=>∃ i,i<=N/\k=N-i/\I i x) ?_ N x ⟨0,by omega,by omega,h0⟩
 rintro k x ⟨i,hi,rfl,hx⟩
 rcases Nat.lt_or_ge i N with hlt|hge
 ·refine (step i x hlt hx).mono λ z hz=>?_
  cases z with
  | inl y=>exact ⟨N-(i+1),by omega,i+1,by omega,rfl,hz⟩
  | inr r=>exact hz
 ·have:i=N:=by omega
  subst this
  refine (last x hx).mono λ z hz=>?_
  cases z with
  | inl y=>exact hz.elim
  | inr r=>exact hz
theorem ED {l:List α} {i:Nat} {x:α} (h:l[i]? = some x):idx l (i:Int)=some x:=by
 unfold idx
 rw [if_pos (by omega)]
 simpa using h
theorem Bj {l:List α} {i:Nat} (h:i<l.length):idx l (i:Int)=some l[i]:=ED (Jkw h)
theorem NF {eb:Nat} {xs ys:List α} (h:(xs.length+ys.length)*eb<=70368744177664):app eb xs ys=some (xs++ys):=by
 unfold app;rw [if_pos h]
theorem Sz {l:List α} {i:Nat} {y:α} (h:i<l.length):put l (i:Int) y=some (l.set i y):=by
 unfold put;rw [if_pos (by omega),Int.toNat_natCast]
theorem Jdn {x y:List UInt8} (h:x.length+y.length<=9223372036854775807):cat x y=some (x++y):=by
 unfold cat;rw [if_pos h]
end Go.AI
end
section
namespace Go.AI
theorem JeR (a:Int):IntKind.i64.wrap a=if decide (a % 18446744073709551616>=9223372036854775808)=true then a % 18446744073709551616-18446744073709551616 else a % 18446744073709551616:=rfl
theorem w64 {a:Int} (h:-9223372036854775808<=a) (h':a<9223372036854775808):IntKind.i64.wrap a=a:=by
 rw [JeR]
 simp only [decide_eq_true_eq]
 split<;>omega
theorem Jfr {a b:Int} (h:-9223372036854775808<=a+b) (h':a+b<9223372036854775808):Bl .i64 a b=a+b:=w64 h h'
theorem JjQ {a b:Int} (h:-9223372036854775808<=a-b) (h':a-b<9223372036854775808):Ec .i64 a b=a-b:=w64 h h'
theorem EE {i:Nat} (h:i<9223372036854775807):Bl .i64 (i:Int) 1=((i+1:Nat):Int):=by rw [Jfr]<;>omega
theorem ZK {a m:Int} (h:0<=a) (hm:0<m):C4 a m=a % m/\0<=C4 a m/\C4 a m<m:=by
 have e:C4 a m=a % m:=by unfold C4;rw [Int.tmod_eq_emod_of_nonneg h]
 rw [e];exact ⟨rfl,Int.emod_nonneg _ (by omega),Int.emod_lt_of_pos _ hm⟩
variable {α β σ ρ:Type}
theorem JjR [Inhabited α] {l:List α} {i:Int} (h:0<=i) (h':i<l.length):idx l i=some (l.getD i.toNat default):=by
 unfold idx
 rw [if_pos h,List.getD_eq_getElem?_getD,Jkw (by omega)];rfl
theorem Ie [Inhabited α] {l:List α} {i:Nat} (h:i<l.length):idx l (i:Int)=some (l.getD i default):=by
 rw [JjR (by omega) (by omega),Int.toNat_natCast]
theorem Jdo {l:List α} {a b:Int} (h:0<=a) (h1:a<=b) (h2:b<=l.length):sub l a b=some ((l.take b.toNat).drop a.toNat):=by
 unfold sub;rw [if_pos ⟨h,h1,h2⟩]
theorem GU {l:List α} {k:Nat} (h:k<=l.length):sub l 0 (k:Int)=some (l.take k):=by
 rw [Jdo (by omega) (by omega) (by omega)];simp
theorem Jdp {eb:Nat} {k:Int} {z:α} (h:0<=k) (h':k.toNat*eb<=70368744177664):mkl eb k z=some (List.replicate k.toNat z):=by
 unfold mkl;rw [if_pos ⟨h,h'⟩]
theorem JP {b:Bool} (h:b=true):Ek b=some ():=by subst h;rfl
theorem XZ {body:σ->Option (σ⊕ρ)} {r:ρ} (st:Nat->σ) (k:Nat) (step:∀ i,i<k->body (st i)=some (.inl (st (i+1)))) (last:body (st k)=some (.inr r)):∀ n,k<n->whl body n (st 0)=some r:=by
 have key:∀ (j n i:Nat),i+j=k->j<n->whl body n (st i)=some r:=by
  intro j
  induction j with
  | zero=>
   intro n i hi hn
   cases n with
   | zero=>omega
   | succ n=>
    have:i=k:=by omega
    subst this;simp only [whl,last]
  | succ j ih=>
   intro n i hi hn
   cases n with
   | zero=>omega
   | succ n=>simp only [whl,step i (by omega)];exact ih n (i+1) (by omega) (by omega)
 intro n hn
 exact key k n 0 (by omega) hn
theorem Ev.to {body:Nat->σ->Option (σ⊕ρ)} {r:ρ} (st:Nat->σ) (k:Nat) (h:∃ N,∀ n,N<=n->(∀ i,i<k->body n (st i)=some (.inl (st (i+1))))/\body n (st k)=some (.inr r)):Ev (λ n=>Go.AI.whl (body n) n (st 0)) r:=by
 obtain ⟨N,h⟩:=h
 exact ⟨max N (k+1),λ n hn=>XZ st k (h n (by omega)).1 (h n (by omega)).2 n (by omega)⟩
def IP (N:Nat) (stop:Nat->Option ρ) (d:ρ):ρ:=((List.range N).findSome? stop).getD d
theorem ZL {N:Nat} {stop:Nat->Option ρ} {d:ρ} (h:∀ i,i<N->stop i=none):IP N stop d=d:=by
 unfold IP
 rw [List.findSome?_eq_none_iff.2 λ i hi=>h i (List.mem_range.1 hi)];rfl
theorem ZM {N:Nat} {stop:Nat->Option ρ} {d r:ρ} (k:Nat) (hk:k<N) (hr:stop k=some r) (h:∀ i,i<k->stop i=none):IP N stop d=r:=by
 unfold IP
 have:(List.range N).findSome? stop=some r:=by
  have e:List.range N=List.range k++(List.range (N-k)).map (k+·):=by rw [← List.range_add];congr 1;omega
  rw [e,List.findSome?_append,List.findSome?_eq_none_iff.2 λ i hi=>h i (List.mem_range.1 hi)]
  have:N-k=(N-k-1)+1:=by omega
  rw [this,List.range_succ_eq_map]
  simp [hr]
 rw [this];rfl
theorem Te (N:Nat) (stop:Nat->Option ρ) (d:ρ):((∀ i,i<N->stop i=none)/\IP N stop d=d)\/∃ k r,k<N/\stop k=some r/\(∀ i,i<k->stop i=none)/\IP N stop d=r:=by
 by_cases h:∀ i,i<N->stop i=none
 ·exact .inl ⟨h,ZL h⟩
 ·right
  have hex:∃ k,k<N/\stop k≠none:=by
   apply Classical.byContradiction
   intro hh
   exact h λ i hi=>Classical.byContradiction λ hn=>hh ⟨i,hi,hn⟩
  have key:∀ m,(∃ k,k<m/\k<N/\stop k≠none)->∃ k,k<N/\stop k≠none/\∀ i,i<k->stop i=none:=by
   intro m
   induction m with
   | zero=>rintro ⟨k,hk,_⟩;omega
   | succ m ih=>
    rintro ⟨k,hk,h1,h2⟩
    by_cases hm:∃ k,k<m/\k<N/\stop k≠none
    ·exact ih hm
    ·refine ⟨k,h1,h2,λ i hi=>Classical.byContradiction λ hn=>hm ⟨i,by omega,by omega,hn⟩⟩
  obtain ⟨k0,h1,h2⟩:=hex
  obtain ⟨k,h3,h4,h5⟩:=key (k0+1) ⟨k0,by omega,h1,h2⟩
  obtain ⟨r,hr⟩:=Option.ne_none_iff_exists'.1 h4
  exact ⟨k,r,h3,hr,h5,ZM k h3 hr h5⟩
theorem ZN {body:Int->Option (Int⊕ρ)} {N:Nat} (stop:Nat->Option ρ) {d:ρ} (h1:∀ i,i<N->body (i:Int)=some (match stop i with|some r=>.inr r|none=>.inl ((i+1:Nat):Int))) (h2:body (N:Int)=some (.inr d)):∀ n,N<n->whl body n 0=some (IP N stop d):=by
 intro n hn
 rcases Te N stop d with ⟨h,e⟩|⟨k,r,hk,hr,h,e⟩
 ·rw [e]
  exact XZ (λ i=>(i:Int)) N (λ i hi=>by rw [h1 i hi,h i hi]) h2 n hn
 ·rw [e]
  exact XZ (λ i=>(i:Int)) k (λ i hi=>by rw [h1 i (by omega),h i hi]) (by rw [h1 k hk,hr]) n (by omega)
theorem Ev.first {body:Nat->Int->Option (Int⊕ρ)} {N:Nat} (stop:Nat->Option ρ) {d:ρ} (h:∃ M,∀ n,M<=n->(∀ i,i<N->body n (i:Int)=some (match stop i with|some r=>.inr r|none=>.inl ((i+1:Nat):Int)))/\body n (N:Int)=some (.inr d)):Ev (λ n=>Go.AI.whl (body n) n 0) (IP N stop d):=by
 obtain ⟨M,h⟩:=h
 exact ⟨max M (N+1),λ n hn=>ZN stop (h n (by omega)).1 (h n (by omega)).2 n (by omega)⟩
theorem Tot.gF {P:α->Prop} {c:Bool} {f:Nat->Option β} {d:β} {g:Nat->β->Option α} (hc:c=false) (k:Tot (λ n=>g n d) P):Tot (λ n=>(if c=true then f n else some d).bind (g n)) P:=by
 subst hc;exact k
noncomputable def lim [Inhabited α] (f:Nat->Option α):α:=@dite α (∃ z,Ev f z) (Classical.propDecidable _) (λ h=>Classical.choose h) λ _=>default
theorem Ev.lim [Inhabited α] {f:Nat->Option α} {z:α} (h:Ev f z):lim f=z:=by
 have hex:∃ z,Ev f z:=⟨z,h⟩
 have e:AI.lim f=Classical.choose hex:=by unfold AI.lim;rw [dif_pos hex]
 rw [e]
 obtain ⟨n,hn⟩:=h
 obtain ⟨m,hm⟩:=Classical.choose_spec hex
 have h1:=hn (max n m) (by omega)
 have h2:=hm (max n m) (by omega)
 rw [h1] at h2;cases h2;rfl
theorem Tot.lim [Inhabited α] {f:Nat->Option α} {P:α->Prop} (h:Tot f P):P (lim f)/\Ev f (lim f):=by
 obtain ⟨z,hz,h⟩:=h
 rw [h.lim];exact ⟨hz,h⟩
theorem Ev.many {f:Nat->Nat->Option α} {z:Nat->α} (N:Nat) (h:∀ i,i<N->Ev (λ n=>f n i) (z i)):∃ M,∀ n,M<=n->∀ i,i<N->f n i=some (z i):=by
 induction N with
 | zero=>exact ⟨0,λ n _ i hi=>by omega⟩
 | succ N ih=>
  obtain ⟨M1,h1⟩:=ih λ i hi=>h i (by omega)
  obtain ⟨M2,h2⟩:=h N (by omega)
  exact ⟨max M1 M2,λ n hn i hi=>by
   by_cases e:i=N
   ·subst e;exact h2 n (by omega)
   ·exact h1 n (by omega) i (by omega)⟩
end Go.AI
end
