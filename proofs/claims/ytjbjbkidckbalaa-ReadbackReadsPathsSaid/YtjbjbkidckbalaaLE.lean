/- Part 5 of 6 of the proof: lemmas about the model and the program's functions, with no condition beyond those that each states. -/
import Derived.Test.YtjbjbkidckbalaaLD
import Derived.ChangeArms
import Derived.WalkKit
import Derived.ProofKit
import Derived.OpenShut
import Derived.Carry
import Derived.WideKeyArgs
import Derived.ChangeSame
import Derived.KernelRfl
section
namespace Go.AI
open Go.Proofs
set_option maxRecDepth 10000
variable {n:Nat}
section
variable (b2_:Ae) (b4_:Ae) (b5_1_:(List Int)) (b6_:Ao) (o7_:(List (Ae×Bool))) (j_1:Nat) (x_25:(List (Ae×Bool))) (x38:(List KD)) (x_26:(List (Ae×Bool))) (x_27:Int) (x_28:(List (Ae×Bool))) (x_29:(List (Ae×Bool)))
noncomputable def Ja5:St:=⟨(0,.yld 0)::(1,.ptr 1 0)::(2,.ptr 2 0)::[],[some (.lp Ah [6,12] [.ptr 3 0,.ptr 4 0] 0),some (.box [.ptr 5 0]),some (.box [.d (.int .i64 b2_.At),.d (.int .i64 b2_.State)]),some (.box [.ptr 5 0]),some (.box [.d (.int .i64 b4_.At),.d (.int .i64 b4_.State)]),some (.box [.ptr 6 0,.d (.sl (b5_1_.map eU8)),.mp 7]),some (.box (Ai b6_ (.osl 8 1 0 (b6_.Accepts.length)))),some (.map true false (AF Aq eB o7_)),some (.arr 1 (b6_.Accepts.map eB))]⟩
noncomputable def Q1:St:=⟨[],[some (.lp Ah [6,12] [.ptr 3 0,.ptr 4 0] j_1),some (.box [.ptr 5 0]),some (.box [.d (.int .i64 b2_.At),.d (.int .i64 b2_.State)]),some (.box [.ptr 5 0]),some (.box [.d (.int .i64 b4_.At),.d (.int .i64 b4_.State)]),some (.box [.ptr 6 0,.d (.sl (b5_1_.map eU8)),.mp 7]),some (.box (Ai b6_ (.osl 8 1 0 (b6_.Accepts.length)))),some (.map true false (AF Aq eB x_25)),some (.arr 1 (b6_.Accepts.map eB))]⟩
noncomputable def Ja6:St:=⟨(0,.yld 0)::(1,.ptr 1 0)::(2,.ptr 2 0)::(16,.d (.sl (x38.map BO)))::(17,.d (.int .i64 ((x38.length:Nat):Int)))::(18,.d (.int .i64 x_27))::[],[some (.lp Ah [6,12] [.ptr 3 0,.ptr 4 0] 0),some (.box [.ptr 5 0]),some (.box [.d (.int .i64 b2_.At),.d (.int .i64 b2_.State)]),some (.box [.ptr 5 0]),some (.box [.d (.int .i64 b4_.At),.d (.int .i64 b4_.State)]),some (.box [.ptr 6 0,.d (.sl (b5_1_.map eU8)),.mp 7]),some (.box (Ai b6_ (.osl 8 1 0 (b6_.Accepts.length)))),some (.map true false (AF Aq eB x_26)),some (.arr 1 (b6_.Accepts.map eB))]⟩
noncomputable def Ja7:St:=⟨[],[some (.lp Ah [6,12] [.ptr 3 0,.ptr 4 0] 0),some (.box [.ptr 5 0]),some (.box [.d (.int .i64 b2_.At),.d (.int .i64 b2_.State)]),some (.box [.ptr 5 0]),some (.box [.d (.int .i64 b4_.At),.d (.int .i64 b4_.State)]),some (.box [.ptr 6 0,.d (.sl (b5_1_.map eU8)),.mp 7]),some (.box (Ai b6_ (.osl 8 1 0 (b6_.Accepts.length)))),some (.map true false (AF Aq eB x_28)),some (.arr 1 (b6_.Accepts.map eB))]⟩
noncomputable def Ja8:St:=⟨(0,.yld 0)::(1,.ptr 1 0)::(2,.ptr 2 0)::(16,.d (.sl (x38.map BO)))::(17,.d (.int .i64 ((x38.length:Nat):Int)))::(18,.d (.int .i64 x_27))::[],[some (.lp Ah [6,12] [.ptr 3 0,.ptr 4 0] 0),some (.box [.ptr 5 0]),some (.box [.d (.int .i64 b2_.At),.d (.int .i64 b2_.State)]),some (.box [.ptr 5 0]),some (.box [.d (.int .i64 b4_.At),.d (.int .i64 b4_.State)]),some (.box [.ptr 6 0,.d (.sl (b5_1_.map eU8)),.mp 7]),some (.box (Ai b6_ (.osl 8 1 0 (b6_.Accepts.length)))),some (.map true false (AF Aq eB x_29)),some (.arr 1 (b6_.Accepts.map eB))]⟩
noncomputable def Jf:((List (Ae×Bool))⊕(Nat×(List (Ae×Bool))))->Ex->St->Prop:=xS (xX 9 0 (λ (y:(List (Ae×Bool)))=>Ja7 b2_ b4_ b5_1_ b6_ y)) (xL 9 ty Try.f85 (λ (y:(Nat×(List (Ae×Bool))))=>.tup []) (λ (y:(Nat×(List (Ae×Bool))))=>[some (.lp Ah [6,12] [.ptr 3 0,.ptr 4 0] y.1),some (.box [.ptr 5 0]),some (.box [.d (.int .i64 b2_.At),.d (.int .i64 b2_.State)]),some (.box [.ptr 5 0]),some (.box [.d (.int .i64 b4_.At),.d (.int .i64 b4_.State)]),some (.box [.ptr 6 0,.d (.sl (b5_1_.map eU8)),.mp 7]),some (.box (Ai b6_ (.osl 8 1 0 (b6_.Accepts.length)))),some (.map true false (AF Aq eB y.2)),some (.arr 1 (b6_.Accepts.map eB))]))
noncomputable def Fu:((List (Ae×Bool))×Int)->St:=(λ (x:((List (Ae×Bool))×Int))=>Ja6 b2_ b4_ b5_1_ b6_ x38 x.1 x.2)
variable {b2_ b4_ b5_1_ b6_ o7_ j_1 x_25 x38 x_26 x_27 x_28 x_29}
theorem ET (x:((List (Ae×Bool))×Int)) (z:(((List (Ae×Bool))×Int)⊕((List (Ae×Bool))⊕(Nat×(List (Ae×Bool)))))) (H:Bq n b2_ b4_ b5_1_ b6_ x38 x.1 x.2=some z):WP (cxk 53 9) (Az Try.f85) [1,0,0] (AE 9 (Fu b2_ b4_ b5_1_ b6_ x38) (Jf b2_ b4_ b5_1_ b6_) z) (Fu b2_ b4_ b5_1_ b6_ x38 x):=by
 obtain ⟨x_26,x_27⟩:=x
 refine sr (ck 1 (en (sq (cn H (λ H=>?_) (λ H=>?_)))))
 ·refine sk (qz (sj (λ (x:(List (Ae×Bool)))=>Ja8 b2_ b4_ b5_1_ b6_ x38 x_27 x) (λ (x:(List (Ae×Bool)))=>BN n x_27 x) z ?_ (λ hFRb_reading_fits_1_J1=>?_)))
  ·intro x_29 H
   exact rz (ck 2 (ae (by cases H;exact og (sg [0,1,2,16,17,18]))))
  refine bk 1 (sr (bx H λ x39 h117 H=>sp (AH BO h117) (ck 3 (en (sq (rx 9 27 (.refl _) (ck 8 (bx H λ l21 h118 H=>sp (TL eU8 1 h118) (bx H λ r31 h119 H=>xs (xok _ _) (g:=true) rfl (EO) [] ((IF h119).lent rfl) rfl (ck 2 (sp (AA eU8 x39.Cells) (ck 4 (gc 1 (r31==((x39.Cells.length:Nat):Int)) (ck 1 (gc 1 (r31==((x39.Cells.length:Nat):Int)) (ck 1 (gc 1 (r31==((x39.Cells.length:Nat):Int)) (sE (g:=(r31==((x39.Cells.length:Nat):Int))) (λ hg=>AA eU8 x39.Cells) (gc 1 (r31==((x39.Cells.length:Nat):Int)) (ck 1 (gc 2 (r31==((x39.Cells.length:Nat):Int)) (mx (gsp (r31==((x39.Cells.length:Nat):Int)) H (λ hg H=>?_) (λ hg H=>?_))))))))))))))))))))))))
  ·refine bx H λ r32 h120 H=>xy (xok _ _) hg (CF (λ hh=>hh) (CF (λ hh=>hh) (CF (λ hh=>hh) (EO)))) [0,3,4,5,6,7,8] (L5 h120) rfl (nx 30 29 (gc 1 (r31==((x39.Cells.length:Nat):Int)) (mx (pA (nz (qz (cnh H (λ hc59 H=>?_) (λ hc59 H=>?_))))))))
   ·exact re (qR (qr (by cases H;exact lo rfl (rl (s':=Q1 b2_ b4_ b5_1_ b6_ r32.1 r32.2) (sg [])))))
   ·exact sk (qN (qs (tr (Vn 0 (jb1 hg hc59) (by kernel_rfl)) (sg [0,1,2,16,17,18])) (hFRb_reading_fits_1_J1 r32.2 H)))
  ·refine gsk hg (.d (.bool false)) (nx 30 29 (gc 1 (r31==((x39.Cells.length:Nat):Int)) (mx (pA (nz (qz (cn H (λ H=>?_) (λ H=>?_))))))))
   ·exact re (qR (qr (by cases H;exact lo rfl (rl (s':=Q1 b2_ b4_ b5_1_ b6_ 0 x_26) (sg [])))))
   ·exact sk (qN (qs (sg [0,1,2,16,17,18]) (hFRb_reading_fits_1_J1 x_26 H)))
 ·exact ex 0 (qx (by cases H;exact xo rfl (sg [])))
theorem KH {z} (H:Cj n b2_ b4_ b5_1_ b6_ o7_=some z):BZ Try.prog 85 [.yld 0,.ptr 1 0,.ptr 2 0] [some (.lp Ah [6,12] [.ptr 3 0,.ptr 4 0] 0),some (.box [.ptr 5 0]),some (.box [.d (.int .i64 b2_.At),.d (.int .i64 b2_.State)]),some (.box [.ptr 5 0]),some (.box [.d (.int .i64 b4_.At),.d (.int .i64 b4_.State)]),some (.box [.ptr 6 0,.d (.sl (b5_1_.map eU8)),.mp 7]),some (.box (Ai b6_ (.osl 8 1 0 (b6_.Accepts.length)))),some (.map true false (AF Aq eB o7_)),some (.arr 1 (b6_.Accepts.map eB))] 9 (.tup []) [some (.lp Ah [6,12] [.ptr 3 0,.ptr 4 0] z.1),some (.box [.ptr 5 0]),some (.box [.d (.int .i64 b2_.At),.d (.int .i64 b2_.State)]),some (.box [.ptr 5 0]),some (.box [.d (.int .i64 b4_.At),.d (.int .i64 b4_.State)]),some (.box [.ptr 6 0,.d (.sl (b5_1_.map eU8)),.mp 7]),some (.box (Ai b6_ (.osl 8 1 0 (b6_.Accepts.length)))),some (.map true false (AF Aq eB z.2)),some (.arr 1 (b6_.Accepts.map eB))]:=by
 refine fL 53 9 (Ja5 b2_ b4_ b5_1_ b6_ o7_) Try.func85 (sr (ck 9 (bx H λ x38 h116 H=>sp (AH (eL BO) h116) (ck 1 (sp (AA BO x38) (ck 1 (en (bk 0 (bx H λ y35 h121 H=>?_)))))))))
 rcases y35 with y36|y37
 ·exact lX ET h121 (sg [0,1,2,16,17,18]) rfl λ s hE29=>qH (by cases H;exact pL' (rl (s':=Q1 b2_ b4_ b5_1_ b6_ 0 y36) (tr (hE29) (sg []))))
 ·exact lL ET h121 (sg [0,1,2,16,17,18]) rfl λ s hE30=>qR (by cases H;exact pL hE30)
end
section
variable (p0_:AW) (least_1:Int) (x_30:Int) (least_2:Int) (least_3:Int)
def JfV:St:=⟨(0,.dptr (A8 p0_) 0)::[],[]⟩
def JfW:St:=⟨(0,.dptr (A8 p0_) 0)::(3,.d (.int .i64 least_1))::(10,.d (.sl (p0_.Heads.map Ag)))::(11,.d (.int .i64 ((p0_.Heads.length:Nat):Int)))::(12,.d (.int .i64 x_30))::[],[]⟩
def JfX:St:=⟨(3,.d (.int .i64 least_2))::[],[]⟩
def JfY:St:=⟨(0,.dptr (A8 p0_) 0)::(3,.d (.int .i64 least_3))::(10,.d (.sl (p0_.Heads.map Ag)))::(11,.d (.int .i64 ((p0_.Heads.length:Nat):Int)))::(12,.d (.int .i64 x_30))::[],[]⟩
def KI:Int->Ex->St->Prop:=xX 0 0 (λ (y:Int)=>JfX y)
def FV:(Int×Int)->St:=(λ (x:(Int×Int))=>JfW p0_ x.1 x.2)
variable {p0_ least_1 x_30 least_2 least_3}
theorem JX (x:(Int×Int)) (z:((Int×Int)⊕Int)) (H:BI n p0_ x.1 x.2=some z):WP (cxk 38 0) (Az Try.f76) [1,1,0,1,0,0] (AE 0 (FV p0_) (KI) z) (FV p0_ x):=by
 obtain ⟨least_1,x_30⟩:=x
 refine sr (ck 1 (en (sq (cn H (λ H=>?_) (λ H=>?_)))))
 ·refine sk (qz (sj (λ (x:Int)=>JfY p0_ x_30 x) (λ (x:Int)=>B7 n x_30 x) z ?_ (λ hFRb_branch_least_J1=>?_)))
  ·intro least_3 H
   exact rz (ck 2 (ae (by cases H;exact og (sg [0,3,10,11,12]))))
  refine bk 1 (sr (bx H λ x40 h122 H=>sp (AH Ag h122) (ck 3 (en (sr (ck 2 (bx H λ b5 h123 H=>sp (Gn h123) (ck 2 (en (sr (ck 8 (gc 2 (decide (IntKind.i64.wrap b5>=p0_.Next)) (ck 2 (gc 1 ((decide (IntKind.i64.wrap b5>=p0_.Next))&&!(decide (least_1<0))) (pG (g:=decide (IntKind.i64.wrap b5>=p0_.Next)) (v:=.d (.bool ((decide (least_1<0))||(decide (IntKind.i64.wrap b5<least_1))))) (λ hg=>YB (c:=.gv (decide (IntKind.i64.wrap b5>=p0_.Next)) (.d (.bool (decide (least_1<0))))) (a:=.d (.bool true)) (b:=.gv ((decide (IntKind.i64.wrap b5>=p0_.Next))&&!(decide (least_1<0))) (.d (.bool (decide (IntKind.i64.wrap b5<least_1))))) rfl rfl rfl ((λ hh=>hh) hg) trivial (λ ht=>by rw [(λ hh=>hh) hg,ht];rfl)) (pA (en (cn H (λ H=>?_) (λ H=>?_)))))))))))))))))))
  ·exact rz (ck 2 (ae (qN (qs (sg [0,3,10,11,12]) (hFRb_branch_least_J1 (IntKind.i64.wrap b5) H)))))
  ·exact sk (qN (qs (sg [0,3,10,11,12]) (hFRb_branch_least_J1 least_1 H)))
 ·exact ex 0 (qx (by cases H;exact xo rfl (sg [3])))
theorem Hb {z} (H:Ck n p0_=some z):AL Try.prog 76 [.dptr (A8 p0_) 0] (.d (.int .i64 z)):=by
 exact fO 38 (JfV p0_) Try.func76 (sr (ck 1 (en (sr (ck 1 (en (sq (sr (ck 4 (sp (AA Ag p0_.Heads) (ck 1 (en (bk 0 (bx H λ y38 h124 H=>lX JX h124 (sg [0,3,10,11,12]) rfl λ s hE31=>qH (qs (hE31) (sr (ck 2 (en (re (by cases H;exact pr rd))))))))))))))))))))
end
section
variable (p0_:Ab) (p1_:(List Int)) (x_32:Ao) (x_33:(List (Ae×Bool))) (x_34:Int) (r33:Ao) (r34:((List (Bool×(List Int)))×Int)) (reached_15:(List (Bool×(List Int)))) (r_1:(List (Ae×Bool))) (i_2:Int) (r_2:(List (Ae×Bool))) (x42:(Bool×(List Int))) (r_3:(List (Ae×Bool))) (x_35:Int) (r_4:(List (Ae×Bool))) (r_5:(List (Ae×Bool))) (x43:Int) (r_6:(List (Ae×Bool)))
def Ja9:St:=⟨(0,.agg [.d (.int .i64 p0_.Modes),.d (.int .u8 p0_.Accept),.d (.sl (p0_.Rules.map Ar))])::(1,.d (.sl (p1_.map eU8)))::[],[]⟩
def Jba:St:=⟨(4,.ptr 0 0)::(5,.d (.int .i64 x_34))::[],[some (.box [.ptr 1 0,.d (.sl (p1_.map eU8)),.mp 2]),some (.box (Ai x_32 (.osl 3 1 0 (x_32.Accepts.length)))),some (.map true false (AF Aq eB x_33)),some (.arr 1 (x_32.Accepts.map eB))]⟩
def Jbb:St:=⟨(1,.d (.sl (p1_.map eU8)))::(6,.ptr 0 0)::(7,.osl 1 1 0 (reached_15.length))::(8,.d (.int .i64 r34.2))::(9,.d (.int .i64 i_2))::[],[some (.box [.ptr 2 0]),some (.narr 1 (reached_15.map (eTg 1 Ap))),some (.box [.ptr 3 0,.d (.sl (p1_.map eU8)),.mp 4]),some (.box (Ai r33 (.osl 5 1 0 (r33.Accepts.length)))),some (.map true false (AF Aq eB r_1)),some (.arr 1 (r33.Accepts.map eB))]⟩
def Jbc:St:=⟨(6,.ptr 0 0)::(8,.d (.int .i64 r34.2))::[],[some (.box [.ptr 1 0]),some (.box [.ptr 2 0,.d (.sl (p1_.map eU8)),.mp 3]),some (.box (Ai r33 (.osl 4 1 0 (r33.Accepts.length)))),some (.map true false (AF Aq eB r_2)),some (.arr 1 (r33.Accepts.map eB))]⟩
def Jbd:St:=⟨(1,.d (.sl (p1_.map eU8)))::(6,.ptr 0 0)::(7,.osl 1 1 0 (List.length (List.set reached_15 i_2.toNat (true,x42.2))))::(8,.d (.int .i64 r34.2))::(9,.d (.int .i64 i_2))::(39,.d (.sl (x42.2.map Ap)))::(40,.d (.int .i64 ((x42.2.length:Nat):Int)))::(41,.d (.int .i64 x_35))::[],[some (.box [.ptr 2 0]),some (.narr 1 (List.map (eTg 1 Ap) (List.set reached_15 i_2.toNat (true,x42.2)))),some (.box [.ptr 3 0,.d (.sl (p1_.map eU8)),.mp 4]),some (.box (Ai r33 (.osl 5 1 0 (r33.Accepts.length)))),some (.map true false (AF Aq eB r_3)),some (.arr 1 (r33.Accepts.map eB))]⟩
def Jbe:St:=⟨(1,.d (.sl (p1_.map eU8)))::(6,.ptr 0 0)::(7,.osl 1 1 0 (List.length (List.set reached_15 i_2.toNat (true,x42.2))))::(8,.d (.int .i64 r34.2))::(9,.d (.int .i64 i_2))::[],[some (.box [.ptr 2 0]),some (.narr 1 (List.map (eTg 1 Ap) (List.set reached_15 i_2.toNat (true,x42.2)))),some (.box [.ptr 3 0,.d (.sl (p1_.map eU8)),.mp 4]),some (.box (Ai r33 (.osl 5 1 0 (r33.Accepts.length)))),some (.map true false (AF Aq eB r_4)),some (.arr 1 (r33.Accepts.map eB))]⟩
def Jbf:St:=⟨(1,.d (.sl (p1_.map eU8)))::(6,.ptr 0 0)::(7,.osl 1 1 0 (List.length (List.set reached_15 i_2.toNat (true,x42.2))))::(8,.d (.int .i64 r34.2))::(9,.d (.int .i64 i_2))::(39,.d (.sl (x42.2.map Ap)))::(40,.d (.int .i64 ((x42.2.length:Nat):Int)))::(41,.d (.int .i64 x_35))::[],[some (.box [.ptr 2 0]),some (.narr 1 (List.map (eTg 1 Ap) (List.set reached_15 i_2.toNat (true,x42.2)))),some (.box [.ptr 3 0,.d (.sl (p1_.map eU8)),.mp 4]),some (.box (Ai r33 (.osl 5 1 0 (r33.Accepts.length)))),some (.map true false (AF Aq eB r_5)),some (.arr 1 (r33.Accepts.map eB))]⟩
def Jbg:St:=⟨(1,.d (.sl (p1_.map eU8)))::(6,.ptr 0 0)::(7,.osl 1 1 0 (List.length (List.set reached_15 i_2.toNat (true,x42.2))))::(8,.d (.int .i64 r34.2))::(9,.d (.int .i64 i_2))::(12,.ptr 2 0)::(39,.d (.sl (x42.2.map Ap)))::(40,.d (.int .i64 ((x42.2.length:Nat):Int)))::(41,.d (.int .i64 x_35))::[],[some (.box [.ptr 3 0]),some (.narr 1 (List.map (eTg 1 Ap) (List.set reached_15 i_2.toNat (true,x42.2)))),some (.box [.d (.int .i64 i_2),.d (.int .i64 x43)]),some (.box [.ptr 4 0,.d (.sl (p1_.map eU8)),.mp 5]),some (.box (Ai r33 (.osl 6 1 0 (r33.Accepts.length)))),some (.map true false (AF Aq eB r_6)),some (.arr 1 (r33.Accepts.map eB))]⟩
def L6:(List (Ae×Bool))->Ex->St->Prop:=xX 0 2 (λ (y:(List (Ae×Bool)))=>Jbe p1_ r33 r34 reached_15 i_2 x42 y)
def Hc:((List (Ae×Bool))×Int)->St:=(λ (x:((List (Ae×Bool))×Int))=>Jbd p1_ r33 r34 reached_15 i_2 x42 x.1 x.2)
def L7:(List (Ae×Bool))->Ex->St->Prop:=xX 0 0 (λ (y:(List (Ae×Bool)))=>Jbc p1_ r33 r34 y)
def Hd:((List (Bool×(List Int)))×(List (Ae×Bool))×Int)->St:=(λ (x:((List (Bool×(List Int)))×(List (Ae×Bool))×Int))=>Jbb p1_ r33 r34 x.1 x.2.1 x.2.2)
variable {p0_ p1_ x_32 x_33 x_34 r33 r34 reached_15 r_1 i_2 r_2 x42 r_3 x_35 r_4 r_5 x43 r_6}
theorem Lk (x:((List (Ae×Bool))×Int)) (z:(((List (Ae×Bool))×Int)⊕(List (Ae×Bool)))) (H:BM n p1_ r33 r34 reached_15 i_2 x42 x.1 x.2=some z):WP (cxk 88 0) (Az Try.f60) [1,1,1,0,1,0,0,1,0,0,1,0,0] (AE 0 (Hc p1_ r33 r34 reached_15 i_2 x42) (L6 p1_ r33 r34 reached_15 i_2 x42) z) (Hc p1_ r33 r34 reached_15 i_2 x42 x):=by
 obtain ⟨r_3,x_35⟩:=x
 refine sr (ck 1 (en (sq (cn H (λ H=>?_) (λ H=>?_)))))
 ·refine sk (qz (sj (λ (x:(List (Ae×Bool)))=>Jbf p1_ r33 r34 reached_15 i_2 x42 x_35 x) (λ (x:(List (Ae×Bool)))=>C9 n x_35 x) z ?_ (λ hFRb_newReading_J1=>?_)))
  ·intro r_5 H
   exact rz (ck 2 (ae (by cases H;exact og (gP [1,6,7,8,9,39,40,41] [0,1,2,3,4,5] (po1 (pn1 (eTg 1 Ap) (List.set reached_15 i_2.toNat (true,x42.2)) (po1 (po1 (po1 (po1 (Pl.z)))))))))))
  refine bk 3 (sr (bx H λ x43 h133 H=>sp (AH Ap h133) (ck 2 (en (sr (ck 5 (en (sj (λ (x:(List (Ae×Bool)))=>Jbg p1_ r33 r34 reached_15 i_2 x42 x_35 x43 x) (λ (x:(List (Ae×Bool)))=>B5 n p1_ r33 i_2 x_35 x43 x) z ?_ (λ hFRb_newReading_J2=>?_)))))))))
  ·intro r_6 H
   refine sr (ck 2 (bx H λ r35 h134 H=>lt [3,4,5,6] (EJ h134) (en (bk 4 (bx H λ r36 h135 H=>rf [.exit 4] [6,12] [9,7,8,0,2,3,4,5,6] r36.1 (KH h135) rfl (jn H (λ H=>?_) (λ H=>?_)))))))
   ·exact qN (qN (qs (gP [1,6,7,8,9,39,40,41] [0,1,3,4,5,6] (po1 (pn1 (eTg 1 Ap) (List.set reached_15 i_2.toNat (true,x42.2)) (po1 (po1 (po1 (po1 (Pl.z)))))))) (hFRb_newReading_J1 r36.2 H)))
   ·refine jx 0 4 H (λ H=>?_) (λ H=>?_)
    ·exact qH (qN (qs (gP [1,6,7,8,9,39,40,41] [0,1,3,4,5,6] (po1 (pn1 (eTg 1 Ap) (List.set reached_15 i_2.toNat (true,x42.2)) (po1 (po1 (po1 (po1 (Pl.z)))))))) (hFRb_newReading_J1 r36.2 H)))
    ·cases H
  refine sr (ck 2 (sp (AA eU8 p1_) (ck 3 (gc 6 (i_2==((p1_.length:Nat):Int)) (ck 1 (bx H λ x44 h136 H=>sE (λ hg=>A3 5 1 (Dj h136 hg)) (sE (g:=(i_2==((p1_.length:Nat):Int))) (λ hg=>CN eB 5 0 (ty 4) (Dj h136 hg)) (pA (en (cn H (λ H=>?_) (λ H=>?_)))))))))))
  ·exact rz (ck 5 (sp (JP (enc:=eB) (encK:=Aq) (k:=4) (e1:=λ x=>.bool x) (m:=r_3) (l:=[.d (.int .i64 i_2),.d (.int .i64 x43)]) (key:=({ At:=i_2,State:=x43 }:Ae)) (y:=true) (v:=.d (.bool true)) (vz:=[.bool false]) K4) (ae (qs (gP [1,6,7,8,9,12,39,40,41] [0,1,6,2,3,4,5] (po1 (pn1 (eTg 1 Ap) (List.set reached_15 i_2.toNat (true,x42.2)) (po1 (po1 (po1 (po1 (po1 (Pl.z))))))))) (hFRb_newReading_J2 (D3 ({ At:=i_2,State:=x43 }:Ae) true r_3) H)))))
  ·exact sk (qs (gP [1,6,7,8,9,12,39,40,41] [0,1,6,2,3,4,5] (po1 (pn1 (eTg 1 Ap) (List.set reached_15 i_2.toNat (true,x42.2)) (po1 (po1 (po1 (po1 (po1 (Pl.z))))))))) (hFRb_newReading_J2 r_3 H))
 ·exact ex 2 (qx (by cases H;exact xo rfl (gP [1,6,7,8,9] [0,1,2,3,4,5] (po1 (pn1 (eTg 1 Ap) (List.set reached_15 i_2.toNat (true,x42.2)) (po1 (po1 (po1 (po1 (Pl.z))))))))))
theorem Ll (x:((List (Bool×(List Int)))×(List (Ae×Bool))×Int)) (z:(((List (Bool×(List Int)))×(List (Ae×Bool))×Int)⊕(List (Ae×Bool)))) (H:B6 n p1_ r33 r34 x.1 x.2.1 x.2.2=some z):WP (cxk 88 0) (Az Try.f60) [1,1,1,0,1,0,0] (AE 0 (Hd p1_ r33 r34) (L7 p1_ r33 r34) z) (Hd p1_ r33 r34 x):=by
 obtain ⟨reached_15,r_1,i_2⟩:=x
 refine sq (sr (ck 2 (en (cn H (λ H=>?_) (λ H=>?_)))))
 ·exact sk (qz (sq (bk 1 (sq (bx H λ x42 h132 H=>rg (XD (enc:=Ap) (xss:=reached_15) (sz:=1) (isz:=1) 1 (by kernel_rfl) h132) (ck 2 (sp (A3 1 1 h132) (sp (QP (encN:=(eTg 1 Ap)) (row:=[.d (.sl (x42.2.map Ap))]) (k:=1) (sz:=1) (off:=0) (t:=ty 33) (v:=.d (.sl (x42.2.map Ap))) h132) (sp (AA Ap x42.2) (ck 1 (en (bk 2 (bx H λ y40 h137 H=>lX Lk h137 (tr (tr (tr (scl (encN:=(eTg 1 Ap)) (xss:=reached_15) i_2 [.d (.sl (x42.2.map Ap))] 1 1 (true,x42.2)) (sn 7 1 1 (lsS reached_15 i_2.toNat (true,x42.2)))) (sn 36 1 1 (lsS reached_15 i_2.toNat (true,x42.2)))) (gP [1,6,7,8,9,39,40,41] [0,1,2,3,4,5] (po1 (pn1 (eTg 1 Ap) (List.set reached_15 i_2.toNat (true,x42.2)) (po1 (po1 (po1 (po1 (Pl.z))))))))) rfl λ s hE33=>qH (qN (qs (hE33) (rz (ck 3 (ae (by cases H;exact og (gP [1,6,7,8,9] [0,1,2,3,4,5] (po1 (pn1 (eTg 1 Ap) (List.set reached_15 i_2.toNat (true,x42.2)) (po1 (po1 (po1 (po1 (Pl.z)))))))))))))))))))))))))))
 ·exact ex 0 (qx (by cases H;exact xo rfl (sg [6,8])))
theorem Ir {z} (H:CQ n p0_ p1_=some z):BZ Try.prog 60 [.agg (AG p0_),.d (.sl (p1_.map eU8))] [] 0 (.tup [.ptr 0 0,.d (.int .i64 z.2.2)]) [some (.box [.ptr 1 0,.d (.sl (p1_.map eU8)),.mp 2]),some (.box (Ai z.1 (.osl 3 1 0 (z.1.Accepts.length)))),some (.map true false (AF Aq eB z.2.1)),some (.arr 1 (z.1.Accepts.map eB))]:=by
 exact fL 88 0 (Ja9 p0_ p1_) Try.func60 (sr (ck 3 (en (sr (ck 1 (bx H λ r33 h130 H=>lt [] (Kq h130) (ck 6 (en (sr (ck 5 (bx H λ r34 h131 H=>lt [1,2] (HO h131) (tb (f:=HC (DW [1,2] 6 2)) [some (.box (AG p0_)),some (.box (Ai r33 (.osl 2 1 0 (r33.Accepts.length)))),some (.arr 1 (r33.Accepts.map eB)),some (.map true false (AF Aq eB [])),some (.box [.ptr 1 0,.d (.sl (p1_.map eU8)),.mp 3]),some (.box [.ptr 4 0]),some (.narr 1 (r34.1.map (eTg 1 Ap)))] (po1 (po1 (po1 (po1 (po1 (po1 (pn1 (eTg 1 Ap) r34.1 (Pl.z)))))))) (ck 5 (en (sq (sr (ck 1 (sp (AA eU8 p1_) (ck 1 (en (bk 0 (bx H λ y41 h138 H=>lX Ll h138 (gP [1,6,7,8,9] [5,6,4,1,3,2] (po1 (pn1 (eTg 1 Ap) r34.1 (po1 (po1 (po1 (po1 (Pl.z)))))))) rfl λ s hE34=>qH (qs (hE34) (sr (ck 4 (en (re (by cases H;exact pL (rl (s':=Jba p1_ r33 y41 r34.2) (sg [4,5]))))))))))))))))))))))))))))))
end
section
variable (b0_1_:(List Int)) (b1_:Ao) (o2_:(List (Ae×Bool)))
def Jbh:St:=⟨(0,.ptr 0 0)::[],[some (.box [.ptr 1 0,.d (.sl (b0_1_.map eU8)),.mp 2]),some (.box (Ai b1_ (.osl 3 1 0 (b1_.Accepts.length)))),some (.map true false (AF Aq eB o2_)),some (.arr 1 (b1_.Accepts.map eB))]⟩
def Jbi:St:=⟨(2,.clo 74 [.ptr 4 0])::[],[some (.box [.ptr 1 0,.d (.sl (b0_1_.map eU8)),.mp 2]),some (.box (Ai b1_ (.osl 3 1 0 (b1_.Accepts.length)))),some (.map true false (AF Aq eB o2_)),some (.arr 1 (b1_.Accepts.map eB)),some (.box [.ptr 0 0])]⟩
variable {b0_1_ b1_ o2_}
theorem GP {z} (H:Da n b0_1_ b1_ o2_=some z):BZ Try.prog 61 [.ptr 0 0] [some (.box [.ptr 1 0,.d (.sl (b0_1_.map eU8)),.mp 2]),some (.box (Ai b1_ (.osl 3 1 0 (b1_.Accepts.length)))),some (.map true false (AF Aq eB o2_)),some (.arr 1 (b1_.Accepts.map eB))] 4 (.clo 74 [.ptr 4 0]) [some (.box [.ptr 1 0,.d (.sl (b0_1_.map eU8)),.mp 2]),some (.box (Ai b1_ (.osl 3 1 0 (b1_.Accepts.length)))),some (.map true false (AF Aq eB o2_)),some (.arr 1 (b1_.Accepts.map eB)),some (.box [.ptr 0 0])]:=by
 exact fL 4 4 (Jbh b0_1_ b1_ o2_) Try.func61 (sr (ck 2 (en (sr (xm (xok _ _) (ck 1 (en (re (by cases H;exact pL (rl (s':=Jbi b0_1_ b1_ o2_) (sg [2])))))))))))
end
section
variable (p0_:Ac) (o3_:(List (Ac×Bool))) (o4_:(List Ac)) (o5_:(List Ac)) (x_36:(List (Ac×Bool))) (x_37:(List Ac)) (x_38:(List Ac))
def Jbj:St:=⟨(0,.agg [.d (.int .i64 p0_.Spot.At),.d (.int .i64 p0_.Spot.State),.d (.str p0_.Rest)])::(1,.ptr 0 0)::(2,.ptr 1 0)::(3,.ptr 2 0)::[],[some (.box [.mp 3]),some (.box [.osl 4 3 0 (o4_.length)]),some (.box [.osl 5 3 0 (o5_.length)]),some (.map true false (AF Ag eB o3_)),some (.arr 3 (o4_.map Ag)),some (.arr 3 (o5_.map Ag))]⟩
def Q2:St:=⟨[],[some (.box [.mp 3]),some (.box [.osl 6 3 0 (x_37.length)]),some (.box [.osl 7 3 0 (x_38.length)]),some (.map true false (AF Ag eB x_36)),none,none,some (.arr 3 (x_37.map Ag)),some (.arr 3 (x_38.map Ag))]⟩
variable {p0_ o3_ o4_ o5_ x_36 x_37 x_38}
theorem Dm {z} (H:A1 n p0_ o3_ o4_ o5_=some z):BZ Try.prog 86 [.agg (JaI p0_),.ptr 0 0,.ptr 1 0,.ptr 2 0] [some (.box [.mp 3]),some (.box [.osl 4 3 0 (o4_.length)]),some (.box [.osl 5 3 0 (o5_.length)]),some (.map true false (AF Ag eB o3_)),some (.arr 3 (o4_.map Ag)),some (.arr 3 (o5_.map Ag))] 6 (.tup []) [some (.box [.mp 3]),some (.box [.osl 6 3 0 (z.2.1.length)]),some (.box [.osl 7 3 0 (z.2.2.length)]),some (.map true false (AF Ag eB z.1)),none,none,some (.arr 3 (z.2.1.map Ag)),some (.arr 3 (z.2.2.map Ag))]:=by
 refine fL 21 6 (Jbj p0_ o3_ o4_ o5_) Try.func86 (sr (ck 1 (en (sq (sr (ck 2 (sp (FD (enc:=eB) (encK:=Ag) (k:=3) (e1:=λ x=>.bool x) (m:=o3_) (l:=[.d (.int .i64 p0_.Spot.At),.d (.int .i64 p0_.Spot.State),.d (.str p0_.Rest)]) (key:=p0_) (z:=false) (vz:=[.bool false]) JaJ false) (en (cn H (λ H=>?_) (λ H=>?_))))))))))
 ·exact re (qr (by cases H;exact pL (rl (s':=Q2 o3_ o4_ o5_) (tr (tr (BP (k:=4) (sz:=3) 1 0 (o4_.map Ag) (o4_.length) (by kernel_rfl) Bk leM rfl) (BP (k:=5) (sz:=3) 2 0 (o5_.map Ag) (o5_.length) (by kernel_rfl) Bk leM rfl)) (sg [])))))
 ·refine sk (qz (sr (ck 2 (sp (JP (enc:=eB) (encK:=Ag) (k:=3) (e1:=λ x=>.bool x) (m:=o3_) (l:=[.d (.int .i64 p0_.Spot.At),.d (.int .i64 p0_.Spot.State),.d (.str p0_.Rest)]) (key:=p0_) (y:=true) (v:=.d (.bool true)) (vz:=[.bool false]) JaJ) (en (sr (ck 3 (en (cn H (λ H=>?_) (λ H=>?_))))))))))
  ·exact rz (ck 3 (bx H λ l23 h139 H=>sp (Bd Ag 4 3 h139) (ck 1 (ae (by cases H;exact pL' (rl (s':=Q2 (D3 p0_ true o3_) l23 o5_) (tr (BP (k:=5) (sz:=3) 2 0 (o5_.map Ag) (o5_.length) (by kernel_rfl) Bk leM rfl) (sg []))))))))
  ·exact rz (ck 3 (bx H λ l24 h140 H=>sp (Bd Ag 5 3 h140) (ck 1 (ae (by cases H;exact pL' (rl (s':=Q2 (D3 p0_ true o3_) o4_ l24) (tr (BP (k:=4) (sz:=3) 1 0 (o4_.map Ag) (o4_.length) (by kernel_rfl) Bk leM rfl) (sg []))))))))
end
noncomputable def Jbk (p1_:(List UInt8)) (p2_:Ae) (b3_1_:(List Int)) (b7_:Ao) (o8_:(List (Ae×Bool))) (o9_:(List (Ac×Bool))) (o10_:(List Ac)) (o11_:(List Ac)):St:=⟨(77,.agg [.d (.int .i64 p2_.At),.d (.int .i64 p2_.State)])::(76,.d (.str p1_))::(2,.ptr 1 0)::(9,.ptr 2 0)::[],[some (.lp Al [2,9] [.ptr 1 0,.ptr 2 0] 0),some (.box [.ptr 3 0]),some (.box [.clo 86 [.ptr 4 0,.ptr 5 0,.ptr 6 0]]),some (.box [.ptr 7 0,.d (.sl (b3_1_.map eU8)),.mp 8]),some (.box [.mp 9]),some (.box [.osl 10 3 0 (o10_.length)]),some (.box [.osl 11 3 0 (o11_.length)]),some (.box (Ai b7_ (.osl 12 1 0 (b7_.Accepts.length)))),some (.map true false (AF Aq eB o8_)),some (.map true false (AF Ag eB o9_)),some (.arr 3 (o10_.map Ag)),some (.arr 3 (o11_.map Ag)),some (.arr 1 (b7_.Accepts.map eB))]⟩
noncomputable def Vu (b3_1_:(List Int)) (b7_:Ao) (o8_:(List (Ae×Bool))) (x_39:(List (Ac×Bool))) (x_40:(List Ac)) (x_41:(List Ac)):St:=⟨[],[some (.lp Al [2,9] [.ptr 1 0,.ptr 2 0] 1),some (.box [.ptr 3 0]),some (.box [.clo 86 [.ptr 4 0,.ptr 5 0,.ptr 6 0]]),some (.box [.ptr 7 0,.d (.sl (b3_1_.map eU8)),.mp 8]),some (.box [.mp 9]),some (.box [.osl 13 3 0 (x_40.length)]),some (.box [.osl 14 3 0 (x_41.length)]),some (.box (Ai b7_ (.osl 15 1 0 (b7_.Accepts.length)))),some (.map true false (AF Aq eB o8_)),some (.map true false (AF Ag eB x_39)),none,none,none,some (.arr 3 (x_40.map Ag)),some (.arr 3 (x_41.map Ag)),some (.arr 1 (b7_.Accepts.map eB))]⟩
section
variable (p1_:(List UInt8)) (p2_:Ae) (b3_1_:(List Int)) (b7_:Ao) (o8_:(List (Ae×Bool))) (o9_:(List (Ac×Bool))) (o10_:(List Ac)) (o11_:(List Ac))
variable {p1_ p2_ b3_1_ b7_ o8_ o9_ o10_ o11_}
theorem Jg {z} (H:BV n p1_ p2_ b3_1_ b7_ o8_ o9_ o10_ o11_=some z):O5 Try.prog [.d (.str p1_),.agg [.d (.int .i64 p2_.At),.d (.int .i64 p2_.State)]] [some (.lp Al [2,9] [.ptr 1 0,.ptr 2 0] 0),some (.box [.ptr 3 0]),some (.box [.clo 86 [.ptr 4 0,.ptr 5 0,.ptr 6 0]]),some (.box [.ptr 7 0,.d (.sl (b3_1_.map eU8)),.mp 8]),some (.box [.mp 9]),some (.box [.osl 10 3 0 (o10_.length)]),some (.box [.osl 11 3 0 (o11_.length)]),some (.box (Ai b7_ (.osl 12 1 0 (b7_.Accepts.length)))),some (.map true false (AF Aq eB o8_)),some (.map true false (AF Ag eB o9_)),some (.arr 3 (o10_.map Ag)),some (.arr 3 (o11_.map Ag)),some (.arr 1 (b7_.Accepts.map eB))] 13 0 [some (.lp Al [2,9] [.ptr 1 0,.ptr 2 0] 0),some (.box [.ptr 3 0]),some (.box [.clo 86 [.ptr 4 0,.ptr 5 0,.ptr 6 0]]),some (.box [.ptr 7 0,.d (.sl (b3_1_.map eU8)),.mp 8]),some (.box [.mp 9]),some (.box [.osl 13 3 0 (z.2.1.length)]),some (.box [.osl 14 3 0 (z.2.2.length)]),some (.box (Ai b7_ (.osl 15 1 0 (b7_.Accepts.length)))),some (.map true false (AF Aq eB o8_)),some (.map true false (AF Ag eB z.1)),none,none,none,some (.arr 3 (z.2.1.map Ag)),some (.arr 3 (z.2.2.map Ag)),some (.arr 1 (b7_.Accepts.map eB))]:=by
 refine fk (C:=Az Try.f75) (p:=[1,1,1,1,1,1,0,0,0,1,0,1,1,1,1,0]) 92 [76,77] [] (ts:=[2,9]) (vs:=[.ptr 1 0,.ptr 2 0]) (Jbk p1_ p2_ b3_1_ b7_ o8_ o9_ o10_ o11_) follows (XE 92 13) (sr (ck 1 (en (rz (ck 2 (ae (aq (js:=[]) (bk 5 (sr (ck 5 (sp (FD (enc:=eB) (encK:=Aq) (k:=8) (e1:=λ x=>.bool x) (m:=o8_) (l:=[.d (.int .i64 p2_.At),.d (.int .i64 p2_.State)]) (key:=p2_) (z:=false) (vz:=[.bool false]) K4 false) (en (cn H (λ H=>?_) (λ H=>?_))))))))))))))
 ·exact rz (ck 4 (bx H λ r37 h141 H=>xc (Ji8 _ _) [4,5,6,9,10,11] (Dm h141) (ae (qN (by cases H;exact rq (s':=Vu b3_1_ b7_ o8_ r37.1 r37.2.1 r37.2.2) (tr (BP (k:=12) (sz:=1) 7 1 (b7_.Accepts.map eB) (b7_.Accepts.length) (by kernel_rfl) Bk leM rfl) (sg [])))))))
 ·exact sk (qN (by cases H;exact rq (s':=Vu b3_1_ b7_ o8_ o9_ o10_ o11_) (tr (tr (tr (BP (k:=10) (sz:=3) 5 0 (o10_.map Ag) (o10_.length) (by kernel_rfl) Bk leM rfl) (BP (k:=11) (sz:=3) 6 0 (o11_.map Ag) (o11_.length) (by kernel_rfl) Bk leM rfl)) (BP (k:=12) (sz:=1) 7 1 (b7_.Accepts.map eB) (b7_.Accepts.length) (by kernel_rfl) Bk leM rfl)) (sg []))))
end
section
variable (b2_:Ae) (b5_1_:(List Int)) (b9_:Ao) (o10_:(List (Ae×Bool))) (o11_:(List (Ac×Bool))) (o12_:(List Ac)) (o13_:(List Ac)) (x_42:(List (Ac×Bool))) (x_43:(List Ac)) (x_44:(List Ac)) (x45:(List KD)) (x_45:(List (Ac×Bool))) (x_46:(List Ac)) (x_47:(List Ac)) (x_48:Int) (x_49:(List (Ac×Bool))) (x_50:(List Ac)) (x_51:(List Ac)) (x_52:(List (Ac×Bool))) (x_53:(List Ac)) (x_54:(List Ac))
noncomputable def Jbl:St:=⟨(0,.yld 0)::(1,.ptr 1 0)::(2,.ptr 2 0)::[],[some (.lp Al [2,9] [.ptr 3 0,.ptr 4 0] 0),some (.box [.ptr 5 0]),some (.box [.d (.int .i64 b2_.At),.d (.int .i64 b2_.State)]),some (.box [.ptr 5 0]),some (.box [.clo 86 [.ptr 6 0,.ptr 7 0,.ptr 8 0]]),some (.box [.ptr 9 0,.d (.sl (b5_1_.map eU8)),.mp 10]),some (.box [.mp 11]),some (.box [.osl 12 3 0 (o12_.length)]),some (.box [.osl 13 3 0 (o13_.length)]),some (.box (Ai b9_ (.osl 14 1 0 (b9_.Accepts.length)))),some (.map true false (AF Aq eB o10_)),some (.map true false (AF Ag eB o11_)),some (.arr 3 (o12_.map Ag)),some (.arr 3 (o13_.map Ag)),some (.arr 1 (b9_.Accepts.map eB))]⟩
noncomputable def Q3:St:=⟨[],[some (.lp Al [2,9] [.ptr 3 0,.ptr 4 0] 0),some (.box [.ptr 5 0]),some (.box [.d (.int .i64 b2_.At),.d (.int .i64 b2_.State)]),some (.box [.ptr 5 0]),some (.box [.clo 86 [.ptr 6 0,.ptr 7 0,.ptr 8 0]]),some (.box [.ptr 9 0,.d (.sl (b5_1_.map eU8)),.mp 10]),some (.box [.mp 11]),some (.box [.osl 15 3 0 (x_43.length)]),some (.box [.osl 16 3 0 (x_44.length)]),some (.box (Ai b9_ (.osl 17 1 0 (b9_.Accepts.length)))),some (.map true false (AF Aq eB o10_)),some (.map true false (AF Ag eB x_42)),none,none,none,some (.arr 3 (x_43.map Ag)),some (.arr 3 (x_44.map Ag)),some (.arr 1 (b9_.Accepts.map eB))]⟩
noncomputable def Jbm:St:=⟨(0,.yld 0)::(1,.ptr 1 0)::(2,.ptr 2 0)::(16,.d (.sl (x45.map BO)))::(17,.d (.int .i64 ((x45.length:Nat):Int)))::(18,.d (.int .i64 x_48))::[],[some (.lp Al [2,9] [.ptr 3 0,.ptr 4 0] 0),some (.box [.ptr 5 0]),some (.box [.d (.int .i64 b2_.At),.d (.int .i64 b2_.State)]),some (.box [.ptr 5 0]),some (.box [.clo 86 [.ptr 6 0,.ptr 7 0,.ptr 8 0]]),some (.box [.ptr 9 0,.d (.sl (b5_1_.map eU8)),.mp 10]),some (.box [.mp 11]),some (.box [.osl 15 3 0 (x_46.length)]),some (.box [.osl 16 3 0 (x_47.length)]),some (.box (Ai b9_ (.osl 17 1 0 (b9_.Accepts.length)))),some (.map true false (AF Aq eB o10_)),some (.map true false (AF Ag eB x_45)),none,none,none,some (.arr 3 (x_46.map Ag)),some (.arr 3 (x_47.map Ag)),some (.arr 1 (b9_.Accepts.map eB))]⟩
noncomputable def Jbn:St:=⟨[],[some (.lp Al [2,9] [.ptr 3 0,.ptr 4 0] 0),some (.box [.ptr 5 0]),some (.box [.d (.int .i64 b2_.At),.d (.int .i64 b2_.State)]),some (.box [.ptr 5 0]),some (.box [.clo 86 [.ptr 6 0,.ptr 7 0,.ptr 8 0]]),some (.box [.ptr 9 0,.d (.sl (b5_1_.map eU8)),.mp 10]),some (.box [.mp 11]),some (.box [.osl 15 3 0 (x_50.length)]),some (.box [.osl 16 3 0 (x_51.length)]),some (.box (Ai b9_ (.osl 17 1 0 (b9_.Accepts.length)))),some (.map true false (AF Aq eB o10_)),some (.map true false (AF Ag eB x_49)),none,none,none,some (.arr 3 (x_50.map Ag)),some (.arr 3 (x_51.map Ag)),some (.arr 1 (b9_.Accepts.map eB))]⟩
noncomputable def Jbo:St:=⟨(0,.yld 0)::(1,.ptr 1 0)::(2,.ptr 2 0)::(16,.d (.sl (x45.map BO)))::(17,.d (.int .i64 ((x45.length:Nat):Int)))::(18,.d (.int .i64 x_48))::[],[some (.lp Al [2,9] [.ptr 3 0,.ptr 4 0] 0),some (.box [.ptr 5 0]),some (.box [.d (.int .i64 b2_.At),.d (.int .i64 b2_.State)]),some (.box [.ptr 5 0]),some (.box [.clo 86 [.ptr 6 0,.ptr 7 0,.ptr 8 0]]),some (.box [.ptr 9 0,.d (.sl (b5_1_.map eU8)),.mp 10]),some (.box [.mp 11]),some (.box [.osl 15 3 0 (x_53.length)]),some (.box [.osl 16 3 0 (x_54.length)]),some (.box (Ai b9_ (.osl 17 1 0 (b9_.Accepts.length)))),some (.map true false (AF Aq eB o10_)),some (.map true false (AF Ag eB x_52)),none,none,none,some (.arr 3 (x_53.map Ag)),some (.arr 3 (x_54.map Ag)),some (.arr 1 (b9_.Accepts.map eB))]⟩
noncomputable def IG:(((List (Ac×Bool))×(List Ac)×(List Ac))⊕((List (Ac×Bool))×(List Ac)×(List Ac)))->Ex->St->Prop:=xS (xX 15 0 (λ (y:((List (Ac×Bool))×(List Ac)×(List Ac)))=>Jbn b2_ b5_1_ b9_ o10_ y.1 y.2.1 y.2.2)) (xL 15 ty Try.f85 (λ (y:((List (Ac×Bool))×(List Ac)×(List Ac)))=>.tup []) (λ (y:((List (Ac×Bool))×(List Ac)×(List Ac)))=>[some (.lp Al [2,9] [.ptr 3 0,.ptr 4 0] 0),some (.box [.ptr 5 0]),some (.box [.d (.int .i64 b2_.At),.d (.int .i64 b2_.State)]),some (.box [.ptr 5 0]),some (.box [.clo 86 [.ptr 6 0,.ptr 7 0,.ptr 8 0]]),some (.box [.ptr 9 0,.d (.sl (b5_1_.map eU8)),.mp 10]),some (.box [.mp 11]),some (.box [.osl 15 3 0 (y.2.1.length)]),some (.box [.osl 16 3 0 (y.2.2.length)]),some (.box (Ai b9_ (.osl 17 1 0 (b9_.Accepts.length)))),some (.map true false (AF Aq eB o10_)),some (.map true false (AF Ag eB y.1)),none,none,none,some (.arr 3 (y.2.1.map Ag)),some (.arr 3 (y.2.2.map Ag)),some (.arr 1 (b9_.Accepts.map eB))]))
noncomputable def EU:((List (Ac×Bool))×(List Ac)×(List Ac)×Int)->St:=(λ (x:((List (Ac×Bool))×(List Ac)×(List Ac)×Int))=>Jbm b2_ b5_1_ b9_ o10_ x45 x.1 x.2.1 x.2.2.1 x.2.2.2)
variable {b2_ b5_1_ b9_ o10_ o11_ o12_ o13_ x_42 x_43 x_44 x45 x_45 x_46 x_47 x_48 x_49 x_50 x_51 x_52 x_53 x_54}
theorem Ez (x:((List (Ac×Bool))×(List Ac)×(List Ac)×Int)) (z:(((List (Ac×Bool))×(List Ac)×(List Ac)×Int)⊕(((List (Ac×Bool))×(List Ac)×(List Ac))⊕((List (Ac×Bool))×(List Ac)×(List Ac))))) (H:Bl n b2_ b5_1_ b9_ o10_ x45 x.1 x.2.1 x.2.2.1 x.2.2.2=some z):WP (cxk 53 15) (Az Try.f85) [1,0,0] (AE 15 (EU b2_ b5_1_ b9_ o10_ x45) (IG b2_ b5_1_ b9_ o10_) z) (EU b2_ b5_1_ b9_ o10_ x45 x):=by
 obtain ⟨x_45,x_46,x_47,x_48⟩:=x
 refine sr (ck 1 (en (sq (cn H (λ H=>?_) (λ H=>?_)))))
 ·refine sk (qz (sj (λ (x:((List (Ac×Bool))×(List Ac)×(List Ac)))=>Jbo b2_ b5_1_ b9_ o10_ x45 x_48 x.1 x.2.1 x.2.2) (λ (x:((List (Ac×Bool))×(List Ac)×(List Ac)))=>BA n x_48 x.1 x.2.1 x.2.2) z ?_ (λ hFRb_reading_fits_1x_J1=>?_)))
  ·rintro ⟨x_52,x_53,x_54⟩ H
   exact rz (ck 2 (ae (by cases H;exact og (sg [0,1,2,16,17,18]))))
  refine bk 1 (sr (bx H λ x46 h143 H=>sp (AH BO h143) (ck 3 (en (sq (rx 9 27 (.refl _) (ck 8 (bx H λ l25 h144 H=>sp (TL eU8 1 h144) (bx H λ r38 h145 H=>xs (xok _ _) (g:=true) rfl (EO) [] ((IF h145).lent rfl) rfl (ck 2 (sp (AA eU8 x46.Cells) (ck 4 (gc 1 (r38==((x46.Cells.length:Nat):Int)) (ck 1 (gc 1 (r38==((x46.Cells.length:Nat):Int)) (ck 1 (gc 1 (r38==((x46.Cells.length:Nat):Int)) (sE (g:=(r38==((x46.Cells.length:Nat):Int))) (λ hg=>AA eU8 x46.Cells) (gc 1 (r38==((x46.Cells.length:Nat):Int)) (ck 1 (gc 2 (r38==((x46.Cells.length:Nat):Int)) (mx (gsp (r38==((x46.Cells.length:Nat):Int)) H (λ hg H=>?_) (λ hg H=>?_))))))))))))))))))))))))
  ·refine bx H λ r39 h146 H=>xy (xok _ _) hg (CF (λ hh=>hh) (CF (λ hh=>hh) (CF (λ hh=>hh) (EO)))) [0,3,4,5,6,7,8,9,10,11,15,16,17] (Jg h146) rfl (nx 30 29 (gc 1 (r38==((x46.Cells.length:Nat):Int)) (mx (pA (nz (qz (cn H (λ H=>?_) (λ H=>?_))))))))
   ·exact re (qR (qr (by cases H;exact lo rfl (rl (s':=Q3 b2_ b5_1_ b9_ o10_ r39.1 r39.2.1 r39.2.2) (sg [])))))
   ·exact sk (qN (qs (sg [0,1,2,16,17,18]) (hFRb_reading_fits_1x_J1 (r39.1,r39.2.1,r39.2.2) H)))
  ·refine gsk hg (.d (.bool false)) (nx 30 29 (gc 1 (r38==((x46.Cells.length:Nat):Int)) (mx (pA (nz (qz (cn H (λ H=>?_) (λ H=>?_))))))))
   ·exact re (qR (qr (by cases H;exact lo rfl (rl (s':=Q3 b2_ b5_1_ b9_ o10_ x_45 x_46 x_47) (sg [])))))
   ·exact sk (qN (qs (sg [0,1,2,16,17,18]) (hFRb_reading_fits_1x_J1 (x_45,x_46,x_47) H)))
 ·exact ex 0 (qx (by cases H;exact xo rfl (sg [])))
theorem FL {z} (H:BJ n b2_ b5_1_ b9_ o10_ o11_ o12_ o13_=some z):BZ Try.prog 85 [.yld 0,.ptr 1 0,.ptr 2 0] [some (.lp Al [2,9] [.ptr 3 0,.ptr 4 0] 0),some (.box [.ptr 5 0]),some (.box [.d (.int .i64 b2_.At),.d (.int .i64 b2_.State)]),some (.box [.ptr 5 0]),some (.box [.clo 86 [.ptr 6 0,.ptr 7 0,.ptr 8 0]]),some (.box [.ptr 9 0,.d (.sl (b5_1_.map eU8)),.mp 10]),some (.box [.mp 11]),some (.box [.osl 12 3 0 (o12_.length)]),some (.box [.osl 13 3 0 (o13_.length)]),some (.box (Ai b9_ (.osl 14 1 0 (b9_.Accepts.length)))),some (.map true false (AF Aq eB o10_)),some (.map true false (AF Ag eB o11_)),some (.arr 3 (o12_.map Ag)),some (.arr 3 (o13_.map Ag)),some (.arr 1 (b9_.Accepts.map eB))] 15 (.tup []) [some (.lp Al [2,9] [.ptr 3 0,.ptr 4 0] 0),some (.box [.ptr 5 0]),some (.box [.d (.int .i64 b2_.At),.d (.int .i64 b2_.State)]),some (.box [.ptr 5 0]),some (.box [.clo 86 [.ptr 6 0,.ptr 7 0,.ptr 8 0]]),some (.box [.ptr 9 0,.d (.sl (b5_1_.map eU8)),.mp 10]),some (.box [.mp 11]),some (.box [.osl 15 3 0 (z.2.1.length)]),some (.box [.osl 16 3 0 (z.2.2.length)]),some (.box (Ai b9_ (.osl 17 1 0 (b9_.Accepts.length)))),some (.map true false (AF Aq eB o10_)),some (.map true false (AF Ag eB z.1)),none,none,none,some (.arr 3 (z.2.1.map Ag)),some (.arr 3 (z.2.2.map Ag)),some (.arr 1 (b9_.Accepts.map eB))]:=by
 refine fL 53 15 (Jbl b2_ b5_1_ b9_ o10_ o11_ o12_ o13_) Try.func85 (sr (ck 9 (bx H λ x45 h142 H=>sp (AH (eL BO) h142) (ck 1 (sp (AA BO x45) (ck 1 (en (bk 0 (bx H λ y42 h147 H=>?_)))))))))
 rcases y42 with y43|y44
 ·exact lX Ez h147 (tr (tr (tr (BP (k:=12) (sz:=3) 7 0 (o12_.map Ag) (o12_.length) (by kernel_rfl) Bk leM rfl) (BP (k:=13) (sz:=3) 8 0 (o13_.map Ag) (o13_.length) (by kernel_rfl) Bk leM rfl)) (BP (k:=14) (sz:=1) 9 1 (b9_.Accepts.map eB) (b9_.Accepts.length) (by kernel_rfl) Bk leM rfl)) (sg [0,1,2,16,17,18])) rfl λ s hE35=>qH (by cases H;exact pL' (rl (s':=Q3 b2_ b5_1_ b9_ o10_ y43.1 y43.2.1 y43.2.2) (tr (hE35) (sg []))))
 ·exact lL Ez h147 (tr (tr (tr (BP (k:=12) (sz:=3) 7 0 (o12_.map Ag) (o12_.length) (by kernel_rfl) Bk leM rfl) (BP (k:=13) (sz:=3) 8 0 (o13_.map Ag) (o13_.length) (by kernel_rfl) Bk leM rfl)) (BP (k:=14) (sz:=1) 9 1 (b9_.Accepts.map eB) (b9_.Accepts.length) (by kernel_rfl) Bk leM rfl)) (sg [0,1,2,16,17,18])) rfl λ s hE36=>qR (by cases H;exact pL hE36)
end
section
variable (o0_:(List Ac)) (x_55:(List Ac))
def Jbp:St:=⟨(0,.osl 0 3 0 (o0_.length))::[],[some (.arr 3 (o0_.map Ag))]⟩
def Jbq:St:=⟨(2,.osl 1 3 0 (x_55.length))::[],[none,some (.arr 3 (x_55.map Ag))]⟩
variable {o0_ x_55}
theorem O8 {z} (H:I9 n o0_=some z):BZ Try.prog 87 [.osl 0 3 0 (o0_.length)] [some (.arr 3 (o0_.map Ag))] 1 (.osl 1 3 0 (z.length)) [none,some (.arr 3 (z.map Ag))]:=by
 exact fL 9 1 (Jbp o0_) Try.func87 (sr (ck 1 (en (sr (ck 5 (bx H λ l26 h148 H=>sp (Jdx 0 3 h148) (ck 1 (en (re (by cases H;exact pL (rl (s':=Jbq z) (tr (Oc (k:=0) (sz:=3) 2 (z.map Ag) (z.length) (by kernel_rfl) (Hi h148) (JN (enc:=Ag) h148) (Hj h148)) (sg [2])))))))))))))
end
section
variable (p1_:(List Ac)) (b0_1_:(List Int)) (b1_:Ao) (o2_:(List (Ae×Bool))) (x_56:(List Ac)) (x_57:Bool) (open_8:(List Ac)) (found_1:(List Ac)) (add_13:(List (Ac×Bool))) (x_58:Int) (open_9:(List Ac)) (found_2:(List Ac)) (add_14:(List (Ac×Bool))) (open_10:(List Ac)) (found_3:(List Ac)) (add_15:(List (Ac×Bool))) (open_11:(List Ac)) (found_4:(List Ac)) (add_16:(List (Ac×Bool))) (ends_1:Bool) (found_5:(List Ac)) (ends_2:Bool) (x48:Ac) (l27:(List Ac)) (ends_3:Bool)
def Jbr:St:=⟨(0,.ptr 0 0)::(1,.d (.sl (p1_.map Ag)))::[],[some (.box [.ptr 1 0,.d (.sl (b0_1_.map eU8)),.mp 2]),some (.box (Ai b1_ (.osl 3 1 0 (b1_.Accepts.length)))),some (.map true false (AF Aq eB o2_)),some (.arr 1 (b1_.Accepts.map eB))]⟩
def Jbs:St:=⟨(4,.d (.sl (x_56.map Ag)))::(5,.d (.bool x_57))::[],[some (.box [.ptr 1 0,.d (.sl (b0_1_.map eU8)),.mp 2]),some (.box (Ai b1_ (.osl 4 1 0 (b1_.Accepts.length)))),some (.map true false (AF Aq eB o2_)),none,some (.arr 1 (b1_.Accepts.map eB))]⟩
def Jbt:St:=⟨(2,.ptr 4 0)::(7,.ptr 5 0)::(8,.ptr 6 0)::(9,.ptr 7 0)::(10,.d (.bool false))::(18,.d (.sl (p1_.map Ag)))::(19,.d (.int .i64 ((p1_.length:Nat):Int)))::(20,.d (.int .i64 x_58))::[],[some (.box [.ptr 1 0,.d (.sl (b0_1_.map eU8)),.mp 2]),some (.box (Ai b1_ (.osl 3 1 0 (b1_.Accepts.length)))),some (.map true false (AF Aq eB o2_)),some (.arr 1 (b1_.Accepts.map eB)),some (.box [.ptr 0 0]),some (.box [.osl 8 3 0 (open_8.length)]),some (.box [.osl 9 3 0 (found_1.length)]),some (.box [.clo 86 [.ptr 10 0,.ptr 5 0,.ptr 6 0]]),some (.arr 3 (open_8.map Ag)),some (.arr 3 (found_1.map Ag)),some (.box [.mp 11]),some (.map true false (AF Ag eB add_13))]⟩
def Jbu:St:=⟨(2,.ptr 4 0)::(7,.ptr 5 0)::(8,.ptr 6 0)::(9,.ptr 7 0)::(10,.d (.bool false))::[],[some (.box [.ptr 1 0,.d (.sl (b0_1_.map eU8)),.mp 2]),some (.box (Ai b1_ (.osl 3 1 0 (b1_.Accepts.length)))),some (.map true false (AF Aq eB o2_)),some (.arr 1 (b1_.Accepts.map eB)),some (.box [.ptr 0 0]),some (.box [.osl 8 3 0 (open_9.length)]),some (.box [.osl 9 3 0 (found_2.length)]),some (.box [.clo 86 [.ptr 10 0,.ptr 5 0,.ptr 6 0]]),some (.arr 3 (open_9.map Ag)),some (.arr 3 (found_2.map Ag)),some (.box [.mp 11]),some (.map true false (AF Ag eB add_14))]⟩
def Jbv:St:=⟨(2,.ptr 4 0)::(7,.ptr 5 0)::(8,.ptr 6 0)::(9,.ptr 7 0)::(10,.d (.bool false))::(18,.d (.sl (p1_.map Ag)))::(19,.d (.int .i64 ((p1_.length:Nat):Int)))::(20,.d (.int .i64 x_58))::[],[some (.box [.ptr 1 0,.d (.sl (b0_1_.map eU8)),.mp 2]),some (.box (Ai b1_ (.osl 3 1 0 (b1_.Accepts.length)))),some (.map true false (AF Aq eB o2_)),some (.arr 1 (b1_.Accepts.map eB)),some (.box [.ptr 0 0]),some (.box [.osl 8 3 0 (open_10.length)]),some (.box [.osl 9 3 0 (found_3.length)]),some (.box [.clo 86 [.ptr 10 0,.ptr 5 0,.ptr 6 0]]),some (.arr 3 (open_10.map Ag)),some (.arr 3 (found_3.map Ag)),some (.box [.mp 11]),some (.map true false (AF Ag eB add_15))]⟩
def Jh:((List Ac)×(List Ac)×(List (Ac×Bool)))->Ex->St->Prop:=xX 4 0 (λ (y:((List Ac)×(List Ac)×(List (Ac×Bool))))=>Jbu b0_1_ b1_ o2_ y.1 y.2.1 y.2.2)
def Fv:((List Ac)×(List Ac)×(List (Ac×Bool))×Int)->St:=(λ (x:((List Ac)×(List Ac)×(List (Ac×Bool))×Int))=>Jbt p1_ b0_1_ b1_ o2_ x.1 x.2.1 x.2.2.1 x.2.2.2)
def Jbw:St:=⟨(2,.ptr 4 0)::(7,.ptr 5 0)::(8,.ptr 6 0)::(9,.ptr 7 0)::(10,.d (.bool ends_1))::[],[some (.box [.ptr 1 0,.d (.sl (b0_1_.map eU8)),.mp 2]),some (.box (Ai b1_ (.osl 8 1 0 (b1_.Accepts.length)))),some (.map true false (AF Aq eB o2_)),none,some (.box [.ptr 0 0]),some (.box [.osl 9 3 0 (open_11.length)]),some (.box [.osl 10 3 0 (found_4.length)]),some (.box [.clo 86 [.ptr 11 0,.ptr 5 0,.ptr 6 0]]),some (.arr 1 (b1_.Accepts.map eB)),some (.arr 3 (open_11.map Ag)),some (.arr 3 (found_4.map Ag)),some (.box [.mp 12]),some (.map true false (AF Ag eB add_16))]⟩
def Jbx:St:=⟨(8,.ptr 4 0)::(10,.d (.bool ends_2))::[],[some (.box [.ptr 1 0,.d (.sl (b0_1_.map eU8)),.mp 2]),some (.box (Ai b1_ (.osl 5 1 0 (b1_.Accepts.length)))),some (.map true false (AF Aq eB o2_)),none,some (.box [.osl 6 3 0 (found_5.length)]),some (.arr 1 (b1_.Accepts.map eB)),some (.arr 3 (found_5.map Ag))]⟩
def Jby:St:=⟨(2,.ptr 4 0)::(7,.ptr 5 0)::(8,.ptr 6 0)::(9,.ptr 7 0)::(10,.d (.bool ends_3))::(13,.ptr 8 0)::[],[some (.box [.ptr 1 0,.d (.sl (b0_1_.map eU8)),.mp 2]),some (.box (Ai b1_ (.osl 9 1 0 (b1_.Accepts.length)))),some (.map true false (AF Aq eB o2_)),none,some (.box [.ptr 0 0]),some (.box [.osl 10 3 0 (l27.length)]),some (.box [.osl 11 3 0 (found_4.length)]),some (.box [.clo 86 [.ptr 12 0,.ptr 5 0,.ptr 6 0]]),some (.box (JaI x48)),some (.arr 1 (b1_.Accepts.map eB)),some (.arr 3 (l27.map Ag)),some (.arr 3 (found_4.map Ag)),some (.box [.mp 13]),some (.map true false (AF Ag eB add_16))]⟩
def Ji:((List Ac)×Bool)->Ex->St->Prop:=xX 4 2 (λ (y:((List Ac)×Bool))=>Jbx b0_1_ b1_ o2_ y.1 y.2)
def Fw:((List Ac)×(List Ac)×(List (Ac×Bool))×Bool)->St:=(λ (x:((List Ac)×(List Ac)×(List (Ac×Bool))×Bool))=>Jbw b0_1_ b1_ o2_ x.1 x.2.1 x.2.2.1 x.2.2.2)
variable {p1_ b0_1_ b1_ o2_ x_56 x_57 open_8 found_1 add_13 x_58 open_9 found_2 add_14 open_10 found_3 add_15 open_11 found_4 add_16 ends_1 found_5 ends_2 x48 l27 ends_3}
theorem IH (x:((List Ac)×(List Ac)×(List (Ac×Bool))×Int)) (z:(((List Ac)×(List Ac)×(List (Ac×Bool))×Int)⊕((List Ac)×(List Ac)×(List (Ac×Bool))))) (H:CS n p1_ b0_1_ b1_ o2_ x.1 x.2.1 x.2.2.1 x.2.2.2=some z):WP (cxk 92 4) (Az Try.f75) [1,1,1,1,1,0,1,0,0] (AE 4 (Fv p1_ b0_1_ b1_ o2_) (Jh b0_1_ b1_ o2_) z) (Fv p1_ b0_1_ b1_ o2_ x):=by
 obtain ⟨open_8,found_1,add_13,x_58⟩:=x
 refine sr (ck 1 (en (sq (cn H (λ H=>?_) (λ H=>?_)))))
 ·refine sk (qz (sj (λ (x:((List Ac)×(List Ac)×(List (Ac×Bool))))=>Jbv p1_ b0_1_ b1_ o2_ x_58 x.1 x.2.1 x.2.2) (λ (x:((List Ac)×(List Ac)×(List (Ac×Bool))))=>Cg n x_58 x.1 x.2.1 x.2.2) z ?_ (λ hFRb_reading_spread_J1=>?_)))
  ·rintro ⟨open_10,found_3,add_15⟩ H
   exact rz (ck 2 (ae (by cases H;exact og (sg [2,7,8,9,10,18,19,20]))))
  refine bk 1 (sr (bx H λ x47 h149 H=>sp (AH Ag h149) (ck 3 (en (sr (ck 6 (sp (FD (enc:=eB) (encK:=Aq) (k:=2) (e1:=λ x=>.bool x) (m:=o2_) (l:=[.d (.int .i64 x47.Spot.At),.d (.int .i64 x47.Spot.State)]) (key:=x47.Spot) (z:=false) (vz:=[.bool false]) K4 false) (en (cn H (λ H=>?_) (λ H=>?_))))))))))
  ·exact rz (ck 2 (bx H λ r40 h150 H=>xc (xok _ _) [10,5,6,11,8,9] (Dm h150) (ae (qN (qs (sg [2,7,8,9,10,18,19,20]) (hFRb_reading_spread_J1 (r40.2.1,r40.2.2,r40.1) H))))))
  ·exact sk (qN (qs (sg [2,7,8,9,10,18,19,20]) (hFRb_reading_spread_J1 (open_8,found_1,add_13) H)))
 ·exact ex 0 (qx (by cases H;exact xo rfl (sg [2,7,8,9,10])))
theorem II (x:((List Ac)×(List Ac)×(List (Ac×Bool))×Bool)) (z:(((List Ac)×(List Ac)×(List (Ac×Bool))×Bool)⊕((List Ac)×Bool))) (H:CT n b0_1_ b1_ o2_ x.1 x.2.1 x.2.2.1 x.2.2.2=some z):WP (cxk 92 4) (Az Try.f75) [1,1,1,1,1,1,0,0,0] (AE 4 (Fw b0_1_ b1_ o2_) (Ji b0_1_ b1_ o2_) z) (Fw b0_1_ b1_ o2_ x):=by
 obtain ⟨open_11,found_4,add_16,ends_1⟩:=x
 refine sq (sr (ck 3 (en (cn H (λ H=>?_) (λ H=>?_)))))
 ·refine sk (qz (bk 3 (sr (ck 4 (bx H λ x48 h152 H=>sp (A3 9 3 h152) (sp (CN Ag 9 0 (ty 128) h152) (ck 2 (en (sr (ck 4 (bx H λ l27 h153 H=>sp (JO 9 3 h153) (ck 1 (en (sj (λ (x:Bool)=>Jby b0_1_ b1_ o2_ found_4 add_16 x48 l27 x) (λ (x:Bool)=>Ch n b0_1_ b1_ o2_ found_4 add_16 x48 l27 x) z ?_ (λ hFRb_reading_spread_J2=>?_)))))))))))))))
  ·intro ends_3 H
   refine sr (ck 3 (bx H λ r41 h154 H=>lt [0,1,2,9] (EJ h154) (en (bk 4 (bx H λ r42 h155 H=>rf [] [2,9] [16,14,15,4,7,0,12,5,6,1,2,13,10,11,9] 0 (FL h155) rfl (jn H (λ H=>?_) (λ H=>?_)))))))
   ·exact qN (qN (by cases H;exact og (sg [2,7,8,9,10])))
   ·cases H
  refine sq (rg (BP (k:=9) (sz:=3) 5 0 (l27.map Ag) (l27.length) (by kernel_rfl) (Hi h153) (JN (enc:=Ag) h153) (Hj h153)) (ck 7 (sp (AA eU8 b0_1_) (ck 3 (gc 6 (x48.Spot.At==((b0_1_.length:Nat):Int)) (ck 1 (gc 2 (x48.Spot.At==((b0_1_.length:Nat):Int)) (bx H λ x49 h156 H=>sE (λ hg=>A3 8 1 (Dj h156 hg)) (sE (g:=(x48.Spot.At==((b0_1_.length:Nat):Int))) (λ hg=>CN eB 8 0 (ty 4) (Dj h156 hg)) (pA (en (cn H (λ H=>?_) (λ H=>?_)))))))))))))
  ·exact rz (ck 1 (ae (qs (sg [2,7,8,9,10,13]) (hFRb_reading_spread_J2 true H))))
  ·exact sk (qs (sg [2,7,8,9,10,13]) (hFRb_reading_spread_J2 ends_1 H))
 ·exact ex 2 (qx (by cases H;exact xo rfl (sg [8,10])))
theorem FW {z} (H:BT n p1_ b0_1_ b1_ o2_=some z):BZ Try.prog 75 [.ptr 0 0,.d (.sl (p1_.map Ag))] [some (.box [.ptr 1 0,.d (.sl (b0_1_.map eU8)),.mp 2]),some (.box (Ai b1_ (.osl 3 1 0 (b1_.Accepts.length)))),some (.map true false (AF Aq eB o2_)),some (.arr 1 (b1_.Accepts.map eB))] 4 (.tup [.d (.sl (z.1.map Ag)),.d (.bool z.2)]) [some (.box [.ptr 1 0,.d (.sl (b0_1_.map eU8)),.mp 2]),some (.box (Ai b1_ (.osl 4 1 0 (b1_.Accepts.length)))),some (.map true false (AF Aq eB o2_)),none,some (.arr 1 (b1_.Accepts.map eB))]:=by
 exact fL 92 4 (Jbr p1_ b0_1_ b1_ o2_) Try.func75 (sr (ck 3 (en (sr (ck 3 (en (sr (ck 2 (en (sr (xm (xok _ _) (ck 2 (en (sr (ck 1 (en (sq (sr (ck 1 (sp (AA Ag p1_) (ck 1 (en (bk 0 (bx H λ y45 h151 H=>lX IH h151 (tr (tr (Co 7 0 3 (by kernel_rfl)) (Co 8 0 3 (by kernel_rfl))) (sg [2,7,8,9,10,18,19,20])) rfl λ s hE37=>qH (qs (hE37) (sq (bk 2 (bx H λ y46 h157 H=>lX II h157 (tr (BP (k:=3) (sz:=1) 1 1 (b1_.Accepts.map eB) (b1_.Accepts.length) (by kernel_rfl) Bk leM rfl) (sg [2,7,8,9,10])) rfl λ s hE38=>qH (qs (hE38) (sr (ck 1 (bx H λ r43 h158 H=>lt [6] (O8 h158) (ck 3 (en (re (by cases H;exact pL (rl (s':=Jbs b0_1_ b1_ o2_ r43 y46.2) (tr (fz (enc:=Ag) (xs:=r43) 4 7 3) (sg [4,5])))))))))))))))))))))))))))))))))))))))
end
noncomputable def Jbz (p1_:(List UInt8)) (b1_0_:(List Int)) (b2_0_:(List UInt8)) (b3_0_:Int) (b4_0_:Int):St:=⟨(21,.d (.str p1_))::(3,.ptr 1 0)::(4,.ptr 2 0)::(5,.ptr 3 0)::(6,.ptr 4 0)::[],[some (.lp A2 [3,4,5,6] [.ptr 1 0,.ptr 2 0,.ptr 3 0,.ptr 4 0] 0),some (.box [.d (.sl (b1_0_.map eU8))]),some (.box [.d (.str b2_0_)]),some (.box [.d (.int .i64 b3_0_)]),some (.box [.d (.int .i64 b4_0_)])]⟩
noncomputable def JbA (p1_:(List UInt8)) (b1_0_:(List Int)):St:=⟨[],[some (.lp A2 [3,4,5,6] [.ptr 1 0,.ptr 2 0,.ptr 3 0,.ptr 4 0] 1),some (.box [.d (.sl (b1_0_.map eU8))]),some (.box [.d (.str p1_)]),some (.box [.d (.int .i64 ((b1_0_.length:Nat):Int))]),some (.box [.d (.int .i64 0)])]⟩
section
variable (p1_:(List UInt8)) (b1_0_:(List Int)) (b2_0_:(List UInt8)) (b3_0_:Int) (b4_0_:Int)
variable {p1_ b1_0_ b2_0_ b3_0_ b4_0_}
theorem Mf {z} (H:HK n p1_ b1_0_ b2_0_ b3_0_ b4_0_=some z):O5 Try.prog [.d (.str p1_)] [some (.lp A2 [3,4,5,6] [.ptr 1 0,.ptr 2 0,.ptr 3 0,.ptr 4 0] 0),some (.box [.d (.sl (b1_0_.map eU8))]),some (.box [.d (.str b2_0_)]),some (.box [.d (.int .i64 b3_0_)]),some (.box [.d (.int .i64 b4_0_)])] 5 2 [some (.lp A2 [3,4,5,6] [.ptr 1 0,.ptr 2 0,.ptr 3 0,.ptr 4 0] 2),some (.box [.d (.sl (b1_0_.map eU8))]),some (.box [.d (.str p1_)]),some (.box [.d (.int .i64 ((b1_0_.length:Nat):Int))]),some (.box [.d (.int .i64 0)])]:=by
 exact fk (C:=Az Try.f41) (p:=[1,1,1,0,1,0]) 27 [21] [.ret] (ts:=[3,4,5,6]) (vs:=[.ptr 1 0,.ptr 2 0,.ptr 3 0,.ptr 4 0]) (Jbz p1_ b1_0_ b2_0_ b3_0_ b4_0_) follows (XE 27 5) (rz (ck 1 (ae (aq (js:=[.ret]) (bk 1 (sr (ck 2 (sp (AA eU8 b1_0_) (ck 3 (en (re (qR (by cases H;exact rq (s':=JbA p1_ b1_0_) (sg []))))))))))))))
end
section
variable (p0_:Int) (p1_:Int) (o0_:(List AW)) (x_59:(List Ac)) (x50:AW) (l_4:(List Ac)) (x_60:Int) (l_5:(List Ac)) (l_6:(List Ac))
def JbB:St:=⟨(0,.eptr 0 2 (0+Int.toNat p0_) 0)::(1,.d (.int .u8 p1_))::[],[some (.arr 2 (o0_.map A8))]⟩
def JbC:St:=⟨(4,.osl 1 3 0 (x_59.length))::[],[some (.arr 2 (o0_.map A8)),some (.arr 3 (x_59.map Ag))]⟩
def JbD:St:=⟨(1,.d (.int .u8 p1_))::(5,.osl 1 3 0 (l_4.length))::(11,.d (.sl (x50.Heads.map Ag)))::(12,.d (.int .i64 ((x50.Heads.length:Nat):Int)))::(13,.d (.int .i64 x_60))::[],[some (.arr 2 (o0_.map A8)),some (.arr 3 (l_4.map Ag))]⟩
def JbE:St:=⟨(5,.osl 1 3 0 (l_5.length))::[],[some (.arr 2 (o0_.map A8)),some (.arr 3 (l_5.map Ag))]⟩
def JbF:St:=⟨(1,.d (.int .u8 p1_))::(5,.osl 1 3 0 (l_6.length))::(11,.d (.sl (x50.Heads.map Ag)))::(12,.d (.int .i64 ((x50.Heads.length:Nat):Int)))::(13,.d (.int .i64 x_60))::[],[some (.arr 2 (o0_.map A8)),some (.arr 3 (l_6.map Ag))]⟩
def Jj:(List Ac)->Ex->St->Prop:=xX 1 0 (λ (y:(List Ac))=>JbE o0_ y)
def Fx:((List Ac)×Int)->St:=(λ (x:((List Ac)×Int))=>JbD p1_ o0_ x50 x.1 x.2)
variable {p0_ p1_ o0_ x_59 x50 l_4 x_60 l_5 l_6}
theorem IJ (x:((List Ac)×Int)) (z:(((List Ac)×Int)⊕(List Ac))) (H:Br n p1_ o0_ x50 x.1 x.2=some z):WP (cxk 33 1) (Az Try.f77) [1,1,0,1,0,0] (AE 1 (Fx p1_ o0_ x50) (Jj o0_) z) (Fx p1_ o0_ x50 x):=by
 obtain ⟨l_4,x_60⟩:=x
 refine sr (ck 1 (en (sq (cn H (λ H=>?_) (λ H=>?_)))))
 ·refine sk (qz (sj (λ (x:(List Ac))=>JbF p1_ o0_ x50 x_60 x) (λ (x:(List Ac))=>Ci n x_60 x) z ?_ (λ hFRb_branch_behindx_J1=>?_)))
  ·intro l_6 H
   exact rz (ck 2 (ae (by cases H;exact og (sg [1,5,11,12,13]))))
  refine bk 1 (sr (bx H λ x51 h160 H=>sp (AH Ag h160) (ck 3 (en (sr (ck 2 (bx H λ b7 h161 H=>sp (Gn h161) (ck 2 (en (cn H (λ H=>?_) (λ H=>?_)))))))))))
  ·exact rz (ck 5 (bx H λ s2 h162 H=>sp (XA h162) (ck 2 (bx H λ l28 h163 H=>sp (Bd Ag 1 3 h163) (ck 1 (ae (qN (qs (sg [1,5,11,12,13]) (hFRb_branch_behindx_J1 l28 H)))))))))
  ·exact sk (qN (qs (sg [1,5,11,12,13]) (hFRb_branch_behindx_J1 l_4 H)))
 ·exact ex 0 (qx (by cases H;exact xo rfl (sg [5])))
theorem FX {z} (H:BU n p0_ p1_ o0_=some z):BZ Try.prog 77 [.eptr 0 2 (0+Int.toNat p0_) 0,.d (.int .u8 p1_)] [some (.arr 2 (o0_.map A8))] 1 (.osl 1 3 0 (z.length)) [some (.arr 2 (o0_.map A8)),some (.arr 3 (z.map Ag))]:=by
 exact fL 33 1 (JbB p0_ p1_ o0_) Try.func77 (sr (ck 1 (en (sr (ck 1 (en (sq (sr (ck 3 (bx H λ x50 h159 H=>sp (CN A8 0 0 (ty 124) h159) (sp (AA Ag x50.Heads) (ck 1 (en (bk 0 (bx H λ y47 h164 H=>lX IJ h164 (tr (Av.nilo 5 3 (by kernel_rfl)) (sg [1,5,11,12,13])) rfl λ s hE39=>qH (qs (hE39) (sr (ck 2 (en (re (by cases H;exact pL (rl (s':=JbC o0_ z) (sg [4])))))))))))))))))))))))
end
section
variable (b0_1_:(List Int)) (b2_:Ao) (o1_:(List Ac)) (o3_:(List (Ae×Bool))) (x_61:(List Ac)) (x_62:Bool) (open_12:(List Ac)) (found_6:(List Ac)) (add_17:(List (Ac×Bool))) (x_63:Int) (open_13:(List Ac)) (found_7:(List Ac)) (add_18:(List (Ac×Bool))) (open_14:(List Ac)) (found_8:(List Ac)) (add_19:(List (Ac×Bool))) (open_15:(List Ac)) (found_9:(List Ac)) (add_20:(List (Ac×Bool))) (ends_4:Bool) (found_10:(List Ac)) (ends_5:Bool) (x53:Ac) (l29:(List Ac)) (ends_6:Bool)
def JbG:St:=⟨(0,.ptr 0 0)::(1,.osl 1 3 0 (o1_.length))::[],[some (.box [.ptr 2 0,.d (.sl (b0_1_.map eU8)),.mp 3]),some (.arr 3 (o1_.map Ag)),some (.box (Ai b2_ (.osl 4 1 0 (b2_.Accepts.length)))),some (.map true false (AF Aq eB o3_)),some (.arr 1 (b2_.Accepts.map eB))]⟩
def JbH:St:=⟨(4,.d (.sl (x_61.map Ag)))::(5,.d (.bool x_62))::[],[some (.box [.ptr 2 0,.d (.sl (b0_1_.map eU8)),.mp 3]),some (.arr 3 (o1_.map Ag)),some (.box (Ai b2_ (.osl 5 1 0 (b2_.Accepts.length)))),some (.map true false (AF Aq eB o3_)),none,some (.arr 1 (b2_.Accepts.map eB))]⟩
def JbI:St:=⟨(2,.ptr 5 0)::(7,.ptr 6 0)::(8,.ptr 7 0)::(9,.ptr 8 0)::(10,.d (.bool false))::(18,.osl 1 3 0 (o1_.length))::(19,.d (.int .i64 ((o1_.length:Nat):Int)))::(20,.d (.int .i64 x_63))::[],[some (.box [.ptr 2 0,.d (.sl (b0_1_.map eU8)),.mp 3]),some (.arr 3 (o1_.map Ag)),some (.box (Ai b2_ (.osl 4 1 0 (b2_.Accepts.length)))),some (.map true false (AF Aq eB o3_)),some (.arr 1 (b2_.Accepts.map eB)),some (.box [.ptr 0 0]),some (.box [.osl 9 3 0 (open_12.length)]),some (.box [.osl 10 3 0 (found_6.length)]),some (.box [.clo 86 [.ptr 11 0,.ptr 6 0,.ptr 7 0]]),some (.arr 3 (open_12.map Ag)),some (.arr 3 (found_6.map Ag)),some (.box [.mp 12]),some (.map true false (AF Ag eB add_17))]⟩
def JbJ:St:=⟨(2,.ptr 5 0)::(7,.ptr 6 0)::(8,.ptr 7 0)::(9,.ptr 8 0)::(10,.d (.bool false))::[],[some (.box [.ptr 2 0,.d (.sl (b0_1_.map eU8)),.mp 3]),some (.arr 3 (o1_.map Ag)),some (.box (Ai b2_ (.osl 4 1 0 (b2_.Accepts.length)))),some (.map true false (AF Aq eB o3_)),some (.arr 1 (b2_.Accepts.map eB)),some (.box [.ptr 0 0]),some (.box [.osl 9 3 0 (open_13.length)]),some (.box [.osl 10 3 0 (found_7.length)]),some (.box [.clo 86 [.ptr 11 0,.ptr 6 0,.ptr 7 0]]),some (.arr 3 (open_13.map Ag)),some (.arr 3 (found_7.map Ag)),some (.box [.mp 12]),some (.map true false (AF Ag eB add_18))]⟩
def JbK:St:=⟨(2,.ptr 5 0)::(7,.ptr 6 0)::(8,.ptr 7 0)::(9,.ptr 8 0)::(10,.d (.bool false))::(18,.osl 1 3 0 (o1_.length))::(19,.d (.int .i64 ((o1_.length:Nat):Int)))::(20,.d (.int .i64 x_63))::[],[some (.box [.ptr 2 0,.d (.sl (b0_1_.map eU8)),.mp 3]),some (.arr 3 (o1_.map Ag)),some (.box (Ai b2_ (.osl 4 1 0 (b2_.Accepts.length)))),some (.map true false (AF Aq eB o3_)),some (.arr 1 (b2_.Accepts.map eB)),some (.box [.ptr 0 0]),some (.box [.osl 9 3 0 (open_14.length)]),some (.box [.osl 10 3 0 (found_8.length)]),some (.box [.clo 86 [.ptr 11 0,.ptr 6 0,.ptr 7 0]]),some (.arr 3 (open_14.map Ag)),some (.arr 3 (found_8.map Ag)),some (.box [.mp 12]),some (.map true false (AF Ag eB add_19))]⟩
def IK:((List Ac)×(List Ac)×(List (Ac×Bool)))->Ex->St->Prop:=xX 5 0 (λ (y:((List Ac)×(List Ac)×(List (Ac×Bool))))=>JbJ b0_1_ b2_ o1_ o3_ y.1 y.2.1 y.2.2)
def EV:((List Ac)×(List Ac)×(List (Ac×Bool))×Int)->St:=(λ (x:((List Ac)×(List Ac)×(List (Ac×Bool))×Int))=>JbI b0_1_ b2_ o1_ o3_ x.1 x.2.1 x.2.2.1 x.2.2.2)
def JbL:St:=⟨(2,.ptr 5 0)::(7,.ptr 6 0)::(8,.ptr 7 0)::(9,.ptr 8 0)::(10,.d (.bool ends_4))::[],[some (.box [.ptr 2 0,.d (.sl (b0_1_.map eU8)),.mp 3]),some (.arr 3 (o1_.map Ag)),some (.box (Ai b2_ (.osl 9 1 0 (b2_.Accepts.length)))),some (.map true false (AF Aq eB o3_)),none,some (.box [.ptr 0 0]),some (.box [.osl 10 3 0 (open_15.length)]),some (.box [.osl 11 3 0 (found_9.length)]),some (.box [.clo 86 [.ptr 12 0,.ptr 6 0,.ptr 7 0]]),some (.arr 1 (b2_.Accepts.map eB)),some (.arr 3 (open_15.map Ag)),some (.arr 3 (found_9.map Ag)),some (.box [.mp 13]),some (.map true false (AF Ag eB add_20))]⟩
def JbM:St:=⟨(8,.ptr 5 0)::(10,.d (.bool ends_5))::[],[some (.box [.ptr 2 0,.d (.sl (b0_1_.map eU8)),.mp 3]),some (.arr 3 (o1_.map Ag)),some (.box (Ai b2_ (.osl 6 1 0 (b2_.Accepts.length)))),some (.map true false (AF Aq eB o3_)),none,some (.box [.osl 7 3 0 (found_10.length)]),some (.arr 1 (b2_.Accepts.map eB)),some (.arr 3 (found_10.map Ag))]⟩
def JbN:St:=⟨(2,.ptr 5 0)::(7,.ptr 6 0)::(8,.ptr 7 0)::(9,.ptr 8 0)::(10,.d (.bool ends_6))::(13,.ptr 9 0)::[],[some (.box [.ptr 2 0,.d (.sl (b0_1_.map eU8)),.mp 3]),some (.arr 3 (o1_.map Ag)),some (.box (Ai b2_ (.osl 10 1 0 (b2_.Accepts.length)))),some (.map true false (AF Aq eB o3_)),none,some (.box [.ptr 0 0]),some (.box [.osl 11 3 0 (l29.length)]),some (.box [.osl 12 3 0 (found_9.length)]),some (.box [.clo 86 [.ptr 13 0,.ptr 6 0,.ptr 7 0]]),some (.box (JaI x53)),some (.arr 1 (b2_.Accepts.map eB)),some (.arr 3 (l29.map Ag)),some (.arr 3 (found_9.map Ag)),some (.box [.mp 14]),some (.map true false (AF Ag eB add_20))]⟩
def IL:((List Ac)×Bool)->Ex->St->Prop:=xX 5 2 (λ (y:((List Ac)×Bool))=>JbM b0_1_ b2_ o1_ o3_ y.1 y.2)
def EW:((List Ac)×(List Ac)×(List (Ac×Bool))×Bool)->St:=(λ (x:((List Ac)×(List Ac)×(List (Ac×Bool))×Bool))=>JbL b0_1_ b2_ o1_ o3_ x.1 x.2.1 x.2.2.1 x.2.2.2)
variable {b0_1_ b2_ o1_ o3_ x_61 x_62 open_12 found_6 add_17 x_63 open_13 found_7 add_18 open_14 found_8 add_19 open_15 found_9 add_20 ends_4 found_10 ends_5 x53 l29 ends_6}
theorem H5 (x:((List Ac)×(List Ac)×(List (Ac×Bool))×Int)) (z:(((List Ac)×(List Ac)×(List (Ac×Bool))×Int)⊕((List Ac)×(List Ac)×(List (Ac×Bool))))) (H:Bm n b0_1_ b2_ o1_ o3_ x.1 x.2.1 x.2.2.1 x.2.2.2=some z):WP (cxk 92 5) (Az Try.f75) [1,1,1,1,1,0,1,0,0] (AE 5 (EV b0_1_ b2_ o1_ o3_) (IK b0_1_ b2_ o1_ o3_) z) (EV b0_1_ b2_ o1_ o3_ x):=by
 obtain ⟨open_12,found_6,add_17,x_63⟩:=x
 refine sr (ck 1 (en (sq (cn H (λ H=>?_) (λ H=>?_)))))
 ·refine sk (qz (sj (λ (x:((List Ac)×(List Ac)×(List (Ac×Bool))))=>JbK b0_1_ b2_ o1_ o3_ x_63 x.1 x.2.1 x.2.2) (λ (x:((List Ac)×(List Ac)×(List (Ac×Bool))))=>BB n x_63 x.1 x.2.1 x.2.2) z ?_ (λ hFRb_reading_spreadx_J1=>?_)))
  ·rintro ⟨open_14,found_8,add_19⟩ H
   exact rz (ck 2 (ae (by cases H;exact og (sg [2,7,8,9,10,18,19,20]))))
  refine bk 1 (sr (bx H λ x52 h165 H=>sp (A3 1 3 h165) (sp (CN Ag 1 0 (ty 128) h165) (ck 2 (en (sr (ck 6 (sp (FD (enc:=eB) (encK:=Aq) (k:=3) (e1:=λ x=>.bool x) (m:=o3_) (l:=[.d (.int .i64 x52.Spot.At),.d (.int .i64 x52.Spot.State)]) (key:=x52.Spot) (z:=false) (vz:=[.bool false]) K4 false) (en (cn H (λ H=>?_) (λ H=>?_)))))))))))
  ·exact rz (ck 2 (bx H λ r44 h166 H=>xc (xok _ _) [11,6,7,12,9,10] (Dm h166) (ae (qN (qs (sg [2,7,8,9,10,18,19,20]) (hFRb_reading_spreadx_J1 (r44.2.1,r44.2.2,r44.1) H))))))
  ·exact sk (qN (qs (sg [2,7,8,9,10,18,19,20]) (hFRb_reading_spreadx_J1 (open_12,found_6,add_17) H)))
 ·exact ex 0 (qx (by cases H;exact xo rfl (sg [2,7,8,9,10])))
theorem H6 (x:((List Ac)×(List Ac)×(List (Ac×Bool))×Bool)) (z:(((List Ac)×(List Ac)×(List (Ac×Bool))×Bool)⊕((List Ac)×Bool))) (H:BC n b0_1_ b2_ o1_ o3_ x.1 x.2.1 x.2.2.1 x.2.2.2=some z):WP (cxk 92 5) (Az Try.f75) [1,1,1,1,1,1,0,0,0] (AE 5 (EW b0_1_ b2_ o1_ o3_) (IL b0_1_ b2_ o1_ o3_) z) (EW b0_1_ b2_ o1_ o3_ x):=by
 obtain ⟨open_15,found_9,add_20,ends_4⟩:=x
 refine sq (sr (ck 3 (en (cn H (λ H=>?_) (λ H=>?_)))))
 ·refine sk (qz (bk 3 (sr (ck 4 (bx H λ x53 h168 H=>sp (A3 10 3 h168) (sp (CN Ag 10 0 (ty 128) h168) (ck 2 (en (sr (ck 4 (bx H λ l29 h169 H=>sp (JO 10 3 h169) (ck 1 (en (sj (λ (x:Bool)=>JbN b0_1_ b2_ o1_ o3_ found_9 add_20 x53 l29 x) (λ (x:Bool)=>Bn n b0_1_ b2_ o3_ found_9 add_20 x53 l29 x) z ?_ (λ hFRb_reading_spreadx_J2=>?_)))))))))))))))
  ·intro ends_6 H
   refine sr (ck 3 (bx H λ r45 h170 H=>lt [0,2,3,10] (EJ h170) (en (bk 4 (bx H λ r46 h171 H=>rf [] [2,9] [17,15,16,5,8,0,13,6,7,2,3,14,11,12,10] 0 (FL h171) rfl (jn H (λ H=>?_) (λ H=>?_)))))))
   ·exact qN (qN (by cases H;exact og (sg [2,7,8,9,10])))
   ·cases H
  refine sq (rg (BP (k:=10) (sz:=3) 6 0 (l29.map Ag) (l29.length) (by kernel_rfl) (Hi h169) (JN (enc:=Ag) h169) (Hj h169)) (ck 7 (sp (AA eU8 b0_1_) (ck 3 (gc 6 (x53.Spot.At==((b0_1_.length:Nat):Int)) (ck 1 (gc 2 (x53.Spot.At==((b0_1_.length:Nat):Int)) (bx H λ x54 h172 H=>sE (λ hg=>A3 9 1 (Dj h172 hg)) (sE (g:=(x53.Spot.At==((b0_1_.length:Nat):Int))) (λ hg=>CN eB 9 0 (ty 4) (Dj h172 hg)) (pA (en (cn H (λ H=>?_) (λ H=>?_)))))))))))))
  ·exact rz (ck 1 (ae (qs (sg [2,7,8,9,10,13]) (hFRb_reading_spreadx_J2 true H))))
  ·exact sk (qs (sg [2,7,8,9,10,13]) (hFRb_reading_spreadx_J2 ends_4 H))
 ·exact ex 2 (qx (by cases H;exact xo rfl (sg [8,10])))
theorem FM {z} (H:Be n b0_1_ b2_ o1_ o3_=some z):BZ Try.prog 75 [.ptr 0 0,.osl 1 3 0 (o1_.length)] [some (.box [.ptr 2 0,.d (.sl (b0_1_.map eU8)),.mp 3]),some (.arr 3 (o1_.map Ag)),some (.box (Ai b2_ (.osl 4 1 0 (b2_.Accepts.length)))),some (.map true false (AF Aq eB o3_)),some (.arr 1 (b2_.Accepts.map eB))] 5 (.tup [.d (.sl (z.1.map Ag)),.d (.bool z.2)]) [some (.box [.ptr 2 0,.d (.sl (b0_1_.map eU8)),.mp 3]),some (.arr 3 (o1_.map Ag)),some (.box (Ai b2_ (.osl 5 1 0 (b2_.Accepts.length)))),some (.map true false (AF Aq eB o3_)),none,some (.arr 1 (b2_.Accepts.map eB))]:=by
 exact fL 92 5 (JbG b0_1_ b2_ o1_ o3_) Try.func75 (sr (ck 3 (en (sr (ck 3 (en (sr (ck 2 (en (sr (xm (xok _ _) (ck 2 (en (sr (ck 1 (en (sq (sr (ck 3 (en (bk 0 (bx H λ y48 h167 H=>lX H5 h167 (tr (tr (Co 8 0 3 (by kernel_rfl)) (Co 9 0 3 (by kernel_rfl))) (sg [2,7,8,9,10,18,19,20])) rfl λ s hE40=>qH (qs (hE40) (sq (bk 2 (bx H λ y49 h173 H=>lX H6 h173 (tr (BP (k:=4) (sz:=1) 2 1 (b2_.Accepts.map eB) (b2_.Accepts.length) (by kernel_rfl) Bk leM rfl) (sg [2,7,8,9,10])) rfl λ s hE41=>qH (qs (hE41) (sr (ck 1 (bx H λ r47 h174 H=>lt [7] (O8 h174) (ck 3 (en (re (by cases H;exact pL (rl (s':=JbH b0_1_ b2_ o1_ o3_ r47 y49.2) (tr (fz (enc:=Ag) (xs:=r47) 4 8 3) (sg [4,5])))))))))))))))))))))))))))))))))))))
end
section
variable (b2_0_:(List Int)) (b3_0_:(List UInt8)) (b4_0_:Int) (b5_0_:Int) (b6_1_:(List Int)) (b7_:Ao) (o8_:(List (Ae×Bool))) (j_2:Nat) (x_64:(List UInt8)) (x_65:Int) (x_66:Int) (r48:((List Ac)×Bool)) (x_67:(List UInt8)) (x_68:Int) (x_69:Int) (x_70:(List UInt8)) (x_71:Int) (x_72:Int) (text_1:(List Int)) (stack_1:(List AW)) (x_73:(List UInt8)) (x_74:Int) (x_75:Int) (l32:(List AW)) (l33:(List Int)) (r51:((List Ac)×Bool)) (x_76:(List UInt8)) (x_77:Int) (x_78:Int)
noncomputable def JbO:St:=⟨(0,.yld 0)::(1,.ptr 1 0)::[],[some (.lp A2 [3,4,5,6] [.ptr 2 0,.ptr 3 0,.ptr 4 0,.ptr 5 0] 0),some (.box [.ptr 6 0]),some (.box [.d (.sl (b2_0_.map eU8))]),some (.box [.d (.str b3_0_)]),some (.box [.d (.int .i64 b4_0_)]),some (.box [.d (.int .i64 b5_0_)]),some (.box [.ptr 7 0,.d (.sl (b6_1_.map eU8)),.mp 8]),some (.box (Ai b7_ (.osl 9 1 0 (b7_.Accepts.length)))),some (.map true false (AF Aq eB o8_)),some (.arr 1 (b7_.Accepts.map eB))]⟩
noncomputable def Lm:St:=⟨[],[some (.lp A2 [3,4,5,6] [.ptr 2 0,.ptr 3 0,.ptr 4 0,.ptr 5 0] j_2),some (.box [.ptr 6 0]),some (.box [.d (.sl (b2_0_.map eU8))]),some (.box [.d (.str x_64)]),some (.box [.d (.int .i64 x_65)]),some (.box [.d (.int .i64 x_66)]),some (.box [.ptr 7 0,.d (.sl (b6_1_.map eU8)),.mp 8]),some (.box (Ai b7_ (.osl 10 1 0 (b7_.Accepts.length)))),some (.map true false (AF Aq eB o8_)),none,some (.arr 1 (b7_.Accepts.map eB))]⟩
noncomputable def JbP:St:=⟨(0,.yld 0)::(1,.ptr 1 0)::(3,.osl 10 1 0 (List.length ([]:List Int)))::(4,.d (.sl (r48.1.map Ag)))::[],[some (.lp A2 [3,4,5,6] [.ptr 2 0,.ptr 3 0,.ptr 4 0,.ptr 5 0] 0),some (.box [.ptr 6 0]),some (.box [.d (.sl (b2_0_.map eU8))]),some (.box [.d (.str x_67)]),some (.box [.d (.int .i64 x_68)]),some (.box [.d (.int .i64 x_69)]),some (.box [.ptr 7 0,.d (.sl (b6_1_.map eU8)),.mp 8]),some (.box (Ai b7_ (.osl 11 1 0 (b7_.Accepts.length)))),some (.map true false (AF Aq eB o8_)),none,some (.arr 1 (List.map eU8 ([]:List Int))),some (.arr 1 (b7_.Accepts.map eB))]⟩
noncomputable def JbQ:St:=⟨(0,.yld 0)::(1,.ptr 1 0)::(3,.osl 10 1 0 (text_1.length))::(6,.osl 11 2 0 (stack_1.length))::[],[some (.lp A2 [3,4,5,6] [.ptr 2 0,.ptr 3 0,.ptr 4 0,.ptr 5 0] 0),some (.box [.ptr 6 0]),some (.box [.d (.sl (b2_0_.map eU8))]),some (.box [.d (.str x_70)]),some (.box [.d (.int .i64 x_71)]),some (.box [.d (.int .i64 x_72)]),some (.box [.ptr 7 0,.d (.sl (b6_1_.map eU8)),.mp 8]),some (.box (Ai b7_ (.osl 12 1 0 (b7_.Accepts.length)))),some (.map true false (AF Aq eB o8_)),none,some (.arr 1 (text_1.map eU8)),some (.arr 2 (stack_1.map A8)),some (.arr 1 (b7_.Accepts.map eB))]⟩
noncomputable def JbR:St:=⟨[],[some (.lp A2 [3,4,5,6] [.ptr 2 0,.ptr 3 0,.ptr 4 0,.ptr 5 0] 0),some (.box [.ptr 6 0]),some (.box [.d (.sl (b2_0_.map eU8))]),some (.box [.d (.str x_73)]),some (.box [.d (.int .i64 x_74)]),some (.box [.d (.int .i64 x_75)]),some (.box [.ptr 7 0,.d (.sl (b6_1_.map eU8)),.mp 8]),some (.box (Ai b7_ (.osl 10 1 0 (b7_.Accepts.length)))),some (.map true false (AF Aq eB o8_)),none,some (.arr 1 (b7_.Accepts.map eB))]⟩
noncomputable def JbS:St:=⟨(0,.yld 0)::(1,.ptr 1 0)::(3,.osl 10 1 0 (l33.length))::(4,.d (.sl (r51.1.map Ag)))::(6,.osl 11 2 0 (l32.length))::[],[some (.lp A2 [3,4,5,6] [.ptr 2 0,.ptr 3 0,.ptr 4 0,.ptr 5 0] 0),some (.box [.ptr 6 0]),some (.box [.d (.sl (b2_0_.map eU8))]),some (.box [.d (.str x_76)]),some (.box [.d (.int .i64 x_77)]),some (.box [.d (.int .i64 x_78)]),some (.box [.ptr 7 0,.d (.sl (b6_1_.map eU8)),.mp 8]),some (.box (Ai b7_ (.osl 12 1 0 (b7_.Accepts.length)))),some (.map true false (AF Aq eB o8_)),none,some (.arr 1 (l33.map eU8)),some (.arr 2 (l32.map A8)),some (.arr 1 (b7_.Accepts.map eB))]⟩
noncomputable def IM:(((List UInt8)×Int×Int)⊕(Nat×(List UInt8)×Int×Int))->Ex->St->Prop:=xS (xX 10 0 (λ (y:((List UInt8)×Int×Int))=>JbR b2_0_ b6_1_ b7_ o8_ y.1 y.2.1 y.2.2)) (xL 10 ty Try.f74 (λ (y:(Nat×(List UInt8)×Int×Int))=>.tup []) (λ (y:(Nat×(List UInt8)×Int×Int))=>[some (.lp A2 [3,4,5,6] [.ptr 2 0,.ptr 3 0,.ptr 4 0,.ptr 5 0] y.1),some (.box [.ptr 6 0]),some (.box [.d (.sl (b2_0_.map eU8))]),some (.box [.d (.str y.2.1)]),some (.box [.d (.int .i64 y.2.2.1)]),some (.box [.d (.int .i64 y.2.2.2)]),some (.box [.ptr 7 0,.d (.sl (b6_1_.map eU8)),.mp 8]),some (.box (Ai b7_ (.osl 10 1 0 (b7_.Accepts.length)))),some (.map true false (AF Aq eB o8_)),none,some (.arr 1 (b7_.Accepts.map eB))]))
noncomputable def EX:((List UInt8)×Int×Int×(List Int)×(List AW))->St:=(λ (x:((List UInt8)×Int×Int×(List Int)×(List AW)))=>JbQ b2_0_ b6_1_ b7_ o8_ x.1 x.2.1 x.2.2.1 x.2.2.2.1 x.2.2.2.2)
variable {b2_0_ b3_0_ b4_0_ b5_0_ b6_1_ b7_ o8_ j_2 x_64 x_65 x_66 r48 x_67 x_68 x_69 x_70 x_71 x_72 text_1 stack_1 x_73 x_74 x_75 l32 l33 r51 x_76 x_77 x_78}
theorem EA (x:((List UInt8)×Int×Int×(List Int)×(List AW))) (z:(((List UInt8)×Int×Int×(List Int)×(List AW))⊕(((List UInt8)×Int×Int)⊕(Nat×(List UInt8)×Int×Int)))) (H:A7 n b2_0_ b6_1_ b7_ o8_ x.1 x.2.1 x.2.2.1 x.2.2.2.1 x.2.2.2.2=some z):WP (cxk 81 10) (Az Try.f74) [1,1,1,1,0,0] (AE 10 (EX b2_0_ b6_1_ b7_ o8_) (IM b2_0_ b6_1_ b7_ o8_) z) (EX b2_0_ b6_1_ b7_ o8_ x):=by
 obtain ⟨x_70,x_71,x_72,text_1,stack_1⟩:=x
 refine sq (sr (ck 3 (en (cn H (λ H=>?_) (λ H=>?_)))))
 ·refine sk (qz (bk 1 (sr (ck 4 (bx H λ x55 h176 H=>sp (A3 11 2 h176) (ck 1 (en (sr (ck 1 (bx H λ r49 h177 H=>cb (ks:=[11]) (obl:=[(0+Int.toNat (DU .i64 ((stack_1.length:Nat):Int) 1)+1,List.length (stack_1.map A8))]) false (leK (Jh3 (enc:=A8) h176) (leZ)) (DR (Jd1 h176) rfl) (Hb h177) (Or.inr trivial) rfl (ck 1 (en (sq (sr (ck 2 (en (cn H (λ H=>?_) (λ H=>?_))))))))))))))))))
  ·exact sr (ck 4 (bx H λ l30 h178 H=>sp (JO 11 2 h178) (ck 1 (en (sq (rg (Oc (k:=11) (sz:=2) 6 (l30.map A8) (l30.length) (by kernel_rfl) (Hi h178) (JN (enc:=A8) h178) (Hj h178)) (ck 5 (bx H λ l31 h179 H=>sp (JO 10 1 h179) (ck 1 (en (ex 1 (qx (qH (by cases H;exact og (tr (Oc (k:=10) (sz:=1) 3 (l31.map eU8) (l31.length) (by kernel_rfl) (Hi h179) (JN (enc:=eU8) h179) (Hj h179)) (sg [0,1,3,6]))))))))))))))))
  ·refine sk (qz (sr (ck 5 (bx H λ l32 h180 H=>stA A8 11 1 (ty 3) h176 h180 (en (sq (rg (tr (tr (tr (sn 6 11 2 (Cp h180)) (sn 26 11 2 (Cp h180))) (sn 29 11 2 (Cp h180))) (sn 30 11 2 (Cp h180))) (ck 4 (bx H λ l33 h181 H=>sp (Bd eU8 10 1 h181) (ck 1 (en (sq (rx 4 5 (.refl _) (ck 4 (bx H λ r50 h182 H=>xs (xok _ _) (g:=true) rfl (EO) [11] (FX h182) rfl (mx (bx H λ r51 h183 H=>lt [6,15,7,8,12] (FM h183) (nx 11 10 (ck 4 (mx (ck 1 (nz (qz (sj (λ (x:((List UInt8)×Int×Int))=>JbS b2_0_ b6_1_ b7_ o8_ l32 l33 r51 x.1 x.2.1 x.2.2) (λ (x:((List UInt8)×Int×Int))=>BD n l32 l33 r51 x.1 x.2.1 x.2.2) z ?_ (λ hFRb_reading_texts_1_J2=>?_)))))))))))))))))))))))))
   ·rintro ⟨x_76,x_77,x_78⟩ H
    exact rz (ck 4 (bx H λ l34 h184 H=>sp (Bd A8 11 2 h184) (ck 1 (ae (qN (by cases H;exact og (sg [0,1,3,6])))))))
   refine sr (ck 4 (gsp r51.2 H (λ hg H=>?_) (λ hg H=>?_)))
   ·refine bx H λ s3 h185 H=>xv (xok _ _) hg (CF (λ hh=>hh) (EO)) 14 h185 (bx H λ r52 h186 H=>xy (xok _ _) hg (CF (λ hh=>hh) (CF (λ hh=>hh) (EO))) [0,2,3,4,5] (Mf h186) rfl (gc 1 r51.2 (pA (en (cnh H (λ hc86 H=>?_) (λ hc86 H=>?_))))))
    ·exact re (qr (qR (by cases H;exact lo rfl (rl (s':=Lm b2_0_ b6_1_ b7_ o8_ 2 s3 ((b2_0_.length:Nat):Int) 0) (sg [])))))
    ·exact sk (qs (tr (Vn 0 (jb1 hg hc86) (by kernel_rfl)) (sg [0,1,3,4,6])) (hFRb_reading_texts_1_J2 (s3,((b2_0_.length:Nat):Int),0) H))
   ·refine gsk hg (.d (.str [])) (gsk hg (.d (.bool false)) (gc 1 r51.2 (pA (en (cn H (λ H=>?_) (λ H=>?_))))))
    ·exact re (qr (qR (by cases H;exact lo rfl (rl (s':=Lm b2_0_ b6_1_ b7_ o8_ 0 x_70 x_71 x_72) (sg [])))))
    ·exact sk (qs (sg [0,1,3,4,6]) (hFRb_reading_texts_1_J2 (x_70,x_71,x_72) H))
 ·exact ex 0 (qx (by cases H;exact xo rfl (sg [])))
theorem JY {z} (H:B8 n b2_0_ b3_0_ b4_0_ b5_0_ b6_1_ b7_ o8_=some z):BZ Try.prog 74 [.yld 0,.ptr 1 0] [some (.lp A2 [3,4,5,6] [.ptr 2 0,.ptr 3 0,.ptr 4 0,.ptr 5 0] 0),some (.box [.ptr 6 0]),some (.box [.d (.sl (b2_0_.map eU8))]),some (.box [.d (.str b3_0_)]),some (.box [.d (.int .i64 b4_0_)]),some (.box [.d (.int .i64 b5_0_)]),some (.box [.ptr 7 0,.d (.sl (b6_1_.map eU8)),.mp 8]),some (.box (Ai b7_ (.osl 9 1 0 (b7_.Accepts.length)))),some (.map true false (AF Aq eB o8_)),some (.arr 1 (b7_.Accepts.map eB))] 10 (.tup []) [some (.lp A2 [3,4,5,6] [.ptr 2 0,.ptr 3 0,.ptr 4 0,.ptr 5 0] z.1),some (.box [.ptr 6 0]),some (.box [.d (.sl (b2_0_.map eU8))]),some (.box [.d (.str z.2.1)]),some (.box [.d (.int .i64 z.2.2.1)]),some (.box [.d (.int .i64 z.2.2.2)]),some (.box [.ptr 7 0,.d (.sl (b6_1_.map eU8)),.mp 8]),some (.box (Ai b7_ (.osl 10 1 0 (b7_.Accepts.length)))),some (.map true false (AF Aq eB o8_)),none,some (.arr 1 (b7_.Accepts.map eB))]:=by
 refine fL 81 10 (JbO b2_0_ b3_0_ b4_0_ b5_0_ b6_1_ b7_ o8_) Try.func74 (sr (ck 1 (en (sr (ck 3 (sF (bx H λ r48 h175 H=>lt [6,7,8,9] (FW h175) (ck 5 (en (sj (λ (x:((List UInt8)×Int×Int))=>JbP b2_0_ b6_1_ b7_ o8_ r48 x.1 x.2.1 x.2.2) (λ (x:((List UInt8)×Int×Int))=>BE n b2_0_ b6_1_ b7_ o8_ r48 x.1 x.2.1 x.2.2) z ?_ (λ hFRb_reading_texts_1_J1=>?_)))))))))))
 ·rintro ⟨x_67,x_68,x_69⟩ H
  refine sr (ck 4 (en (bk 0 (bx H λ y50 h187 H=>?_))))
  rcases y50 with y51|y52
  ·exact lX EA h187 (sg [0,1,3,6]) rfl λ s hE42=>qH (by cases H;exact pL' (rl (s':=Lm b2_0_ b6_1_ b7_ o8_ 0 y51.1 y51.2.1 y51.2.2) (tr (hE42) (sg []))))
  ·exact lL EA h187 (sg [0,1,3,6]) rfl λ s hE43=>qR (by cases H;exact pL hE43)
 refine sr (ck 3 (gsp r48.2 H (λ hg H=>?_) (λ hg H=>?_)))
 ·refine bx H λ r53 h188 H=>xy (xok _ _) hg (CF (λ hh=>hh) (EO)) [0,2,3,4,5] (Mf h188) rfl (gc 1 r48.2 (pA (en (cnh H (λ hc88 H=>?_) (λ hc88 H=>?_)))))
  ·exact re (qr (by cases H;exact pL (rl (s':=Lm b2_0_ b6_1_ b7_ o8_ 2 [] ((b2_0_.length:Nat):Int) 0) (sg []))))
  ·exact sk (qs (tr (tr (Vn 0 (jb1 hg hc88) (by kernel_rfl)) (Av.nilo 3 1 (by kernel_rfl))) (sg [0,1,3,4])) (hFRb_reading_texts_1_J1 ([],((b2_0_.length:Nat):Int),0) H))
 ·refine gsk hg (.d (.bool false)) (gc 1 r48.2 (pA (en (cn H (λ H=>?_) (λ H=>?_)))))
  ·exact re (qr (by cases H;exact pL (rl (s':=Lm b2_0_ b6_1_ b7_ o8_ 0 b3_0_ b4_0_ b5_0_) (sg []))))
  ·exact sk (qs (tr (Av.nilo 3 1 (by kernel_rfl)) (sg [0,1,3,4])) (hFRb_reading_texts_1_J1 (b3_0_,b4_0_,b5_0_) H))
end
section
variable (p0_:Ab) (p1_:(List Int))
def JfZ:St:=⟨(0,.agg [.d (.int .i64 p0_.Modes),.d (.int .u8 p0_.Accept),.d (.sl (p0_.Rules.map Ar))])::(1,.d (.sl (p1_.map eU8)))::[],[]⟩
variable {p0_ p1_}
theorem Is {z} (H:FE n p0_ p1_=some z):AL Try.prog 41 [.agg (AG p0_),.d (.sl (p1_.map eU8))] (.tup [.d (.str z.1),.d (.int .i64 z.2.1),.d (.int .i64 z.2.2)]):=by
 refine fO 27 (JfZ p0_ p1_) Try.func41 (sr (ck 5 (en (sq (sr (ck 1 (bx H λ r54 h189 H=>ca false (JV h189) (ck 1 (en (cn H (λ H=>?_) (λ H=>?_)))))))))))
 ·exact sr (ck 3 (en (re (qr (by cases H;exact pr rdT)))))
 ·refine sk (qz (sr (ck 2 (bx H λ r55 h190 H=>lt [] (Ir h190) (ck 5 (en (sq (sr (ck 1 (bx H λ r56 h191 H=>lt [5,6,7,8] (GP h191) (en (bk 0 (bx H λ r57 h192 H=>rf [.ret] [3,4,5,6] [10,9,1,2,3,4,5,6,7,8] r57.1 (JY h192) rfl (jn H (λ H=>?_) (λ H=>?_)))))))))))))))
  ·exact qN (qz (sr (ck 5 (en (re (by cases H;exact pr rdT))))))
  ·refine jr 0 H (λ H=>?_) (λ H=>?_)
   ·exact qR (qr (by cases H;exact pr rdT))
   ·cases H
end
noncomputable def JbT (p1_:(List UInt8)) (b1_0_:Int) (b3_0_:Int) (o5_:(List (List UInt8))) (o6_:(List (List UInt8))):St:=⟨(25,.d (.str p1_))::(5,.ptr 1 0)::(6,.ptr 2 0)::(7,.ptr 3 0)::(10,.ptr 4 0)::[],[some (.lp AO [5,6,7,10] [.ptr 1 0,.ptr 2 0,.ptr 3 0,.ptr 4 0] 0),some (.box [.d (.int .i64 b1_0_)]),some (.box [.osl 5 1 0 (o5_.length)]),some (.box [.d (.int .i64 b3_0_)]),some (.box [.osl 6 1 0 (o6_.length)]),some (.arr 1 (o5_.map eS)),some (.arr 1 (o6_.map eS))]⟩
noncomputable def Vv (b1_0_:Int) (x_79:Int) (x_80:(List (List UInt8))) (x_81:(List (List UInt8))):St:=⟨[],[some (.lp AO [5,6,7,10] [.ptr 1 0,.ptr 2 0,.ptr 3 0,.ptr 4 0] 1),some (.box [.d (.int .i64 b1_0_)]),some (.box [.osl 7 1 0 (x_80.length)]),some (.box [.d (.int .i64 x_79)]),some (.box [.osl 8 1 0 (x_81.length)]),none,none,some (.arr 1 (x_80.map eS)),some (.arr 1 (x_81.map eS))]⟩
section
variable (p1_:(List UInt8)) (b1_0_:Int) (b3_0_:Int) (o5_:(List (List UInt8))) (o6_:(List (List UInt8)))
variable {p1_ b1_0_ b3_0_ o5_ o6_}
theorem Ln {z} (H:D8 n p1_ b1_0_ b3_0_ o5_ o6_=some z):O5 Try.prog [.d (.str p1_)] [some (.lp AO [5,6,7,10] [.ptr 1 0,.ptr 2 0,.ptr 3 0,.ptr 4 0] 0),some (.box [.d (.int .i64 b1_0_)]),some (.box [.osl 5 1 0 (o5_.length)]),some (.box [.d (.int .i64 b3_0_)]),some (.box [.osl 6 1 0 (o6_.length)]),some (.arr 1 (o5_.map eS)),some (.arr 1 (o6_.map eS))] 7 z.1 [some (.lp AO [5,6,7,10] [.ptr 1 0,.ptr 2 0,.ptr 3 0,.ptr 4 0] z.1),some (.box [.d (.int .i64 b1_0_)]),some (.box [.osl 7 1 0 (z.2.2.1.length)]),some (.box [.d (.int .i64 z.2.1)]),some (.box [.osl 8 1 0 (z.2.2.2.length)]),none,none,some (.arr 1 (z.2.2.1.map eS)),some (.arr 1 (z.2.2.2.map eS))]:=by
 refine fk (C:=Az Try.f43) (p:=[1,1,1,1,1,0,1,0]) 35 [25] [.ret] (ts:=[5,6,7,10]) (vs:=[.ptr 1 0,.ptr 2 0,.ptr 3 0,.ptr 4 0]) (JbT p1_ b1_0_ b3_0_ o5_ o6_) follows (XE 35 7) (rz (ck 1 (ae (aq (js:=[.ret]) (bk 1 (sq (sr (ck 4 (en (cn H (λ H=>?_) (λ H=>?_)))))))))))
 ·exact sr (ck 2 (en (re (qr (qR (by cases H;exact rq (s':=Vv b1_0_ 2 ([]:List (List UInt8)) o6_) (tr (tr (tr (Co 2 0 1 (by kernel_rfl)) (BP (k:=6) (sz:=1) 4 0 (o6_.map eS) (o6_.length) (by kernel_rfl) Bk leM rfl)) (Xy 5 rfl)) (sg []))))))))
 ·exact sk (qz (rz (ck 3 (bx H λ l35 h193 H=>sp (Bd eS 6 1 h193) (ck 1 (ae (qN (by cases H;exact rq (s':=Vv b1_0_ b3_0_ o5_ l35) (tr (BP (k:=5) (sz:=1) 2 0 (o5_.map eS) (o5_.length) (by kernel_rfl) Bk leM rfl) (sg []))))))))))
end
end Go.AI
end
section
namespace Go.AI
open Go.Proofs
set_option maxRecDepth 10000
variable {n:Nat}
section
variable (b2_0_:Int) (b4_0_:Int) (b6_1_:(List Int)) (b9_:Ao) (o7_:(List (List UInt8))) (o8_:(List (List UInt8))) (o10_:(List (Ae×Bool))) (j_3:Nat) (x_82:Int) (x_83:(List (List UInt8))) (x_84:(List (List UInt8))) (r58:((List Ac)×Bool)) (x_85:Int) (x_86:(List (List UInt8))) (x_87:(List (List UInt8))) (x_88:Int) (text_2:(List Int)) (stack_2:(List AW)) (x_89:(List (List UInt8))) (x_90:(List (List UInt8))) (x_91:Int) (x_92:(List (List UInt8))) (x_93:(List (List UInt8))) (l38:(List AW)) (l39:(List Int)) (r61:((List Ac)×Bool)) (x_94:Int) (x_95:(List (List UInt8))) (x_96:(List (List UInt8)))
noncomputable def JbU:St:=⟨(0,.yld 0)::(1,.ptr 1 0)::[],[some (.lp AO [5,6,7,10] [.ptr 2 0,.ptr 3 0,.ptr 4 0,.ptr 5 0] 0),some (.box [.ptr 6 0]),some (.box [.d (.int .i64 b2_0_)]),some (.box [.osl 7 1 0 (o7_.length)]),some (.box [.d (.int .i64 b4_0_)]),some (.box [.osl 8 1 0 (o8_.length)]),some (.box [.ptr 9 0,.d (.sl (b6_1_.map eU8)),.mp 10]),some (.arr 1 (o7_.map eS)),some (.arr 1 (o8_.map eS)),some (.box (Ai b9_ (.osl 11 1 0 (b9_.Accepts.length)))),some (.map true false (AF Aq eB o10_)),some (.arr 1 (b9_.Accepts.map eB))]⟩
noncomputable def Lo:St:=⟨[],[some (.lp AO [5,6,7,10] [.ptr 2 0,.ptr 3 0,.ptr 4 0,.ptr 5 0] j_3),some (.box [.ptr 6 0]),some (.box [.d (.int .i64 b2_0_)]),some (.box [.osl 12 1 0 (x_83.length)]),some (.box [.d (.int .i64 x_82)]),some (.box [.osl 13 1 0 (x_84.length)]),some (.box [.ptr 9 0,.d (.sl (b6_1_.map eU8)),.mp 10]),none,none,some (.box (Ai b9_ (.osl 14 1 0 (b9_.Accepts.length)))),some (.map true false (AF Aq eB o10_)),none,some (.arr 1 (x_83.map eS)),some (.arr 1 (x_84.map eS)),some (.arr 1 (b9_.Accepts.map eB))]⟩
noncomputable def JbV:St:=⟨(0,.yld 0)::(1,.ptr 1 0)::(3,.osl 12 1 0 (List.length ([]:List Int)))::(4,.d (.sl (r58.1.map Ag)))::[],[some (.lp AO [5,6,7,10] [.ptr 2 0,.ptr 3 0,.ptr 4 0,.ptr 5 0] 0),some (.box [.ptr 6 0]),some (.box [.d (.int .i64 b2_0_)]),some (.box [.osl 13 1 0 (x_86.length)]),some (.box [.d (.int .i64 x_85)]),some (.box [.osl 14 1 0 (x_87.length)]),some (.box [.ptr 9 0,.d (.sl (b6_1_.map eU8)),.mp 10]),none,none,some (.box (Ai b9_ (.osl 15 1 0 (b9_.Accepts.length)))),some (.map true false (AF Aq eB o10_)),none,some (.arr 1 (List.map eU8 ([]:List Int))),some (.arr 1 (x_86.map eS)),some (.arr 1 (x_87.map eS)),some (.arr 1 (b9_.Accepts.map eB))]⟩
noncomputable def JbW:St:=⟨(0,.yld 0)::(1,.ptr 1 0)::(3,.osl 12 1 0 (text_2.length))::(6,.osl 13 2 0 (stack_2.length))::[],[some (.lp AO [5,6,7,10] [.ptr 2 0,.ptr 3 0,.ptr 4 0,.ptr 5 0] 0),some (.box [.ptr 6 0]),some (.box [.d (.int .i64 b2_0_)]),some (.box [.osl 14 1 0 (x_89.length)]),some (.box [.d (.int .i64 x_88)]),some (.box [.osl 15 1 0 (x_90.length)]),some (.box [.ptr 9 0,.d (.sl (b6_1_.map eU8)),.mp 10]),none,none,some (.box (Ai b9_ (.osl 16 1 0 (b9_.Accepts.length)))),some (.map true false (AF Aq eB o10_)),none,some (.arr 1 (text_2.map eU8)),some (.arr 2 (stack_2.map A8)),some (.arr 1 (x_89.map eS)),some (.arr 1 (x_90.map eS)),some (.arr 1 (b9_.Accepts.map eB))]⟩
noncomputable def JbX:St:=⟨[],[some (.lp AO [5,6,7,10] [.ptr 2 0,.ptr 3 0,.ptr 4 0,.ptr 5 0] 0),some (.box [.ptr 6 0]),some (.box [.d (.int .i64 b2_0_)]),some (.box [.osl 12 1 0 (x_92.length)]),some (.box [.d (.int .i64 x_91)]),some (.box [.osl 13 1 0 (x_93.length)]),some (.box [.ptr 9 0,.d (.sl (b6_1_.map eU8)),.mp 10]),none,none,some (.box (Ai b9_ (.osl 14 1 0 (b9_.Accepts.length)))),some (.map true false (AF Aq eB o10_)),none,some (.arr 1 (x_92.map eS)),some (.arr 1 (x_93.map eS)),some (.arr 1 (b9_.Accepts.map eB))]⟩
noncomputable def JbY:St:=⟨(0,.yld 0)::(1,.ptr 1 0)::(3,.osl 12 1 0 (l39.length))::(4,.d (.sl (r61.1.map Ag)))::(6,.osl 13 2 0 (l38.length))::[],[some (.lp AO [5,6,7,10] [.ptr 2 0,.ptr 3 0,.ptr 4 0,.ptr 5 0] 0),some (.box [.ptr 6 0]),some (.box [.d (.int .i64 b2_0_)]),some (.box [.osl 14 1 0 (x_95.length)]),some (.box [.d (.int .i64 x_94)]),some (.box [.osl 15 1 0 (x_96.length)]),some (.box [.ptr 9 0,.d (.sl (b6_1_.map eU8)),.mp 10]),none,none,some (.box (Ai b9_ (.osl 16 1 0 (b9_.Accepts.length)))),some (.map true false (AF Aq eB o10_)),none,some (.arr 1 (l39.map eU8)),some (.arr 2 (l38.map A8)),some (.arr 1 (x_95.map eS)),some (.arr 1 (x_96.map eS)),some (.arr 1 (b9_.Accepts.map eB))]⟩
noncomputable def H7:((Int×(List (List UInt8))×(List (List UInt8)))⊕(Nat×Int×(List (List UInt8))×(List (List UInt8))))->Ex->St->Prop:=xS (xX 12 0 (λ (y:(Int×(List (List UInt8))×(List (List UInt8))))=>JbX b2_0_ b6_1_ b9_ o10_ y.1 y.2.1 y.2.2)) (xL 12 ty Try.f74 (λ (y:(Nat×Int×(List (List UInt8))×(List (List UInt8))))=>.tup []) (λ (y:(Nat×Int×(List (List UInt8))×(List (List UInt8))))=>[some (.lp AO [5,6,7,10] [.ptr 2 0,.ptr 3 0,.ptr 4 0,.ptr 5 0] y.1),some (.box [.ptr 6 0]),some (.box [.d (.int .i64 b2_0_)]),some (.box [.osl 12 1 0 (y.2.2.1.length)]),some (.box [.d (.int .i64 y.2.1)]),some (.box [.osl 13 1 0 (y.2.2.2.length)]),some (.box [.ptr 9 0,.d (.sl (b6_1_.map eU8)),.mp 10]),none,none,some (.box (Ai b9_ (.osl 14 1 0 (b9_.Accepts.length)))),some (.map true false (AF Aq eB o10_)),none,some (.arr 1 (y.2.2.1.map eS)),some (.arr 1 (y.2.2.2.map eS)),some (.arr 1 (b9_.Accepts.map eB))]))
noncomputable def EB:(Int×(List Int)×(List AW)×(List (List UInt8))×(List (List UInt8)))->St:=(λ (x:(Int×(List Int)×(List AW)×(List (List UInt8))×(List (List UInt8))))=>JbW b2_0_ b6_1_ b9_ o10_ x.1 x.2.1 x.2.2.1 x.2.2.2.1 x.2.2.2.2)
variable {b2_0_ b4_0_ b6_1_ b9_ o7_ o8_ o10_ j_3 x_82 x_83 x_84 r58 x_85 x_86 x_87 x_88 text_2 stack_2 x_89 x_90 x_91 x_92 x_93 l38 l39 r61 x_94 x_95 x_96}
theorem Ea (x:(Int×(List Int)×(List AW)×(List (List UInt8))×(List (List UInt8)))) (z:((Int×(List Int)×(List AW)×(List (List UInt8))×(List (List UInt8)))⊕((Int×(List (List UInt8))×(List (List UInt8)))⊕(Nat×Int×(List (List UInt8))×(List (List UInt8)))))) (H:A5 n b2_0_ b6_1_ b9_ o10_ x.1 x.2.1 x.2.2.1 x.2.2.2.1 x.2.2.2.2=some z):WP (cxk 81 12) (Az Try.f74) [1,1,1,1,0,0] (AE 12 (EB b2_0_ b6_1_ b9_ o10_) (H7 b2_0_ b6_1_ b9_ o10_) z) (EB b2_0_ b6_1_ b9_ o10_ x):=by
 obtain ⟨x_88,text_2,stack_2,x_89,x_90⟩:=x
 refine sq (sr (ck 3 (en (cn H (λ H=>?_) (λ H=>?_)))))
 ·refine sk (qz (bk 1 (sr (ck 4 (bx H λ x56 h195 H=>sp (A3 13 2 h195) (ck 1 (en (sr (ck 1 (bx H λ r59 h196 H=>cb (ks:=[13]) (obl:=[(0+Int.toNat (DU .i64 ((stack_2.length:Nat):Int) 1)+1,List.length (stack_2.map A8))]) false (leK (Jh3 (enc:=A8) h195) (leZ)) (DR (Jd1 h195) rfl) (Hb h196) (Or.inr trivial) rfl (ck 1 (en (sq (sr (ck 2 (en (cn H (λ H=>?_) (λ H=>?_))))))))))))))))))
  ·exact sr (ck 4 (bx H λ l36 h197 H=>sp (JO 13 2 h197) (ck 1 (en (sq (rg (Oc (k:=13) (sz:=2) 6 (l36.map A8) (l36.length) (by kernel_rfl) (Hi h197) (JN (enc:=A8) h197) (Hj h197)) (ck 5 (bx H λ l37 h198 H=>sp (JO 12 1 h198) (ck 1 (en (ex 1 (qx (qH (by cases H;exact og (tr (Oc (k:=12) (sz:=1) 3 (l37.map eU8) (l37.length) (by kernel_rfl) (Hi h198) (JN (enc:=eU8) h198) (Hj h198)) (sg [0,1,3,6]))))))))))))))))
  ·refine sk (qz (sr (ck 5 (bx H λ l38 h199 H=>stA A8 13 1 (ty 3) h195 h199 (en (sq (rg (tr (tr (tr (sn 6 13 2 (Cp h199)) (sn 26 13 2 (Cp h199))) (sn 29 13 2 (Cp h199))) (sn 30 13 2 (Cp h199))) (ck 4 (bx H λ l39 h200 H=>sp (Bd eU8 12 1 h200) (ck 1 (en (sq (rx 4 5 (.refl _) (ck 4 (bx H λ r60 h201 H=>xs (xok _ _) (g:=true) rfl (EO) [13] (FX h201) rfl (mx (bx H λ r61 h202 H=>lt [6,19,9,10,16] (FM h202) (nx 11 10 (ck 4 (mx (ck 1 (nz (qz (sj (λ (x:(Int×(List (List UInt8))×(List (List UInt8))))=>JbY b2_0_ b6_1_ b9_ o10_ l38 l39 r61 x.1 x.2.1 x.2.2) (λ (x:(Int×(List (List UInt8))×(List (List UInt8))))=>Bg n l38 l39 r61 x.1 x.2.1 x.2.2) z ?_ (λ hFRb_reading_texts_1x_J2=>?_)))))))))))))))))))))))))
   ·rintro ⟨x_94,x_95,x_96⟩ H
    exact rz (ck 4 (bx H λ l40 h203 H=>sp (Bd A8 13 2 h203) (ck 1 (ae (qN (by cases H;exact og (sg [0,1,3,6])))))))
   refine sr (ck 4 (gsp r61.2 H (λ hg H=>?_) (λ hg H=>?_)))
   ·refine bx H λ s4 h204 H=>xv (xok _ _) hg (CF (λ hh=>hh) (EO)) 18 h204 (bx H λ r62 h205 H=>xy (xok _ _) hg (CF (λ hh=>hh) (CF (λ hh=>hh) (EO))) [0,2,3,4,5,14,15] (Ln h205) rfl (gc 1 r61.2 (pA (en (cnh H (λ hc94 H=>?_) (λ hc94 H=>?_))))))
    ·exact re (qr (qR (by cases H;exact lo rfl (rl (s':=Lo b2_0_ b6_1_ b9_ o10_ r62.1 r62.2.1 r62.2.2.1 r62.2.2.2) (sg [])))))
    ·exact sk (qs (tr (Vn 0 (jb1 hg hc94) (by kernel_rfl)) (sg [0,1,3,4,6])) (hFRb_reading_texts_1x_J2 (r62.2.1,r62.2.2.1,r62.2.2.2) H))
   ·refine gsk hg (.d (.str [])) (gsk hg (.d (.bool false)) (gc 1 r61.2 (pA (en (cn H (λ H=>?_) (λ H=>?_))))))
    ·exact re (qr (qR (by cases H;exact lo rfl (rl (s':=Lo b2_0_ b6_1_ b9_ o10_ 0 x_88 x_89 x_90) (sg [])))))
    ·exact sk (qs (sg [0,1,3,4,6]) (hFRb_reading_texts_1x_J2 (x_88,x_89,x_90) H))
 ·exact ex 0 (qx (by cases H;exact xo rfl (sg [])))
theorem Jk {z} (H:BW n b2_0_ b4_0_ b6_1_ b9_ o7_ o8_ o10_=some z):BZ Try.prog 74 [.yld 0,.ptr 1 0] [some (.lp AO [5,6,7,10] [.ptr 2 0,.ptr 3 0,.ptr 4 0,.ptr 5 0] 0),some (.box [.ptr 6 0]),some (.box [.d (.int .i64 b2_0_)]),some (.box [.osl 7 1 0 (o7_.length)]),some (.box [.d (.int .i64 b4_0_)]),some (.box [.osl 8 1 0 (o8_.length)]),some (.box [.ptr 9 0,.d (.sl (b6_1_.map eU8)),.mp 10]),some (.arr 1 (o7_.map eS)),some (.arr 1 (o8_.map eS)),some (.box (Ai b9_ (.osl 11 1 0 (b9_.Accepts.length)))),some (.map true false (AF Aq eB o10_)),some (.arr 1 (b9_.Accepts.map eB))] 12 (.tup []) [some (.lp AO [5,6,7,10] [.ptr 2 0,.ptr 3 0,.ptr 4 0,.ptr 5 0] z.1),some (.box [.ptr 6 0]),some (.box [.d (.int .i64 b2_0_)]),some (.box [.osl 12 1 0 (z.2.2.1.length)]),some (.box [.d (.int .i64 z.2.1)]),some (.box [.osl 13 1 0 (z.2.2.2.length)]),some (.box [.ptr 9 0,.d (.sl (b6_1_.map eU8)),.mp 10]),none,none,some (.box (Ai b9_ (.osl 14 1 0 (b9_.Accepts.length)))),some (.map true false (AF Aq eB o10_)),none,some (.arr 1 (z.2.2.1.map eS)),some (.arr 1 (z.2.2.2.map eS)),some (.arr 1 (b9_.Accepts.map eB))]:=by
 refine fL 81 12 (JbU b2_0_ b4_0_ b6_1_ b9_ o7_ o8_ o10_) Try.func74 (sr (ck 1 (en (sr (ck 3 (sF (bx H λ r58 h194 H=>lt [6,9,10,11] (FW h194) (ck 5 (en (sj (λ (x:(Int×(List (List UInt8))×(List (List UInt8))))=>JbV b2_0_ b6_1_ b9_ o10_ r58 x.1 x.2.1 x.2.2) (λ (x:(Int×(List (List UInt8))×(List (List UInt8))))=>Bh n b2_0_ b6_1_ b9_ o10_ r58 x.1 x.2.1 x.2.2) z ?_ (λ hFRb_reading_texts_1x_J1=>?_)))))))))))
 ·rintro ⟨x_85,x_86,x_87⟩ H
  refine sr (ck 4 (en (bk 0 (bx H λ y53 h206 H=>?_))))
  rcases y53 with y54|y55
  ·exact lX Ea h206 (sg [0,1,3,6]) rfl λ s hE44=>qH (by cases H;exact pL' (rl (s':=Lo b2_0_ b6_1_ b9_ o10_ 0 y54.1 y54.2.1 y54.2.2) (tr (hE44) (sg []))))
  ·exact lL Ea h206 (sg [0,1,3,6]) rfl λ s hE45=>qR (by cases H;exact pL hE45)
 refine sr (ck 3 (gsp r58.2 H (λ hg H=>?_) (λ hg H=>?_)))
 ·refine bx H λ r63 h207 H=>xy (xok _ _) hg (CF (λ hh=>hh) (EO)) [0,2,3,4,5,7,8] (Ln h207) rfl (gc 1 r58.2 (pA (en (cnh H (λ hc96 H=>?_) (λ hc96 H=>?_)))))
  ·exact re (qr (by cases H;exact pL (rl (s':=Lo b2_0_ b6_1_ b9_ o10_ r63.1 r63.2.1 r63.2.2.1 r63.2.2.2) (sg []))))
  ·exact sk (qs (tr (tr (Vn 0 (jb1 hg hc96) (by kernel_rfl)) (Av.nilo 3 1 (by kernel_rfl))) (sg [0,1,3,4])) (hFRb_reading_texts_1x_J1 (r63.2.1,r63.2.2.1,r63.2.2.2) H))
 ·refine gsk hg (.d (.bool false)) (gc 1 r58.2 (pA (en (cn H (λ H=>?_) (λ H=>?_)))))
  ·exact re (qr (by cases H;exact pL (rl (s':=Lo b2_0_ b6_1_ b9_ o10_ 0 b4_0_ o7_ o8_) (tr (tr (BP (k:=7) (sz:=1) 3 0 (o7_.map eS) (o7_.length) (by kernel_rfl) Bk leM rfl) (BP (k:=8) (sz:=1) 5 0 (o8_.map eS) (o8_.length) (by kernel_rfl) Bk leM rfl)) (sg [])))))
  ·exact sk (qs (tr (tr (tr (Av.nilo 3 1 (by kernel_rfl)) (BP (k:=7) (sz:=1) 3 0 (o7_.map eS) (o7_.length) (by kernel_rfl) Bk leM rfl)) (BP (k:=8) (sz:=1) 5 0 (o8_.map eS) (o8_.length) (by kernel_rfl) Bk leM rfl)) (sg [0,1,3,4])) (hFRb_reading_texts_1x_J1 (b4_0_,o7_,o8_) H))
end
section
variable (p0_:Ab) (p1_:(List Int)) (p2_:Int)
def Jf0:St:=⟨(0,.agg [.d (.int .i64 p0_.Modes),.d (.int .u8 p0_.Accept),.d (.sl (p0_.Rules.map Ar))])::(1,.d (.sl (p1_.map eU8)))::(2,.d (.int .i64 p2_))::[],[]⟩
variable {p0_ p1_ p2_}
theorem Hn {z} (H:Ep n p0_ p1_ p2_=some z):AL Try.prog 43 [.agg (AG p0_),.d (.sl (p1_.map eU8)),.d (.int .i64 p2_)] (.tup [.own 1 (z.1.map eS),.d (.int .i64 z.2)]):=by
 refine fO 35 (Jf0 p0_ p1_ p2_) Try.func43 (sr (ck 4 (en (sq (sr (ck 2 (en (cn H (λ H=>?_) (λ H=>?_)))))))))
 ·exact sr (ck 2 (en (re (qr (by cases H;exact pr (rT (vs:=[.d (.nil),.d (.int .i64 1)]) [] (t1 (ad vz) (t1 (ad vd) (t0)))))))))
 ·refine sk (qz (sq (sr (ck 1 (bx H λ r64 h208 H=>ca false (JV h208) (ck 1 (en (cn H (λ H=>?_) (λ H=>?_)))))))))
  ·exact sr (ck 2 (en (re (qr (by cases H;exact pr (rT (vs:=[.d (.nil),.d (.int .i64 0)]) [] (t1 (ad vz) (t1 (ad vd) (t0)))))))))
  ·refine sk (qz (sr (ck 2 (bx H λ r65 h209 H=>lt [] (Ir h209) (ck 5 (en (sr (ck 1 (en (sq (sr (ck 1 (bx H λ r66 h210 H=>lt [4,5,6,7] (GP h210) (en (bk 0 (wsh (tr (Co 2 0 1 (by kernel_rfl)) (Co 8 0 1 (by kernel_rfl))) (bx H λ r67 h211 H=>rf [.ret] [5,6,7,10] [12,9,1,2,3,8,4,10,11,5,6,7] r67.1 (Jk h211) rfl (jn H (λ H=>?_) (λ H=>?_)))))))))))))))))))
   ·exact qN (qz (sr (ck 3 (en (re (by cases H;exact pr (rT (vs:=[.osl 14 1 0 (r67.2.2.2.length),.d (.int .i64 0)]) [14] (t1 (ao vo) (t1 (ad vd) (t0))))))))))
   ·refine jr 0 H (λ H=>?_) (λ H=>?_)
    ·exact qR (qr (by cases H;exact pr (rT (vs:=[.osl 13 1 0 (r67.2.2.1.length),.d (.int .i64 r67.2.1)]) [13] (t1 (ao vo) (t1 (ad vd) (t0))))))
    ·cases H
end
section
variable (p0_:(List (List UInt8))) (p1_:(List (List UInt8))) (i_3:Int)
def Jf1:St:=⟨(0,.d (.sl (p0_.map eS)))::(1,.d (.sl (p1_.map eS)))::[],[]⟩
def Jf2:St:=⟨(0,.d (.sl (p0_.map eS)))::(1,.d (.sl (p1_.map eS)))::(5,.d (.int .i64 i_3))::[],[]⟩
def Jf3:St:=⟨[],[]⟩
def Oj:(Unit⊕Bool)->Ex->St->Prop:=xS (xX 0 0 (λ (y:Unit)=>Jf3)) (xR ty Try.f45 (λ (y:Bool)=>.d (.bool y)))
def Jl:Int->St:=(λ (x:Int)=>Jf2 p0_ p1_ x)
variable {p0_ p1_ i_3}
theorem Iu (x:Int) (z:(Int⊕(Unit⊕Bool))) (H:FF n p0_ p1_ x=some z):WP (cxk 26 0) (Az Try.f45) [1,1,0,1,0,0] (AE 0 (Jl p0_ p1_) (Oj) z) (Jl p0_ p1_ x):=by
 revert H
 generalize x=i_3
 intro H
 refine sq (sr (ck 2 (sp (AA eS p0_) (ck 1 (en (cn H (λ H=>?_) (λ H=>?_)))))))
 ·refine sk (qz (sq (bk 1 (sr (ck 2 (bx H λ x57 h212 H=>sp (AH eS h212) (ck 3 (bx H λ x58 h213 H=>sp (AH eS h213) (ck 2 (en (cn H (λ H=>?_) (λ H=>?_))))))))))))
  ·exact sr (ck 1 (en (re (qR (qr (by cases H;exact ro rfl rd))))))
  ·exact sk (qN (qz (rz (ck 3 (ae (by cases H;exact og (sg [0,1,5])))))))
 ·exact ex 0 (qx (by cases H;exact xo rfl (sg [])))
theorem Q4 {z} (H:Ik n p0_ p1_=some z):AL Try.prog 45 [.d (.sl (p0_.map eS)),.d (.sl (p1_.map eS))] (.d (.bool z)):=by
 refine fO 26 (Jf1 p0_ p1_) Try.func45 (sr (ck 1 (en (sq (sr (ck 1 (sp (AA eS p0_) (ck 1 (sp (AA eS p1_) (ck 1 (en (cn H (λ H=>?_) (λ H=>?_)))))))))))))
 ·exact sr (ck 1 (en (re (qr (by cases H;exact pr rd)))))
 ·refine sk (qz (sq (sr (ck 1 (en (bk 0 (bx H λ y56 h214 H=>?_)))))))
  rcases y56 with y57|y58
  ·exact lX Iu h214 (sg [0,1,5]) rfl λ s hE46=>qH (qs (hE46) (sr (ck 1 (en (re (by cases H;exact pr rd))))))
  ·exact lR Iu h214 (sg [0,1,5]) rfl λ s hE47=>qR (qr (by cases H;exact pr hE47))
end
section
variable (p0_:Ab) (p1_:(List Int))
def Jf4:St:=⟨(0,.agg [.d (.int .i64 p0_.Modes),.d (.int .u8 p0_.Accept),.d (.sl (p0_.Rules.map Ar))])::(1,.d (.sl (p1_.map eU8)))::[],[]⟩
variable {p0_ p1_}
theorem Lp {z} (H:Gz n p0_ p1_=some z):AL Try.prog 46 [.agg (AG p0_),.d (.sl (p1_.map eU8))] (.d (.bool z)):=by
 refine fO 21 (Jf4 p0_ p1_) Try.func46 (sr (ck 2 (en (sq (sr (ck 1 (bx H λ r68 h215 H=>ca false (JV h215) (ck 1 (en (cn H (λ H=>?_) (λ H=>?_)))))))))))
 ·exact sr (ck 1 (en (re (qr (by cases H;exact pr rd)))))
 ·exact sk (qz (sr (ck 1 (bx H λ r69 h216 H=>lt [] (Kq h216) (ck 1 (bx H λ r70 h217 H=>lt [1,2] (HO h217) (tb (f:=HC (DW [1,2] 3 2)) [some (.box (AG p0_)),some (.box (Ai r69 (.osl 2 1 0 (r69.Accepts.length)))),some (.arr 1 (r69.Accepts.map eB)),some (.narr 1 (r70.1.map (eTg 1 Ap)))] (po1 (po1 (po1 (pn1 (eTg 1 Ap) r70.1 (Pl.z))))) (ck 5 (en (sr (ck 2 (sp (AA eU8 p1_) (ck 2 (en (re (by cases H;exact pr rd))))))))))))))))
end
def Jf5:St:=⟨[],[]⟩
theorem R7 {z} (H:HL n=some z):AL Try.prog 39 [] (.d (.bool z)):=by
 exact fO 119 Jf5 Try.func39 (sr (ck 1 (en (sr (bx H λ r71 h218 H=>ca false (R4 h218) (ck 2 (en (sr (ck 2 (bx H λ r72 h219 H=>cb (ks:=[1]) (obl:=[(0+List.length [1,3],List.length (List.map eU8 [1,3]))]) false (leK leM (leZ)) (DR rfl (DR Np rfl)) (Is h219) (Or.inr ⟨trivial,⟨trivial,⟨trivial,trivial⟩⟩⟩) rfl (ck 7 (en (sr (ck 2 (bx H λ r73 h220 H=>cb (ks:=[2]) (obl:=[(0+List.length [1,5],List.length (List.map eU8 [1,5]))]) false (leK leM (leZ)) (DR rfl (DR Np rfl)) (Is h220) (Or.inr ⟨trivial,⟨trivial,⟨trivial,trivial⟩⟩⟩) rfl (ck 7 (en (sr (ck 1 (bx H λ r74 h221 H=>ca false (Is h221) (ck 7 (en (sr (ck 2 (bx H λ r75 h222 H=>cb (ks:=[3]) (obl:=[(0+List.length [1,1],List.length (List.map eU8 [1,1]))]) false (leK leM (leZ)) (DR rfl (DR Np (DR rfl rfl))) (Hn h222) (Or.inr ⟨(Jh2 λ _=>rfl),⟨trivial,trivial⟩⟩) rfl (ck 5 (en (sr (ck 2 (bx H λ r76 h223 H=>cb (ks:=[4]) (obl:=[(0+List.length [1,1],List.length (List.map eU8 [1,1]))]) false (leK leM (leZ)) (DR rfl (DR Np (DR rfl rfl))) (Hn h223) (Or.inr ⟨(Jh2 λ _=>rfl),⟨trivial,trivial⟩⟩) rfl (ck 5 (en (sr (ck 1 (bx H λ r77 h224 H=>ca false (Hn h224) (ck 5 (en (sr (ck 4 (gc 1 (r72.2.2==0) (pA (ck 2 (gc 1 ((r72.2.2==0)&&(r73.2.2==40)) (pA (ck 2 (gc 1 (((r72.2.2==0)&&(r73.2.2==40))&&(r74.2.2==0)) (pA (ck 2 (gc 1 ((((r72.2.2==0)&&(r73.2.2==40))&&(r74.2.2==0))&&(r75.2==0)) (pA (ck 2 (gc 1 (((((r72.2.2==0)&&(r73.2.2==40))&&(r74.2.2==0))&&(r75.2==0))&&(r76.2==2)) (pA (ck 1 (en (sr (ck 3 (gc 1 ((((((r72.2.2==0)&&(r73.2.2==40))&&(r74.2.2==0))&&(r75.2==0))&&(r76.2==2))&&(r77.2==1)) (pA (ck 2 (gc 1 (((((((r72.2.2==0)&&(r73.2.2==40))&&(r74.2.2==0))&&(r75.2==0))&&(r76.2==2))&&(r77.2==1))&&(r72.1==[97,98])) (pA (ck 2 (gc 1 ((((((((r72.2.2==0)&&(r73.2.2==40))&&(r74.2.2==0))&&(r75.2==0))&&(r76.2==2))&&(r77.2==1))&&(r72.1==[97,98]))&&(r72.2.1==2)) (pA (ck 2 (gc 1 (((((((((r72.2.2==0)&&(r73.2.2==40))&&(r74.2.2==0))&&(r75.2==0))&&(r76.2==2))&&(r77.2==1))&&(r72.1==[97,98]))&&(r72.2.1==2))&&(r73.1==[])) (pA (ck 2 (gc 1 ((((((((((r72.2.2==0)&&(r73.2.2==40))&&(r74.2.2==0))&&(r75.2==0))&&(r76.2==2))&&(r77.2==1))&&(r72.1==[97,98]))&&(r72.2.1==2))&&(r73.1==[]))&&(r73.2.1==1)) (pA (ck 2 (gc 1 (((((((((((r72.2.2==0)&&(r73.2.2==40))&&(r74.2.2==0))&&(r75.2==0))&&(r76.2==2))&&(r77.2==1))&&(r72.1==[97,98]))&&(r72.2.1==2))&&(r73.1==[]))&&(r73.2.1==1))&&(r74.1==[])) (pA (ck 3 (bx H λ r78 h225 H=>cG (ks:=[5]) (obl:=[(0+List.length ([[97,97],[97,98,97],[98,97,97],[98,97,98,97]]),List.length (List.map eS ([[97,97],[97,98,97],[98,97,97],[98,97,98,97]])))]) false (leK leM (leZ)) (DR rfl (DR Np rfl)) (λ hg=>Q4 (Dj h225 hg)) (Or.inr trivial) (CF (λ hh=>hh) (CF (λ hh=>hh) (EO))) rfl (pA (ck 3 (bx H λ r79 h226 H=>cG (ks:=[6]) (obl:=[(0+List.length [7,7],List.length (List.map eU8 [7,7]))]) false (leK leM (leZ)) (DR rfl (DR Np rfl)) (λ hg=>Lp (Dj h226 hg)) (Or.inr trivial) (CF (λ hh=>hh) (CF (λ hh=>hh) (EO))) rfl (pA (ck 3 (bx H λ r80 h227 H=>cG (ks:=[7]) (obl:=[(0+List.length [2],List.length (List.map eU8 [2]))]) false (leK leM (leZ)) (DR rfl (DR Np rfl)) (λ hg=>Lp (Dj h227 hg)) (Or.inr trivial) (CF (λ hh=>hh) (CF (λ hh=>hh) (EO))) rfl (gc 1 ((((((((((((((r72.2.2==0)&&(r73.2.2==40))&&(r74.2.2==0))&&(r75.2==0))&&(r76.2==2))&&(r77.2==1))&&(r72.1==[97,98]))&&(r72.2.1==2))&&(r73.1==[]))&&(r73.2.1==1))&&(r74.1==[]))&&(r74.2.1==0))&&r78)&&r79) (pA (ck 1 (en (re (by cases H;exact pr rd))))))))))))))))))))))))))))))))))))))))))))))))))))))))))))))))))))))))))))))))))))))))
section
variable (p0_:(List UInt8)) (p1_:(List Int)) (p2_:(Fy Int))
def Jf6:St:=⟨(0,.d (.str p0_))::(1,.d (.sl (p1_.map eU8)))::(2,.agg [.d (.int .i64 p2_.a0),.d (.int .i64 p2_.a1)])::[],[]⟩
variable {p0_ p1_ p2_}
theorem AM {z} (H:A4 n p0_ p1_ p2_=some z):AL Try.prog 68 [.d (.str p0_),.d (.sl (p1_.map eU8)),.agg [.d (.int .i64 p2_.a0),.d (.int .i64 p2_.a1)]] (.agg [.d (.str z.Print),.d (.sl (z.Cells.map eU8)),.d (.int .u8 z.Left),.d (.int .u8 z.Right),.d (.int .i64 z.From),.d (.int .i64 z.To)]):=by
 exact fO 14 (Jf6 p0_ p1_ p2_) Try.func68 (sr (ck 2 (en (sr (ck 8 (en (re (by cases H;exact pr rd))))))))
end
def Jf7:St:=⟨[],[]⟩
theorem Q5 {z} (H:O6 n=some z):AL Try.prog 66 [] (.own 6 (z.map Ar)):=by
 exact fO 16 Jf7 Try.func66 (sr (ck 1 (en (sr (ck 3 (en (sr (sF (ck 1 (bx H λ r81 h228 H=>ca false (AM h228) (sF (ck 1 (bx H λ r82 h229 H=>ca false (AM h229) (sF (ck 1 (bx H λ r83 h230 H=>ca false (AM h230) (sF (ck 1 (bx H λ r84 h231 H=>ca false (AM h231) (ck 2 (en (re (by cases H;exact pr (rO (v:=.osl 1 6 0 (List.length [r81,r82,r83,r84])) [1] (ao vo)))))))))))))))))))))))))
section
variable (p0_:Int) (p1_:Int) (p2_:(Fy Int))
def Jf8:St:=⟨(0,.d (.int .u8 p0_))::(1,.d (.int .i64 p1_))::(2,.agg [.d (.int .i64 p2_.a0),.d (.int .i64 p2_.a1)])::[],[]⟩
variable {p0_ p1_ p2_}
theorem Gi {z} (H:Gq n p0_ p1_ p2_=some z):AL Try.prog 67 [.d (.int .u8 p0_),.d (.int .i64 p1_),.agg [.d (.int .i64 p2_.a0),.d (.int .i64 p2_.a1)]] (.agg [.d (.str z.Print),.d (.sl (z.Cells.map eU8)),.d (.int .u8 z.Left),.d (.int .u8 z.Right),.d (.int .i64 z.From),.d (.int .i64 z.To)]):=by
 exact fO 16 (Jf8 p0_ p1_ p2_) Try.func67 (sr (ck 2 (en (sr (ck 1 (sF (ck 1 (bx H λ r85 h232 H=>ca false (AM h232) (ck 2 (en (sr (ck 1 (bx H λ gd3 h233 H=>so (I3 h233) (ck 2 (en (sr (ck 2 (en (re (by cases H;exact pr rd))))))))))))))))))))
end
section
variable (p0_:Int) (l_7:(List Au))
def Jf9:St:=⟨(0,.d (.int .u8 p0_))::[],[]⟩
def Jga:St:=⟨(2,.ptr 0 0)::(3,.osl 1 6 0 (l_7.length))::[],[some (.box [.d (.int .i64 0),.d (.int .u8 0),.osl 2 6 0 (List.length ([]:List Au))]),some (.arr 6 (l_7.map Ar)),some (.arr 6 (List.map Ar ([]:List Au)))]⟩
variable {p0_ l_7}
theorem Vw {z} (H:Ja n p0_=some z):AL Try.prog 50 [.d (.int .u8 p0_)] (.agg [.d (.int .i64 z.Modes),.d (.int .u8 z.Accept),.own 6 (z.Rules.map Ar)]):=by
 refine fO 121 (Jf9 p0_) Try.func50 (sr (ck 1 (en (sr (bx H λ r86 h234 H=>cl [List.length r86] (Q5 h234) (ck 13 (en (sj (λ (x:(List Au))=>Jga x) (λ (x:(List Au))=>Fj n x) z ?_ (λ hFR2_Base_J1=>?_)))))))))
 ·intro l_7 H
  exact sr (ck 3 (en (re (by cases H;exact pr (rO (v:=.agg [.d (.int .i64 1),.d (.int .u8 1),.osl 1 6 0 (l_7.length)]) [1] (a1 (c1 vd (c1 vd (c1 vo (c0))))))))))
 refine sr (ck 2 (en (bk 0 (sr (ck 2 (en (cn H (λ H=>?_) (λ H=>?_))))))))
 ·exact sr (ck 2 (bx H λ r87 h235 H=>ca false (Gi h235) (sF (ck 1 (bx H λ r88 h236 H=>ca false (AM h236) (sF (ck 1 (bx H λ r89 h237 H=>ca false (AM h237) (sF (ck 1 (bx H λ r90 h238 H=>ca false (AM h238) (ck 1 (bx H λ l41 h239 H=>sp (Bd Ar 1 6 h239) (ck 1 (en (sr (ck 3 (en (re (qR (qr (by cases H;exact pr (rO (v:=.agg [.d (.int .i64 2),.d (.int .u8 3),.osl 7 6 0 (l41.length)]) [7] (a1 (c1 vd (c1 vd (c1 vo (c0))))))))))))))))))))))))))))
 ·refine sr (ck 2 (en (cn H (λ H=>?_) (λ H=>?_))))
  ·exact sr (ck 2 (bx H λ r91 h240 H=>ca false (Gi h240) (sF (ck 1 (bx H λ r92 h241 H=>ca false (AM h241) (sF (ck 1 (bx H λ r93 h242 H=>ca false (AM h242) (ck 1 (bx H λ l42 h243 H=>sp (Bd Ar 1 6 h243) (ck 1 (en (sr (ck 3 (en (re (qR (qr (by cases H;exact pr (rO (v:=.agg [.d (.int .i64 2),.d (.int .u8 1),.osl 7 6 0 (l42.length)]) [7] (a1 (c1 vd (c1 vd (c1 vo (c0)))))))))))))))))))))))))
  ·refine sr (ck 2 (en (cn H (λ H=>?_) (λ H=>?_))))
   ·exact rz (ck 1 (sF (ck 1 (bx H λ r94 h244 H=>ca false (AM h244) (sF (ck 1 (bx H λ r95 h245 H=>ca false (AM h245) (sF (ck 1 (bx H λ r96 h246 H=>ca false (AM h246) (ck 1 (bx H λ l43 h247 H=>sp (Bd Ar 1 6 h247) (ck 1 (ae (qN (qs (tr (Co 0 2 6 (by kernel_rfl)) (sg [2,3])) (hFR2_Base_J1 l43 H)))))))))))))))))
   ·refine sr (ck 2 (en (cn H (λ H=>?_) (λ H=>?_))))
    ·exact rz (ck 1 (sF (ck 1 (bx H λ r97 h248 H=>ca false (AM h248) (ck 1 (bx H λ l44 h249 H=>sp (Bd Ar 1 6 h249) (ck 1 (ae (qN (qs (tr (Co 0 2 6 (by kernel_rfl)) (sg [2,3])) (hFR2_Base_J1 l44 H)))))))))))
    ·refine sr (ck 2 (en (cn H (λ H=>?_) (λ H=>?_))))
     ·exact sr (sF (ck 1 (bx H λ r98 h250 H=>ca false (AM h250) (sF (ck 1 (bx H λ r99 h251 H=>ca false (AM h251) (ck 4 (en (sr (ck 4 (en (rz (ck 3 (sF (ck 1 (bx H λ r100 h252 H=>ca false (AM h252) (ck 1 (bx H λ l45 h253 H=>sp (Bd Ar 1 6 h253) (ck 1 (ae (qN (qs (tr (Co 0 2 6 (by kernel_rfl)) (sg [2,3])) (hFR2_Base_J1 l45 H)))))))))))))))))))))))
     ·refine sr (ck 2 (en (cn H (λ H=>?_) (λ H=>?_))))
      ·exact sr (ck 2 (bx H λ r101 h254 H=>ca false (Gi h254) (sF (ck 1 (bx H λ r102 h255 H=>ca false (AM h255) (sF (ck 1 (bx H λ r103 h256 H=>ca false (AM h256) (ck 1 (bx H λ l46 h257 H=>sp (Bd Ar 1 6 h257) (ck 1 (en (sr (ck 3 (en (re (qR (qr (by cases H;exact pr (rO (v:=.agg [.d (.int .i64 2),.d (.int .u8 1),.osl 7 6 0 (l46.length)]) [7] (a1 (c1 vd (c1 vd (c1 vo (c0)))))))))))))))))))))))))
      ·refine sr (ck 2 (en (cn H (λ H=>?_) (λ H=>?_))))
       ·exact rz (ck 1 (sF (ck 1 (bx H λ r104 h258 H=>ca false (AM h258) (sF (ck 1 (bx H λ r105 h259 H=>ca false (AM h259) (sF (ck 1 (bx H λ r106 h260 H=>ca false (AM h260) (ck 1 (bx H λ l47 h261 H=>sp (Bd Ar 1 6 h261) (ck 1 (ae (qN (qs (tr (Co 0 2 6 (by kernel_rfl)) (sg [2,3])) (hFR2_Base_J1 l47 H)))))))))))))))))
       ·exact sk (qN (qs (tr (Co 0 2 6 (by kernel_rfl)) (sg [2,3])) (hFR2_Base_J1 r86 H)))
end
section
variable (p0_:Dl) (p1_:Int) (out_1:Au) (i_4:Int) (out_2:Au) (out_3:Au) (i_5:Int) (out_4:Au)
def Jgb:St:=⟨(0,.agg [.d (.sl (p0_.P.map eU8)),.d (.sl (p0_.C.map eU8)),.d (.int .u8 p0_.L),.d (.int .u8 p0_.R),.d (.int .u8 p0_.W.a0),.d (.int .u8 p0_.W.a1)])::(1,.d (.int .i64 p1_))::[],[]⟩
def Jgc:St:=⟨(2,.ptr 0 0)::(4,.ptr 1 0)::(5,.d (.str [97,98,99,65,66,49,50,45,46]))::(7,.ptr 2 0)::(8,.d (.int .i64 i_4))::[],[some (.box (Ny p0_)),some (.box [.d (.str []),.osl 3 1 0 (List.length ([]:List Int)),.d (.int .u8 0),.d (.int .u8 0),.d (.int .i64 0),.d (.int .i64 0)]),some (.box (PP out_1 (.osl 4 1 0 (out_1.Cells.length)))),some (.arr 1 (List.map eU8 ([]:List Int))),some (.arr 1 (out_1.Cells.map eU8))]⟩
def Jgd:St:=⟨(2,.ptr 0 0)::(4,.ptr 1 0)::(7,.ptr 2 0)::[],[some (.box (Ny p0_)),some (.box [.d (.str []),.osl 3 1 0 (List.length ([]:List Int)),.d (.int .u8 0),.d (.int .u8 0),.d (.int .i64 0),.d (.int .i64 0)]),some (.box (PP out_2 (.osl 4 1 0 (out_2.Cells.length)))),some (.arr 1 (List.map eU8 ([]:List Int))),some (.arr 1 (out_2.Cells.map eU8))]⟩
def R8:Au->Ex->St->Prop:=xX 0 0 (λ (y:Au)=>Jgd p0_ y)
def Mg:(Au×Int)->St:=(λ (x:(Au×Int))=>Jgc p0_ x.1 x.2)
def Jge:St:=⟨(2,.ptr 0 0)::(4,.ptr 1 0)::(7,.ptr 2 0)::(10,.osl 3 1 0 (List.length [1,3,9,5,7,32,44,60]))::(11,.d (.int .i64 i_5))::[],[some (.box (Ny p0_)),some (.box [.d (.str []),.osl 4 1 0 (List.length ([]:List Int)),.d (.int .u8 0),.d (.int .u8 0),.d (.int .i64 0),.d (.int .i64 0)]),some (.box (PP out_3 (.osl 5 1 0 (out_3.Cells.length)))),some (.arr 1 (List.map eU8 [1,3,9,5,7,32,44,60])),some (.arr 1 (List.map eU8 ([]:List Int))),some (.arr 1 (out_3.Cells.map eU8))]⟩
def Jgf:St:=⟨(4,.ptr 0 0)::(7,.ptr 1 0)::[],[some (.box [.d (.str []),.osl 2 1 0 (List.length ([]:List Int)),.d (.int .u8 0),.d (.int .u8 0),.d (.int .i64 0),.d (.int .i64 0)]),some (.box (PP out_4 (.osl 3 1 0 (out_4.Cells.length)))),some (.arr 1 (List.map eU8 ([]:List Int))),some (.arr 1 (out_4.Cells.map eU8))]⟩
def R9:Au->Ex->St->Prop:=xX 0 2 (λ (y:Au)=>Jgf y)
def Mh:(Au×Int)->St:=(λ (x:(Au×Int))=>Jge p0_ x.1 x.2)
variable {p0_ p1_ out_1 i_4 out_2 out_3 i_5 out_4}
theorem Q6 (x:(Au×Int)) (z:((Au×Int)⊕Au)) (H:Fk n p0_ x.1 x.2=some z):WP (cxk 101 0) (Az Try.f37) [1,1,1,0,1,0,0] (AE 0 (Mg p0_) (R8 p0_) z) (Mg p0_ x):=by
 obtain ⟨out_1,i_4⟩:=x
 refine sq (sr (ck 3 (sp (AA eU8 p0_.P) (ck 3 (gc 1 (decide (i_4<((p0_.P.length:Nat):Int))) (pA (en (cn H (λ H=>?_) (λ H=>?_)))))))))
 ·exact sk (qz (sq (bk 1 (sr (ck 3 (bx H λ x61 h266 H=>sp (AH eU8 h266) (ck 4 (en (rz (ck 6 (bx H λ s5 h267 H=>sp (XA h267) (bx H λ s6 h268 H=>sp (Jai h268) (ck 2 (ae (qN (qz (rz (ck 3 (ae (by cases H;exact og (sg [2,4,5,7,8])))))))))))))))))))))
 ·exact ex 0 (qx (by cases H;exact xo rfl (sg [2,4,7])))
theorem Q7 (x:(Au×Int)) (z:((Au×Int)⊕Au)) (H:Fl n p0_ x.1 x.2=some z):WP (cxk 101 0) (Az Try.f37) [1,1,1,1,1,1,0,1,0,0] (AE 0 (Mh p0_) (R9) z) (Mh p0_ x):=by
 obtain ⟨out_3,i_5⟩:=x
 refine sq (sr (ck 3 (sp (AA eU8 p0_.C) (ck 3 (gc 1 (decide (i_5<((p0_.C.length:Nat):Int))) (pA (en (cn H (λ H=>?_) (λ H=>?_)))))))))
 ·exact sk (qz (sq (bk 3 (rz (ck 6 (bx H λ x63 h271 H=>sp (AH eU8 h271) (ck 2 (bx H λ x64 h272 H=>sp (A3 3 1 h272) (sp (CN eU8 3 0 (ty 64) h272) (ck 1 (bx H λ l48 h273 H=>sp (Bd eU8 5 1 h273) (ck 2 (ae (qN (qz (rz (ck 3 (ae (by cases H;exact og (sg [2,4,7,10,11]))))))))))))))))))))
 ·exact ex 2 (qx (by cases H;exact xo rfl (sg [4,7])))
theorem Vx {z} (H:Nu n p0_ p1_=some z):AL Try.prog 37 [.agg (Ny p0_),.d (.int .i64 p1_)] (.agg [.d (.str z.Print),.own 1 (z.Cells.map eU8),.d (.int .u8 z.Left),.d (.int .u8 z.Right),.d (.int .i64 z.From),.d (.int .i64 z.To)]):=by
 exact fO 101 (Jgb p0_ p1_) Try.func37 (sr (ck 2 (en (sr (ck 3 (en (sr (ck 4 (bx H λ x59 h262 H=>sp (A3 2 1 h262) (sp (CN eU8 2 0 (ty 5) h262) (ck 4 (bx H λ x60 h263 H=>sp (A3 2 1 h263) (sp (CN eU8 2 0 (ty 5) h263) (ck 5 (bx H λ gd4 h264 H=>so (QL h264) (ck 5 (bx H λ gd5 h265 H=>so (QL h265) (ck 3 (en (sq (sr (ck 1 (en (bk 0 (bx H λ y59 h269 H=>lX Q6 h269 (tr (tr (Co 1 1 1 (by kernel_rfl)) (Co 3 1 1 (by kernel_rfl))) (sg [2,4,5,7,8])) rfl λ s hE48=>qH (qs (hE48) (sr (ck 2 (en (sr (ck 5 (bx H λ x62 h270 H=>sp (A3 5 1 h270) (sp (CN eU8 5 0 (ty 64) h270) (ck 3 (en (sq (sr (ck 1 (en (bk 2 (bx H λ y60 h274 H=>lX Q7 h274 (sg [2,4,7,10,11]) rfl λ s hE49=>qH (qs (hE49) (sr (ck 2 (en (re (by cases H;exact pr (rO (v:=.agg [.d (.str z.Print),.osl 3 1 0 (z.Cells.length),.d (.int .u8 z.Left),.d (.int .u8 z.Right),.d (.int .i64 z.From),.d (.int .i64 z.To)]) [3] (a1 (c1 vd (c1 vo (c1 vd (c1 vd (c1 vd (c1 vd (c0))))))))))))))))))))))))))))))))))))))))))))))))))))))))
end
section
variable (p0_:Int)
def Jgg:St:=⟨(0,.d (.int .u8 p0_))::[],[]⟩
variable {p0_}
theorem Ol {z} (H:IE n p0_=some z):AL Try.prog 69 [.d (.int .u8 p0_)] (.d (.bool z)):=by
 exact fO 11 (Jgg p0_) Try.func69 (sr (ck 1 (en (sr (ck 5 (gc 2 (decide (Cv .u8 p0_ 127>=32)) (pA (ck 1 (en (re (by cases H;exact pr rd)))))))))))
end
section
variable (p0_:(List UInt8)) (i_6:Int)
def Jgh:St:=⟨(0,.d (.str p0_))::[],[]⟩
def Jgi:St:=⟨(0,.d (.str p0_))::(4,.d (.int .i64 i_6))::[],[]⟩
def Jgj:St:=⟨(0,.d (.str p0_))::[],[]⟩
def Sa:(Unit⊕(Int×Int))->Ex->St->Prop:=xS (xX 0 0 (λ (y:Unit)=>Jgj p0_)) (xR ty Try.f56 (λ (y:(Int×Int))=>.tup [.d (.int .i64 y.1),.d (.int .i64 y.2)]))
def Mi:Int->St:=(λ (x:Int)=>Jgi p0_ x)
variable {p0_ i_6}
theorem Lq (x:Int) (z:(Int⊕(Unit⊕(Int×Int)))) (H:Il n p0_ x=some z):WP (cxk 19 0) (Az Try.f56) [1,0,1,0,0] (AE 0 (Mi p0_) (Sa p0_) z) (Mi p0_ x):=by
 revert H
 generalize x=i_6
 intro H
 refine sq (sr (ck 4 (en (cn H (λ H=>?_) (λ H=>?_)))))
 ·refine sk (qz (sq (bk 1 (sr (ck 2 (bx H λ b8 h275 H=>sp (Gn h275) (bx H λ r107 h276 H=>ca false (Ol h276) (ck 1 (en (cn H (λ H=>?_) (λ H=>?_)))))))))))
  ·exact sr (ck 3 (en (re (qR (qr (by cases H;exact ro rfl rdT))))))
  ·exact sk (qN (qz (rz (ck 3 (ae (by cases H;exact og (sg [0,4])))))))
 ·exact ex 0 (qx (by cases H;exact xo rfl (sg [0])))
theorem Vy {z} (H:Nv n p0_=some z):AL Try.prog 56 [.d (.str p0_)] (.tup [.d (.int .i64 z.1),.d (.int .i64 z.2)]):=by
 refine fO 19 (Jgh p0_) Try.func56 (sr (ck 2 (en (sq (sr (ck 1 (en (bk 0 (bx H λ y61 h277 H=>?_)))))))))
 rcases y61 with y62|y63
 ·exact lX Lq h277 (sg [0,4]) rfl λ s hE50=>qH (qs (hE50) (sr (ck 4 (en (re (by cases H;exact pr rdT))))))
 ·exact lR Lq h277 (sg [0,4]) rfl λ s hE51=>qR (qr (by cases H;exact pr hE51))
end
section
variable (p0_:(List UInt8))
def Jgk:St:=⟨(0,.d (.str p0_))::[],[]⟩
variable {p0_}
theorem Sb {z} (H:JS n p0_=some z):AL Try.prog 36 [.d (.str p0_)] (.d (.bool z)):=by
 exact fO 12 (Jgk p0_) Try.func36 (sr (ck 1 (en (sr (ck 1 (bx H λ r108 h278 H=>ca false (Vy h278) (ck 5 (en (sr (ck 3 (en (re (by cases H;exact pr rd)))))))))))))
end
section
variable (p0_:Int)
def Jgl:St:=⟨(0,.d (.int .u8 p0_))::[],[]⟩
variable {p0_}
theorem TW {z} (H:Od n p0_=some z):AL Try.prog 35 [.d (.int .u8 p0_)] (.d (.bool z)):=by
 exact fO 6 (Jgl p0_) Try.func35 (sr (ck 1 (en (sr (ck 4 (en (re (by cases H;exact pr rd))))))))
end
section
variable (p0_:Au) (p1_:Int) (space_1:Bool) (i_7:Int) (space_2:Bool) (y64:Bool) (blank_1:Bool) (i_8:Int) (blank_2:Bool)
def Jgm:St:=⟨(0,.agg [.d (.str p0_.Print),.d (.sl (p0_.Cells.map eU8)),.d (.int .u8 p0_.Left),.d (.int .u8 p0_.Right),.d (.int .i64 p0_.From),.d (.int .i64 p0_.To)])::(1,.d (.int .i64 p1_))::[],[]⟩
def Jgn:St:=⟨(2,.ptr 0 0)::(5,.d (.bool space_1))::(6,.d (.bool false))::(7,.d (.int .i64 i_7))::[],[some (.box (K3 p0_))]⟩
def Jgo:St:=⟨(2,.ptr 0 0)::(5,.d (.bool space_2))::(6,.d (.bool false))::[],[some (.box (K3 p0_))]⟩
def Q8:Bool->Ex->St->Prop:=xX 0 0 (λ (y:Bool)=>Jgo p0_ y)
def Lr:(Bool×Int)->St:=(λ (x:(Bool×Int))=>Jgn p0_ x.1 x.2)
def Jgp:St:=⟨(2,.ptr 0 0)::(5,.d (.bool y64))::(6,.d (.bool blank_1))::(8,.d (.int .i64 i_8))::[],[some (.box (K3 p0_))]⟩
def Jgq:St:=⟨(2,.ptr 0 0)::(5,.d (.bool y64))::(6,.d (.bool blank_2))::[],[some (.box (K3 p0_))]⟩
def Q9:(Bool⊕Bool)->Ex->St->Prop:=xS (xX 0 2 (λ (y:Bool)=>Jgq p0_ y64 y)) (xR ty Try.f70 (λ (y:Bool)=>.d (.bool y)))
def Ls:(Bool×Int)->St:=(λ (x:(Bool×Int))=>Jgp p0_ y64 x.1 x.2)
variable {p0_ p1_ space_1 i_7 space_2 y64 blank_1 i_8 blank_2}
theorem Pp (x:(Bool×Int)) (z:((Bool×Int)⊕Bool)) (H:Er n p0_ x.1 x.2=some z):WP (cxk 125 0) (Az Try.f70) [1,1,1,1,0,1,0,0] (AE 0 (Lr p0_) (Q8 p0_) z) (Lr p0_ x):=by
 obtain ⟨space_1,i_7⟩:=x
 refine sq (sr (ck 5 (en (cn H (λ H=>?_) (λ H=>?_)))))
 ·exact sk (qz (sq (bk 1 (rz (ck 3 (gc 1 (!space_1) (ck 1 (bx H λ b9 h280 H=>sE (λ hg=>Gn (Dj h280 hg)) (bx H λ r110 h281 H=>cG false (leZ) rfl (λ hg=>TW (Dj h281 hg)) (Or.inl rfl) (CF (λ hh=>hh) (EO)) rfl (pO (ck 1 (ae (qN (qz (rz (ck 3 (ae (by cases H;exact og (sg [2,5,6,7])))))))))))))))))))
 ·exact ex 0 (qx (by cases H;exact xo rfl (sg [2,5,6])))
theorem Kr (x:(Bool×Int)) (z:((Bool×Int)⊕(Bool⊕Bool))) (H:Dx n p0_ y64 x.1 x.2=some z):WP (cxk 125 0) (Az Try.f70) [1,1,1,1,1,0,1,0,0] (AE 0 (Ls p0_ y64) (Q9 p0_ y64) z) (Ls p0_ y64 x):=by
 obtain ⟨blank_1,i_8⟩:=x
 refine sq (sr (ck 3 (sp (AA eU8 p0_.Cells) (ck 1 (en (cn H (λ H=>?_) (λ H=>?_)))))))
 ·refine sk (qz (sq (bk 3 (sq (sr (ck 3 (bx H λ x65 h283 H=>sp (AH eU8 h283) (ck 2 (en (cn H (λ H=>?_) (λ H=>?_)))))))))))
  ·exact sr (ck 1 (en (re (qr (qR (qr (by cases H;exact ro rfl rd)))))))
  ·exact sk (qz (rz (ck 3 (gc 1 (!blank_1) (ck 1 (bx H λ x66 h284 H=>sE (λ hg=>AH eU8 (Dj h284 hg)) (gc 2 (!blank_1) (pO (ck 1 (ae (qN (qz (rz (ck 3 (ae (by cases H;exact og (sg [2,5,6,8])))))))))))))))))
 ·exact ex 2 (qx (by cases H;exact xo rfl (sg [2,5,6])))
theorem TX {z} (H:LR n p0_ p1_=some z):AL Try.prog 70 [.agg (K3 p0_),.d (.int .i64 p1_)] (.d (.bool z)):=by
 refine fO 125 (Jgm p0_ p1_) Try.func70 (sr (ck 2 (en (sq (sr (ck 2 (bx H λ r109 h279 H=>ca false (Sb h279) (ck 3 (gc 3 (!(!r109)) (pO (ck 2 (gc 1 (!((!r109)||(decide (((p0_.Print.length:Nat):Int)>4)))) (sE (g:=(!((!r109)||(decide (((p0_.Print.length:Nat):Int)>4))))) (λ hg=>AA eU8 p0_.Cells) (gc 1 (!((!r109)||(decide (((p0_.Print.length:Nat):Int)>4)))) (pO (ck 2 (gc 1 (!(((!r109)||(decide (((p0_.Print.length:Nat):Int)>4)))||(decide (((p0_.Cells.length:Nat):Int)<1)))) (sE (g:=(!(((!r109)||(decide (((p0_.Print.length:Nat):Int)>4)))||(decide (((p0_.Cells.length:Nat):Int)<1))))) (λ hg=>AA eU8 p0_.Cells) (gc 1 (!(((!r109)||(decide (((p0_.Print.length:Nat):Int)>4)))||(decide (((p0_.Cells.length:Nat):Int)<1)))) (pO (en (cn H (λ H=>?_) (λ H=>?_)))))))))))))))))))))))
 ·exact sr (ck 1 (en (re (qr (by cases H;exact pr rd)))))
 ·refine sk (qz (sq (sr (ck 5 (gc 2 (!(decide (p0_.Left<1))) (pO (ck 2 (gc 2 (!((decide (p0_.Left<1))||(decide (p0_.Left>63)))) (pO (ck 2 (gc 2 (!(((decide (p0_.Left<1))||(decide (p0_.Left>63)))||(decide (p0_.Right<1)))) (pO (ck 2 (gc 2 (!((((decide (p0_.Left<1))||(decide (p0_.Left>63)))||(decide (p0_.Right<1)))||(decide (p0_.Right>63)))) (pO (ck 2 (gc 1 (!(((((decide (p0_.Left<1))||(decide (p0_.Left>63)))||(decide (p0_.Right<1)))||(decide (p0_.Right>63)))||(decide (p0_.From<0)))) (ck 1 (gc 1 (!(((((decide (p0_.Left<1))||(decide (p0_.Left>63)))||(decide (p0_.Right<1)))||(decide (p0_.Right>63)))||(decide (p0_.From<0)))) (pO (ck 2 (gc 2 (!((((((decide (p0_.Left<1))||(decide (p0_.Left>63)))||(decide (p0_.Right<1)))||(decide (p0_.Right>63)))||(decide (p0_.From<0)))||(decide (p0_.From>=p1_)))) (pO (ck 2 (gc 1 (!(((((((decide (p0_.Left<1))||(decide (p0_.Left>63)))||(decide (p0_.Right<1)))||(decide (p0_.Right>63)))||(decide (p0_.From<0)))||(decide (p0_.From>=p1_)))||(decide (p0_.To<0)))) (ck 1 (gc 1 (!(((((((decide (p0_.Left<1))||(decide (p0_.Left>63)))||(decide (p0_.Right<1)))||(decide (p0_.Right>63)))||(decide (p0_.From<0)))||(decide (p0_.From>=p1_)))||(decide (p0_.To<0)))) (pO (en (cn H (λ H=>?_) (λ H=>?_)))))))))))))))))))))))))))))))
  ·exact sr (ck 1 (en (re (qr (by cases H;exact pr rd)))))
  ·refine sk (qz (sr (ck 2 (en (sq (sr (ck 1 (en (bk 0 (bx H λ y64 h282 H=>lX Pp h282 (sg [2,5,6,7]) rfl λ s hE52=>qH (qs (hE52) (sq (sr (ck 1 (en (bk 2 (bx H λ y65 h285 H=>?_)))))))))))))))))
   rcases y65 with y66|y67
   ·refine lX Kr h285 (sg [2,5,6,8]) rfl λ s hE53=>qH (qs (hE53) (sq (sr (ck 2 (en (cn H (λ H=>?_) (λ H=>?_)))))))
    ·exact sr (ck 3 (en (re (qr (by cases H;exact pr rd)))))
    ·exact sk (qz (sr (ck 6 (gc 1 (((p0_.Print.length:Nat):Int)==1) (sE (g:=(((p0_.Print.length:Nat):Int)==1)) (λ hg=>AA eU8 p0_.Cells) (gc 1 (((p0_.Print.length:Nat):Int)==1) (pA (ck 2 (pA (ck 1 (en (re (by cases H;exact pr rd)))))))))))))
   ·exact lR Kr h285 (sg [2,5,6,8]) rfl λ s hE54=>qR (qr (by cases H;exact pr hE54))
end
section
variable (p0_:(List Int)) (p1_:(List Int)) (i_9:Int)
def Jgr:St:=⟨(0,.d (.sl (p0_.map eU8)))::(1,.d (.sl (p1_.map eU8)))::[],[]⟩
def Jgs:St:=⟨(0,.d (.sl (p0_.map eU8)))::(1,.d (.sl (p1_.map eU8)))::(5,.d (.int .i64 i_9))::[],[]⟩
def Jgt:St:=⟨[],[]⟩
def ML:(Unit⊕Bool)->Ex->St->Prop:=xS (xX 0 0 (λ (y:Unit)=>Jgt)) (xR ty Try.f49 (λ (y:Bool)=>.d (.bool y)))
def HP:Int->St:=(λ (x:Int)=>Jgs p0_ p1_ x)
variable {p0_ p1_ i_9}
theorem He (x:Int) (z:(Int⊕(Unit⊕Bool))) (H:Es n p0_ p1_ x=some z):WP (cxk 26 0) (Az Try.f49) [1,1,0,1,0,0] (AE 0 (HP p0_ p1_) (ML) z) (HP p0_ p1_ x):=by
 revert H
 generalize x=i_9
 intro H
 refine sq (sr (ck 2 (sp (AA eU8 p0_) (ck 1 (en (cn H (λ H=>?_) (λ H=>?_)))))))
 ·refine sk (qz (sq (bk 1 (sr (ck 2 (bx H λ x67 h286 H=>sp (AH eU8 h286) (ck 3 (bx H λ x68 h287 H=>sp (AH eU8 h287) (ck 2 (en (cn H (λ H=>?_) (λ H=>?_))))))))))))
  ·exact sr (ck 1 (en (re (qR (qr (by cases H;exact ro rfl rd))))))
  ·exact sk (qN (qz (rz (ck 3 (ae (by cases H;exact og (sg [0,1,5])))))))
 ·exact ex 0 (qx (by cases H;exact xo rfl (sg [])))
theorem Om {z} (H:Gr n p0_ p1_=some z):AL Try.prog 49 [.d (.sl (p0_.map eU8)),.d (.sl (p1_.map eU8))] (.d (.bool z)):=by
 refine fO 26 (Jgr p0_ p1_) Try.func49 (sr (ck 1 (en (sq (sr (ck 1 (sp (AA eU8 p0_) (ck 1 (sp (AA eU8 p1_) (ck 1 (en (cn H (λ H=>?_) (λ H=>?_)))))))))))))
 ·exact sr (ck 1 (en (re (qr (by cases H;exact pr rd)))))
 ·refine sk (qz (sq (sr (ck 1 (en (bk 0 (bx H λ y68 h288 H=>?_)))))))
  rcases y68 with y69|y70
  ·exact lX He h288 (sg [0,1,5]) rfl λ s hE55=>qH (qs (hE55) (sr (ck 1 (en (re (by cases H;exact pr rd))))))
  ·exact lR He h288 (sg [0,1,5]) rfl λ s hE56=>qR (qr (by cases H;exact pr hE56))
end
section
variable (p0_:Au) (p1_:Au)
def Jgu:St:=⟨(0,.agg [.d (.str p0_.Print),.d (.sl (p0_.Cells.map eU8)),.d (.int .u8 p0_.Left),.d (.int .u8 p0_.Right),.d (.int .i64 p0_.From),.d (.int .i64 p0_.To)])::(1,.agg [.d (.str p1_.Print),.d (.sl (p1_.Cells.map eU8)),.d (.int .u8 p1_.Left),.d (.int .u8 p1_.Right),.d (.int .i64 p1_.From),.d (.int .i64 p1_.To)])::[],[]⟩
variable {p0_ p1_}
theorem Pq {z} (H:Hl n p0_ p1_=some z):AL Try.prog 71 [.agg (K3 p0_),.agg (K3 p1_)] (.d (.bool z)):=by
 exact fO 45 (Jgu p0_ p1_) Try.func71 (sr (ck 3 (en (sr (ck 7 (gc 1 (p0_.Print==p1_.Print) (ck 1 (gc 1 (p0_.Print==p1_.Print) (bx H λ r111 h289 H=>cG false (leZ) rfl (λ hg=>Om (Dj h289 hg)) (Or.inl rfl) (CF (λ hh=>hh) (CF (λ hh=>hh) (EO))) rfl (pA (ck 2 (gc 1 ((p0_.Print==p1_.Print)&&r111) (ck 1 (gc 2 ((p0_.Print==p1_.Print)&&r111) (pA (ck 2 (gc 1 (((p0_.Print==p1_.Print)&&r111)&&(p0_.Left==p1_.Left)) (ck 1 (gc 2 (((p0_.Print==p1_.Print)&&r111)&&(p0_.Left==p1_.Left)) (pA (ck 2 (gc 1 ((((p0_.Print==p1_.Print)&&r111)&&(p0_.Left==p1_.Left))&&(p0_.Right==p1_.Right)) (ck 1 (gc 2 ((((p0_.Print==p1_.Print)&&r111)&&(p0_.Left==p1_.Left))&&(p0_.Right==p1_.Right)) (pA (ck 2 (gc 1 (((((p0_.Print==p1_.Print)&&r111)&&(p0_.Left==p1_.Left))&&(p0_.Right==p1_.Right))&&(p0_.From==p1_.From)) (ck 1 (gc 2 (((((p0_.Print==p1_.Print)&&r111)&&(p0_.Left==p1_.Left))&&(p0_.Right==p1_.Right))&&(p0_.From==p1_.From)) (pA (ck 1 (en (re (by cases H;exact pr rd))))))))))))))))))))))))))))))))))
end
section
variable (p0_:Ab) (i_10:Int) (k_2:Int)
def Jgv:St:=⟨(0,.agg [.d (.int .i64 p0_.Modes),.d (.int .u8 p0_.Accept),.d (.sl (p0_.Rules.map Ar))])::[],[]⟩
def Jgw:St:=⟨(1,.ptr 0 0)::(4,.d (.int .i64 i_10))::[],[some (.box (AG p0_))]⟩
def Jgx:St:=⟨[],[]⟩
def Jgy:St:=⟨(1,.ptr 0 0)::(4,.d (.int .i64 i_10))::(5,.d (.int .i64 k_2))::[],[some (.box (AG p0_))]⟩
def Jgz:St:=⟨(1,.ptr 0 0)::(4,.d (.int .i64 i_10))::[],[some (.box (AG p0_))]⟩
def Ra:(Unit⊕(Int×Int))->Ex->St->Prop:=xS (xX 0 2 (λ (y:Unit)=>Jgz p0_ i_10)) (xR ty Try.f57 (λ (y:(Int×Int))=>.tup [.d (.int .i64 y.1),.d (.int .i64 y.2)]))
def Lt:Int->St:=(λ (x:Int)=>Jgy p0_ i_10 x)
def Rb:(Unit⊕(Int×Int))->Ex->St->Prop:=xS (xX 0 0 (λ (y:Unit)=>Jgx)) (xR ty Try.f57 (λ (y:(Int×Int))=>.tup [.d (.int .i64 y.1),.d (.int .i64 y.2)]))
def Lu:Int->St:=(λ (x:Int)=>Jgw p0_ x)
variable {p0_ i_10 k_2}
theorem Ks (x:Int) (z:(Int⊕(Unit⊕(Int×Int)))) (H:FG n p0_ i_10 x=some z):WP (cxk 74 0) (Az Try.f57) [1,1,0,1,0,0,1,0,0,1,1,0,0] (AE 0 (Lt p0_ i_10) (Ra p0_ i_10) z) (Lt p0_ i_10 x):=by
 revert H
 generalize x=k_2
 intro H
 refine sq (sr (ck 3 (en (cn H (λ H=>?_) (λ H=>?_)))))
 ·refine sk (qz (sq (bk 3 (sr (ck 3 (bx H λ x70 h293 H=>sp (AH Ar h293) (ck 4 (bx H λ x71 h294 H=>sp (AH Ar h294) (ck 1 (bx H λ r113 h295 H=>ca false (Pq h295) (en (cn H (λ H=>?_) (λ H=>?_)))))))))))))
  ·exact sr (ck 3 (en (re (qR (qr (by cases H;exact ro rfl rdT))))))
  ·exact sk (qN (qz (rz (ck 3 (ae (by cases H;exact og (sg [1,4,5])))))))
 ·exact ex 2 (qx (by cases H;exact xo rfl (sg [1,4])))
theorem Kt (x:Int) (z:(Int⊕(Unit⊕(Int×Int)))) (H:FH n p0_ x=some z):WP (cxk 74 0) (Az Try.f57) [1,1,0,1,0,0] (AE 0 (Lu p0_) (Rb) z) (Lu p0_ x):=by
 revert H
 generalize x=i_10
 intro H
 refine sq (sr (ck 3 (sp (AA Ar p0_.Rules) (ck 1 (en (cn H (λ H=>?_) (λ H=>?_)))))))
 ·refine sk (qz (sq (bk 1 (sq (sr (ck 3 (bx H λ x69 h291 H=>sp (AH Ar h291) (ck 3 (bx H λ r112 h292 H=>ca false (TX h292) (ck 1 (en (cn H (λ H=>?_) (λ H=>?_)))))))))))))
  ·exact sr (ck 3 (en (re (qr (qR (qr (by cases H;exact ro rfl rdT)))))))
  ·refine sk (qz (sr (ck 1 (en (bk 2 (bx H λ y71 h296 H=>?_))))))
   rcases y71 with y72|y73
   ·exact lX Ks h296 (sg [1,4,5]) rfl λ s hE57=>qH (qN (qs (hE57) (rz (ck 3 (ae (by cases H;exact og (sg [1,4])))))))
   ·exact lR Ks h296 (sg [1,4,5]) rfl λ s hE58=>qR (qR (qr (by cases H;exact ro rfl hE58)))
 ·exact ex 0 (qx (by cases H;exact xo rfl (sg [])))
theorem TY {z} (H:LS n p0_=some z):AL Try.prog 57 [.agg (AG p0_)] (.tup [.d (.int .i64 z.1),.d (.int .i64 z.2)]):=by
 refine fO 74 (Jgv p0_) Try.func57 (sr (ck 3 (en (sq (sr (ck 5 (gc 2 (!(decide (p0_.Modes<1))) (pO (ck 2 (gc 2 (!((decide (p0_.Modes<1))||(decide (p0_.Modes>8)))) (pO (ck 2 (gc 2 (!(((decide (p0_.Modes<1))||(decide (p0_.Modes>8)))||(p0_.Accept==0))) (ck 1 (gc 1 (!(((decide (p0_.Modes<1))||(decide (p0_.Modes>8)))||(p0_.Accept==0))) (bx H λ gd6 h290 H=>soG (λ hg=>I3 (Dj h290 hg)) (CF (λ hh=>hh) (EO)) (gc 1 (!(((decide (p0_.Modes<1))||(decide (p0_.Modes>8)))||(p0_.Accept==0))) (pO (ck 2 (gc 1 (!((((decide (p0_.Modes<1))||(decide (p0_.Modes>8)))||(p0_.Accept==0))||(decide (IntKind.i64.wrap p0_.Accept>=Qz .i64 1 p0_.Modes)))) (sE (g:=(!((((decide (p0_.Modes<1))||(decide (p0_.Modes>8)))||(p0_.Accept==0))||(decide (IntKind.i64.wrap p0_.Accept>=Qz .i64 1 p0_.Modes))))) (λ hg=>AA Ar p0_.Rules) (gc 1 (!((((decide (p0_.Modes<1))||(decide (p0_.Modes>8)))||(p0_.Accept==0))||(decide (IntKind.i64.wrap p0_.Accept>=Qz .i64 1 p0_.Modes)))) (pO (ck 2 (gc 1 (!(((((decide (p0_.Modes<1))||(decide (p0_.Modes>8)))||(p0_.Accept==0))||(decide (IntKind.i64.wrap p0_.Accept>=Qz .i64 1 p0_.Modes)))||(decide (((p0_.Rules.length:Nat):Int)<1)))) (sE (g:=(!(((((decide (p0_.Modes<1))||(decide (p0_.Modes>8)))||(p0_.Accept==0))||(decide (IntKind.i64.wrap p0_.Accept>=Qz .i64 1 p0_.Modes)))||(decide (((p0_.Rules.length:Nat):Int)<1))))) (λ hg=>AA Ar p0_.Rules) (gc 1 (!(((((decide (p0_.Modes<1))||(decide (p0_.Modes>8)))||(p0_.Accept==0))||(decide (IntKind.i64.wrap p0_.Accept>=Qz .i64 1 p0_.Modes)))||(decide (((p0_.Rules.length:Nat):Int)<1)))) (pO (en (cn H (λ H=>?_) (λ H=>?_)))))))))))))))))))))))))))))))
 ·exact sr (ck 2 (en (re (qr (by cases H;exact pr rdT)))))
 ·refine sk (qz (sq (sr (ck 1 (en (bk 0 (bx H λ y74 h297 H=>?_)))))))
  rcases y74 with y75|y76
  ·exact lX Kt h297 (sg [1,4]) rfl λ s hE59=>qH (qs (hE59) (sr (ck 2 (en (re (by cases H;exact pr rdT))))))
  ·exact lR Kt h297 (sg [1,4]) rfl λ s hE60=>qR (qr (by cases H;exact pr hE60))
end
section
variable (p0_:Ab)
def JgA:St:=⟨(0,.agg [.d (.int .i64 p0_.Modes),.d (.int .u8 p0_.Accept),.d (.sl (p0_.Rules.map Ar))])::[],[]⟩
variable {p0_}
theorem TZ {z} (H:Oe n p0_=some z):AL Try.prog 38 [.agg (AG p0_)] (.d (.bool z)):=by
 exact fO 12 (JgA p0_) Try.func38 (sr (ck 2 (en (sr (ck 1 (bx H λ r114 h298 H=>ca false (TY h298) (ck 5 (en (sr (ck 3 (en (re (by cases H;exact pr rd)))))))))))))
end
section
variable (p0_:K2) (r115:Ab) (t_3:Ab) (i_11:Int) (t_4:Ab) (t_5:Ab) (t_6:Ab) (i_12:Int) (t_7:Ab) (t_8:Ab) (t_9:Ab)
def JgB:St:=⟨(0,.agg [.d (.int .u8 p0_.Base),.d (.int .u8 p0_.Drop),.d (.sl (p0_.More.map Ft))])::[],[]⟩
def JgC:St:=⟨(1,.ptr 0 0)::(2,.ptr 1 0)::(3,.ptr 2 0)::(4,.osl 3 6 0 (r115.Rules.length))::(5,.d (.int .i64 i_11))::[],[some (.box (WV p0_)),some (.box [.d (.int .i64 0),.d (.int .u8 0),.osl 4 6 0 (List.length ([]:List Au))]),some (.box (FJ t_3 (.osl 5 6 0 (t_3.Rules.length)))),some (.arr 6 (r115.Rules.map Ar)),some (.arr 6 (List.map Ar ([]:List Au))),some (.arr 6 (t_3.Rules.map Ar))]⟩
def JgD:St:=⟨(1,.ptr 0 0)::(2,.ptr 1 0)::(3,.ptr 2 0)::(4,.osl 3 6 0 (r115.Rules.length))::[],[some (.box (WV p0_)),some (.box [.d (.int .i64 0),.d (.int .u8 0),.osl 4 6 0 (List.length ([]:List Au))]),some (.box (FJ t_4 (.osl 5 6 0 (t_4.Rules.length)))),some (.arr 6 (r115.Rules.map Ar)),some (.arr 6 (List.map Ar ([]:List Au))),some (.arr 6 (t_4.Rules.map Ar))]⟩
def JgE:St:=⟨(1,.ptr 0 0)::(2,.ptr 1 0)::(3,.ptr 2 0)::(4,.osl 3 6 0 (r115.Rules.length))::(5,.d (.int .i64 i_11))::[],[some (.box (WV p0_)),some (.box [.d (.int .i64 0),.d (.int .u8 0),.osl 4 6 0 (List.length ([]:List Au))]),some (.box (FJ t_5 (.osl 5 6 0 (t_5.Rules.length)))),some (.arr 6 (r115.Rules.map Ar)),some (.arr 6 (List.map Ar ([]:List Au))),some (.arr 6 (t_5.Rules.map Ar))]⟩
def Sc:Ab->Ex->St->Prop:=xX 0 0 (λ (y:Ab)=>JgD p0_ r115 y)
def Mj:(Ab×Int)->St:=(λ (x:(Ab×Int))=>JgC p0_ r115 x.1 x.2)
def JgF:St:=⟨(1,.ptr 0 0)::(2,.ptr 1 0)::(3,.ptr 2 0)::(4,.osl 3 6 0 (r115.Rules.length))::(6,.d (.int .i64 i_12))::[],[some (.box (WV p0_)),some (.box [.d (.int .i64 0),.d (.int .u8 0),.osl 4 6 0 (List.length ([]:List Au))]),some (.box (FJ t_6 (.osl 5 6 0 (t_6.Rules.length)))),some (.arr 6 (r115.Rules.map Ar)),some (.arr 6 (List.map Ar ([]:List Au))),some (.arr 6 (t_6.Rules.map Ar))]⟩
def JgG:St:=⟨(2,.ptr 0 0)::(3,.ptr 1 0)::(4,.osl 2 6 0 (r115.Rules.length))::[],[some (.box [.d (.int .i64 0),.d (.int .u8 0),.osl 3 6 0 (List.length ([]:List Au))]),some (.box (FJ t_7 (.osl 4 6 0 (t_7.Rules.length)))),some (.arr 6 (r115.Rules.map Ar)),some (.arr 6 (List.map Ar ([]:List Au))),some (.arr 6 (t_7.Rules.map Ar))]⟩
def JgH:St:=⟨(1,.ptr 0 0)::(2,.ptr 1 0)::(3,.ptr 2 0)::(4,.osl 3 6 0 (r115.Rules.length))::(6,.d (.int .i64 i_12))::[],[some (.box (WV p0_)),some (.box [.d (.int .i64 0),.d (.int .u8 0),.osl 4 6 0 (List.length ([]:List Au))]),some (.box (FJ t_8 (.osl 5 6 0 (t_8.Rules.length)))),some (.arr 6 (r115.Rules.map Ar)),some (.arr 6 (List.map Ar ([]:List Au))),some (.arr 6 (t_8.Rules.map Ar))]⟩
def Sd:Ab->Ex->St->Prop:=xX 0 2 (λ (y:Ab)=>JgG r115 y)
def Mk:(Ab×Int)->St:=(λ (x:(Ab×Int))=>JgF p0_ r115 x.1 x.2)
def JgI:St:=⟨(2,.ptr 0 0)::(3,.ptr 1 0)::[],[some (.box [.d (.int .i64 0),.d (.int .u8 0),.osl 2 6 0 (List.length ([]:List Au))]),some (.box (FJ t_9 (.osl 3 6 0 (t_9.Rules.length)))),some (.arr 6 (List.map Ar ([]:List Au))),some (.arr 6 (t_9.Rules.map Ar))]⟩
variable {p0_ r115 t_3 i_11 t_4 t_5 t_6 i_12 t_7 t_8 t_9}
theorem Re (x:(Ab×Int)) (z:((Ab×Int)⊕Ab)) (H:Fm n p0_ r115 x.1 x.2=some z):WP (cxk 77 0) (Az Try.f16) [1,1,1,1,0,1,0,0] (AE 0 (Mj p0_ r115) (Sc p0_ r115) z) (Mj p0_ r115 x):=by
 obtain ⟨t_3,i_11⟩:=x
 refine sq (sr (ck 4 (en (cn H (λ H=>?_) (λ H=>?_)))))
 ·refine sk (qz (sj (λ (x:Ab)=>JgE p0_ r115 i_11 x) (λ (x:Ab)=>GB n i_11 x) z ?_ (λ hFR2_Made_J1=>?_)))
  ·intro t_5 H
   exact rz (ck 3 (ae (by cases H;exact og (sg [1,2,3,4,5]))))
  refine bk 1 (sr (ck 3 (bx H λ gd7 h300 H=>so (I3 h300) (ck 2 (en (cn H (λ H=>?_) (λ H=>?_)))))))
  ·exact rz (ck 4 (bx H λ x72 h301 H=>sp (A3 3 6 h301) (sp (CN Ar 3 0 (ty 55) h301) (ck 1 (bx H λ l49 h302 H=>sp (Bd Ar 5 6 h302) (ck 2 (ae (qN (qs (sg [1,2,3,4,5]) (hFR2_Made_J1 ({ Modes:=t_3.Modes,Accept:=t_3.Accept,Rules:=l49 }:Ab) H))))))))))
  ·exact sk (qN (qs (sg [1,2,3,4,5]) (hFR2_Made_J1 t_3 H)))
 ·exact ex 0 (qx (by cases H;exact xo rfl (sg [1,2,3,4])))
theorem Rf (x:(Ab×Int)) (z:((Ab×Int)⊕Ab)) (H:Fn n p0_ r115 x.1 x.2=some z):WP (cxk 77 0) (Az Try.f16) [1,1,1,1,1,0,1,0,0] (AE 0 (Mk p0_ r115) (Sd r115) z) (Mk p0_ r115 x):=by
 obtain ⟨t_6,i_12⟩:=x
 refine sq (sr (ck 3 (sp (AA Ft p0_.More) (ck 3 (gc 1 (decide (i_12<((p0_.More.length:Nat):Int))) (pA (en (cn H (λ H=>?_) (λ H=>?_)))))))))
 ·refine sk (qz (sj (λ (x:Ab)=>JgH p0_ r115 i_12 x) (λ (x:Ab)=>GC n i_12 x) z ?_ (λ hFR2_Made_J2=>?_)))
  ·intro t_8 H
   exact rz (ck 3 (ae (by cases H;exact og (sg [1,2,3,4,6]))))
  refine bk 3 (sr (ck 5 (bx H λ x73 h304 H=>sp (AH Ft h304) (ck 3 (bx H λ r116 h305 H=>ca false (Vx h305) (ck 1 (bx H λ l50 h306 H=>sp (Bd Ar 5 6 h306) (ck 2 (en (sr (ck 1 (bx H λ r117 h307 H=>cb (ks:=[7]) (obl:=[(0+List.length l50,List.length (l50.map Ar))]) false (leK leM (leZ)) (DR (JiH (DR rfl (DR rfl (DR Np rfl)))) rfl) (TZ h307) (Or.inr trivial) rfl (ck 1 (en (cn H (λ H=>?_) (λ H=>?_))))))))))))))))
  ·exact rz (ck 6 (bx H λ l51 h308 H=>sp (JO 7 6 h308) (ck 2 (ae (qN (qs (tr (BP (k:=7) (sz:=6) 2 2 (l51.map Ar) (l51.length) (by kernel_rfl) (Hi h308) (JN (enc:=Ar) h308) (Hj h308)) (sg [1,2,3,4,6])) (hFR2_Made_J2 ({ Modes:=t_6.Modes,Accept:=t_6.Accept,Rules:=l51 }:Ab) H)))))))
  ·exact sk (qN (qs (sg [1,2,3,4,6]) (hFR2_Made_J2 ({ Modes:=t_6.Modes,Accept:=t_6.Accept,Rules:=l50 }:Ab) H)))
 ·exact ex 2 (qx (by cases H;exact xo rfl (sg [2,3,4])))
theorem Vz {z} (H:Jb n p0_=some z):AL Try.prog 16 [.agg (WV p0_)] (.agg [.d (.int .i64 z.Modes),.d (.int .u8 z.Accept),.own 6 (z.Rules.map Ar)]):=by
 refine fO 77 (JgB p0_) Try.func16 (sr (ck 2 (en (sr (ck 2 (bx H λ r115 h299 H=>cl [List.length r115.Rules] (Vw h299) (ck 2 (en (sr (ck 3 (en (sr (ck 3 (en (sq (sr (ck 1 (en (bk 0 (bx H λ y77 h303 H=>lX Re h303 (tr (Co 1 2 6 (by kernel_rfl)) (sg [1,2,3,4,5])) rfl λ s hE61=>qH (qs (hE61) (sq (sr (ck 1 (en (bk 2 (bx H λ y78 h309 H=>lX Rf h309 (sg [1,2,3,4,6]) rfl λ s hE62=>qH (qs (hE62) (sj (λ (x:Ab)=>JgI x) (λ (x:Ab)=>GD n x) z ?_ (λ hFR2_Made_J3=>?_))))))))))))))))))))))))))))))
 ·intro t_9 H
  exact sr (ck 2 (en (re (by cases H;exact pr (rO (v:=.agg [.d (.int .i64 z.Modes),.d (.int .u8 z.Accept),.osl 3 6 0 (z.Rules.length)]) [3] (a1 (c1 vd (c1 vd (c1 vo (c0))))))))))
 refine sr (ck 4 (en (cn H (λ H=>?_) (λ H=>?_))))
 ·exact rz (ck 3 (ae (qs (sg [2,3]) (hFR2_Made_J3 ({ Modes:=y78.Modes,Accept:=y78.Accept,Rules:=r115.Rules }:Ab) H))))
 ·exact sk (qs (sg [2,3]) (hFR2_Made_J3 y78 H))
end
def JgJ:St:=⟨[],[]⟩
theorem JZ {z} (H:LT n=some z):AL Try.prog 53 [] (.agg [.d (.int .i64 z.Mode),.d (.int .i64 z.Last),.d (.int .u8 z.Need)]):=by
 exact fO 2 JgJ Try.func53 (sr (ck 1 (en (sr (ck 2 (en (re (by cases H;exact pr rd))))))))
section
variable (p0_:Int) (p1_:Int)
def JgK:St:=⟨(0,.d (.int .u8 p0_))::(1,.d (.int .i64 p1_))::[],[]⟩
variable {p0_ p1_}
theorem J0 {z} (H:JT n p0_ p1_=some z):AL Try.prog 33 [.d (.int .u8 p0_),.d (.int .i64 p1_)] (.d (.bool z)):=by
 exact fO 18 (JgK p0_ p1_) Try.func33 (sr (ck 1 (en (sr (ck 4 (gc 1 (decide (p1_>=0)) (pA (ck 3 (bx H λ gd9 h319 H=>soG (λ hg=>I3 (Dj h319 hg)) (CF (λ hh=>hh) (CF (λ hh=>hh) (EO))) (gc 2 ((decide (p1_>=0))&&(decide (p1_<8))) (pA (ck 1 (en (re (by cases H;exact pr rd)))))))))))))))
end
section
variable (p0_:Ab) (p1_:Aa)
def JgL:St:=⟨(0,.agg [.d (.int .i64 p0_.Modes),.d (.int .u8 p0_.Accept),.d (.sl (p0_.Rules.map Ar))])::(1,.agg [.d (.int .i64 p1_.Mode),.d (.int .i64 p1_.Last),.d (.int .u8 p1_.Need)])::[],[]⟩
variable {p0_ p1_}
theorem FN {z} (H:D9 n p0_ p1_=some z):AL Try.prog 20 [.agg (AG p0_),.agg (FK p1_)] (.d (.bool z)):=by
 exact fO 27 (JgL p0_ p1_) Try.func20 (sr (ck 3 (en (sr (ck 5 (gc 1 (decide (p1_.Mode>=0)) (ck 1 (gc 2 (decide (p1_.Mode>=0)) (pA (ck 2 (gc 1 ((decide (p1_.Mode>=0))&&(decide (p1_.Mode<p0_.Modes))) (ck 1 (gc 1 ((decide (p1_.Mode>=0))&&(decide (p1_.Mode<p0_.Modes))) (bx H λ r118 h320 H=>cG false (leZ) rfl (λ hg=>J0 (Dj h320 hg)) (Or.inl rfl) (CF (λ hh=>hh) (CF (λ hh=>hh) (EO))) rfl (pA (ck 2 (gc 1 (((decide (p1_.Mode>=0))&&(decide (p1_.Mode<p0_.Modes)))&&r118) (bx H λ r119 h321 H=>cG false (leZ) rfl (λ hg=>J0 (Dj h321 hg)) (Or.inl rfl) (CF (λ hh=>hh) (EO)) rfl (pA (ck 1 (en (re (by cases H;exact pr rd)))))))))))))))))))))))
end
section
variable (p0_:Int)
def JgM:St:=⟨(0,.d (.int .u8 p0_))::[],[]⟩
variable {p0_}
theorem NF {z} (H:Jc n p0_=some z):AL Try.prog 32 [.d (.int .u8 p0_)] (.d (.int .i64 z)):=by
 refine fO 26 (JgM p0_) Try.func32 (sr (ck 1 (en (sr (ck 3 (en (sq (sr (ck 4 (gc 1 (decide (Cv .u8 p0_ 127>=97)) (pA (en (cn H (λ H=>?_) (λ H=>?_))))))))))))))
 ·exact sr (ck 1 (en (re (qr (by cases H;exact pr rd)))))
 ·refine sk (qz (sq (sr (ck 4 (gc 1 (decide (Cv .u8 p0_ 127>=65)) (pA (en (cn H (λ H=>?_) (λ H=>?_)))))))))
  ·exact sr (ck 1 (en (re (qr (by cases H;exact pr rd)))))
  ·refine sk (qz (sq (sr (ck 4 (gc 1 (decide (Cv .u8 p0_ 127>=48)) (pA (en (cn H (λ H=>?_) (λ H=>?_)))))))))
   ·exact sr (ck 1 (en (re (qr (by cases H;exact pr rd)))))
   ·refine sk (qz (sq (sr (ck 2 (en (cn H (λ H=>?_) (λ H=>?_)))))))
    ·exact sr (ck 1 (en (re (qr (by cases H;exact pr rd)))))
    ·exact sk (qz (sr (ck 1 (en (re (by cases H;exact pr rd))))))
end
section
variable (p0_:Ab) (p1_:Aa) (p2_:Int)
def JgN:St:=⟨(0,.agg [.d (.int .i64 p0_.Modes),.d (.int .u8 p0_.Accept),.d (.sl (p0_.Rules.map Ar))])::(1,.agg [.d (.int .i64 p1_.Mode),.d (.int .i64 p1_.Last),.d (.int .u8 p1_.Need)])::(2,.d (.int .i64 p2_))::[],[]⟩
variable {p0_ p1_ p2_}
theorem Eb {z} (H:EP n p0_ p1_ p2_=some z):AL Try.prog 18 [.agg (AG p0_),.agg (FK p1_),.d (.int .i64 p2_)] (.tup [.agg [.d (.int .i64 z.1.Mode),.d (.int .i64 z.1.Last),.d (.int .u8 z.1.Need)],.d (.bool z.2)]):=by
 refine fO 87 (JgN p0_ p1_ p2_) Try.func18 (sr (ck 4 (en (sq (sr (ck 5 (gc 1 (!(decide (p2_<0))) (sE (g:=(!(decide (p2_<0)))) (λ hg=>AA Ar p0_.Rules) (gc 1 (!(decide (p2_<0))) (pO (en (cn H (λ H=>?_) (λ H=>?_)))))))))))))
 ·exact sr (ck 3 (en (re (qr (by cases H;exact pr rdT)))))
 ·refine sk (qz (sr (ck 3 (bx H λ x83 h332 H=>sp (AH Ar h332) (ck 3 (en (sq (sr (ck 7 (gc 1 (!(x83.From != p1_.Mode)) (ck 1 (gc 1 (!(x83.From != p1_.Mode)) (bx H λ r120 h333 H=>cG false (leZ) rfl (λ hg=>J0 (Dj h333 hg)) (Or.inl rfl) (CF (λ hh=>hh) (CF (λ hh=>hh) (EO))) rfl (gc 1 (!(x83.From != p1_.Mode)) (pO (en (cn H (λ H=>?_) (λ H=>?_))))))))))))))))))
  ·exact sr (ck 3 (en (re (qr (by cases H;exact pr rdT)))))
  ·refine sk (qz (sq (sr (ck 6 (gc 1 (((x83.Print.length:Nat):Int)==0) (ck 1 (gc 3 (((x83.Print.length:Nat):Int)==0) (pA (en (cn H (λ H=>?_) (λ H=>?_)))))))))))
   ·exact sr (ck 3 (en (re (qr (by cases H;exact pr rdT)))))
   ·refine sk (qz (sq (sr (ck 4 (en (cn H (λ H=>?_) (λ H=>?_)))))))
    ·exact sr (ck 12 (en (re (qr (by cases H;exact pr rdT)))))
    ·refine sk (qz (sq (sr (ck 4 (bx H λ b10 h334 H=>sp (Gn h334) (bx H λ r121 h335 H=>ca false (NF h335) (bx H λ r122 h336 H=>ca false (J0 h336) (ck 1 (en (cn H (λ H=>?_) (λ H=>?_)))))))))))
     ·exact sr (ck 3 (en (re (qr (by cases H;exact pr rdT)))))
     ·exact sk (qz (sr (ck 8 (bx H λ b11 h337 H=>sp (Gn h337) (bx H λ r123 h338 H=>ca false (NF h338) (ck 5 (en (re (by cases H;exact pr rdT)))))))))
end
section
variable (p0_:(List Aa)) (p1_:Aa) (i_16:Int)
def JgO:St:=⟨(0,.d (.sl (p0_.map Ak)))::(1,.agg [.d (.int .i64 p1_.Mode),.d (.int .i64 p1_.Last),.d (.int .u8 p1_.Need)])::[],[]⟩
def JgP:St:=⟨(0,.d (.sl (p0_.map Ak)))::(3,.ptr 0 0)::(5,.d (.int .i64 i_16))::[],[some (.box (FK p1_))]⟩
def JgQ:St:=⟨[],[]⟩
def Rg:(Unit⊕Int)->Ex->St->Prop:=xS (xX 0 0 (λ (y:Unit)=>JgQ)) (xR ty Try.f34 (λ (y:Int)=>.d (.int .i64 y)))
def Lv:Int->St:=(λ (x:Int)=>JgP p0_ p1_ x)
variable {p0_ p1_ i_16}
theorem Ku (x:Int) (z:(Int⊕(Unit⊕Int))) (H:Dy n p0_ p1_ x=some z):WP (cxk 19 0) (Az Try.f34) [1,0,1,0,0] (AE 0 (Lv p0_ p1_) (Rg) z) (Lv p0_ p1_ x):=by
 revert H
 generalize x=i_16
 intro H
 refine sq (sr (ck 2 (sp (AA Ak p0_) (ck 1 (en (cn H (λ H=>?_) (λ H=>?_)))))))
 ·refine sk (qz (sq (bk 1 (sr (ck 2 (bx H λ x90 h371 H=>sp (AH Ak h371) (ck 3 (en (cn H (λ H=>?_) (λ H=>?_))))))))))
  ·exact sr (ck 2 (en (re (qR (qr (by cases H;exact ro rfl rd))))))
  ·exact sk (qN (qz (rz (ck 3 (ae (by cases H;exact og (sg [0,3,5])))))))
 ·exact ex 0 (qx (by cases H;exact xo rfl (sg [])))
theorem FO {z} (H:Gf n p0_ p1_=some z):AL Try.prog 34 [.d (.sl (p0_.map Ak)),.agg (FK p1_)] (.d (.int .i64 z)):=by
 refine fO 19 (JgO p0_ p1_) Try.func34 (sr (ck 2 (en (sq (sr (ck 1 (en (bk 0 (bx H λ y86 h372 H=>?_)))))))))
 rcases y86 with y87|y88
 ·exact lX Ku h372 (sg [0,3,5]) rfl λ s hE69=>qH (qs (hE69) (sr (ck 1 (en (re (by cases H;exact pr rd))))))
 ·exact lR Ku h372 (sg [0,3,5]) rfl λ s hE70=>qR (qr (by cases H;exact pr hE70))
end
section
variable (p0_:Ab) (out_12:(List Aa)) (i_17:Int) (out_13:(List Aa)) (out_14:(List Aa)) (k_3:Int) (out_15:(List Aa)) (out_16:(List Aa))
def JgR:St:=⟨(0,.agg [.d (.int .i64 p0_.Modes),.d (.int .u8 p0_.Accept),.d (.sl (p0_.Rules.map Ar))])::[],[]⟩
def JgS:St:=⟨(1,.ptr 0 0)::(3,.osl 1 3 0 (out_12.length))::(4,.d (.int .i64 i_17))::[],[some (.box (AG p0_)),some (.arr 3 (out_12.map Ak))]⟩
def JgT:St:=⟨(3,.osl 0 3 0 (out_13.length))::[],[some (.arr 3 (out_13.map Ak))]⟩
def JgU:St:=⟨(1,.ptr 0 0)::(3,.osl 1 3 0 (out_14.length))::(4,.d (.int .i64 i_17))::(5,.d (.int .i64 k_3))::[],[some (.box (AG p0_)),some (.arr 3 (out_14.map Ak))]⟩
def JgV:St:=⟨(1,.ptr 0 0)::(3,.osl 1 3 0 (out_15.length))::(4,.d (.int .i64 i_17))::[],[some (.box (AG p0_)),some (.arr 3 (out_15.map Ak))]⟩
def JgW:St:=⟨(1,.ptr 0 0)::(3,.osl 1 3 0 (out_16.length))::(4,.d (.int .i64 i_17))::(5,.d (.int .i64 k_3))::[],[some (.box (AG p0_)),some (.arr 3 (out_16.map Ak))]⟩
def Pr:(List Aa)->Ex->St->Prop:=xX 0 2 (λ (y:(List Aa))=>JgV p0_ i_17 y)
def Kv:((List Aa)×Int)->St:=(λ (x:((List Aa)×Int))=>JgU p0_ i_17 x.1 x.2)
def Ps:(List Aa)->Ex->St->Prop:=xX 0 0 (λ (y:(List Aa))=>JgT y)
def Kw:((List Aa)×Int)->St:=(λ (x:((List Aa)×Int))=>JgS p0_ x.1 x.2)
variable {p0_ out_12 i_17 out_13 out_14 k_3 out_15 out_16}
theorem On (x:((List Aa)×Int)) (z:(((List Aa)×Int)⊕(List Aa))) (H:DH n p0_ i_17 x.1 x.2=some z):WP (cxk 45 0) (Az Try.f26) [1,1,0,1,0,0,1,0,0,1,0,0] (AE 0 (Kv p0_ i_17) (Pr p0_ i_17) z) (Kv p0_ i_17 x):=by
 obtain ⟨out_14,k_3⟩:=x
 refine sq (sr (ck 3 (sp (AA Ar p0_.Rules) (ck 1 (en (cn H (λ H=>?_) (λ H=>?_)))))))
 ·refine sk (qz (sj (λ (x:(List Aa))=>JgW p0_ i_17 k_3 x) (λ (x:(List Aa))=>EQ n k_3 x) z ?_ (λ hFR3_States_J1=>?_)))
  ·intro out_16 H
   exact rz (ck 3 (ae (by cases H;exact og (sg [1,3,4,5]))))
  refine bk 3 (sr (ck 3 (bx H λ x91 h374 H=>sp (A3 1 3 h374) (sp (CN Ak 1 0 (ty 26) h374) (ck 1 (bx H λ r145 h375 H=>ca false (Eb h375) (ck 6 (en (sr (ck 4 (bx H λ r146 h376 H=>cG (ks:=[1]) (obl:=[(0+List.length out_14,List.length (out_14.map Ak))]) false (leK leM (leZ)) (DR Np (DR rfl rfl)) (λ hg=>FO (Dj h376 hg)) (Or.inr trivial) (CF (λ hh=>hh) (CF (λ hh=>hh) (EO))) rfl (gc 1 r145.2 (pA (en (cn H (λ H=>?_) (λ H=>?_))))))))))))))))
  ·exact rz (ck 3 (bx H λ l60 h377 H=>sp (Bd Ak 1 3 h377) (ck 1 (ae (qN (qs (sg [1,3,4,5]) (hFR3_States_J1 l60 H)))))))
  ·exact sk (qN (qs (sg [1,3,4,5]) (hFR3_States_J1 out_14 H)))
 ·exact ex 2 (qx (by cases H;exact xo rfl (sg [1,3,4])))
theorem Oo (x:((List Aa)×Int)) (z:(((List Aa)×Int)⊕(List Aa))) (H:ES n p0_ x.1 x.2=some z):WP (cxk 45 0) (Az Try.f26) [1,1,0,1,0,0] (AE 0 (Kw p0_) (Ps) z) (Kw p0_ x):=by
 obtain ⟨out_12,i_17⟩:=x
 refine sq (sr (ck 4 (en (cn H (λ H=>?_) (λ H=>?_)))))
 ·exact sk (qz (sq (bk 1 (sr (ck 1 (en (bk 2 (bx H λ y89 h378 H=>lX On h378 (sg [1,3,4,5]) rfl λ s hE71=>qH (qN (qs (hE71) (rz (ck 3 (ae (by cases H;exact og (sg [1,3,4])))))))))))))))
 ·exact ex 0 (qx (by cases H;exact xo rfl (sg [3])))
theorem IN {z} (H:Gg n p0_=some z):AL Try.prog 26 [.agg (AG p0_)] (.own 3 (z.map Ak)):=by
 exact fO 45 (JgR p0_) Try.func26 (sr (ck 2 (en (sr (bx H λ r144 h373 H=>ca false (JZ h373) (ck 2 (en (sq (sr (ck 1 (en (bk 0 (bx H λ y90 h379 H=>lX Oo h379 (sg [1,3,4]) rfl λ s hE72=>qH (qs (hE72) (sr (ck 2 (en (re (by cases H;exact pr (rO (v:=.osl 0 3 0 (z.length)) [0] (ao vo)))))))))))))))))))))
end
section
variable (p0_:Ab) (r147:(List Aa)) (out_17:(List Bool)) (i_18:Int) (out_18:(List Bool)) (out_19:(List Bool)) (grown_1:Bool) (out_20:(List Bool)) (out_21:(List Bool)) (grown_2:Bool) (i_19:Int) (out_22:(List Bool)) (grown_3:Bool) (out_23:(List Bool)) (grown_4:Bool) (k_4:Int) (out_24:(List Bool)) (grown_5:Bool) (out_25:(List Bool)) (grown_6:Bool)
def JgX:St:=⟨(0,.agg [.d (.int .i64 p0_.Modes),.d (.int .u8 p0_.Accept),.d (.sl (p0_.Rules.map Ar))])::[],[]⟩
def JgY:St:=⟨(1,.ptr 0 0)::(3,.d (.sl (r147.map Ak)))::(4,.osl 1 1 0 (out_17.length))::(5,.d (.int .i64 i_18))::[],[some (.box (AG p0_)),some (.arr 1 (out_17.map eB))]⟩
def JgZ:St:=⟨(1,.ptr 0 0)::(3,.d (.sl (r147.map Ak)))::(4,.osl 1 1 0 (out_18.length))::[],[some (.box (AG p0_)),some (.arr 1 (out_18.map eB))]⟩
def Rh:(List Bool)->Ex->St->Prop:=xX 0 0 (λ (y:(List Bool))=>JgZ p0_ r147 y)
def Lw:((List Bool)×Int)->St:=(λ (x:((List Bool)×Int))=>JgY p0_ r147 x.1 x.2)
def Jg0:St:=⟨(1,.ptr 0 0)::(3,.d (.sl (r147.map Ak)))::(4,.osl 1 1 0 (out_19.length))::(6,.d (.bool grown_1))::[],[some (.box (AG p0_)),some (.arr 1 (out_19.map eB))]⟩
def Jg1:St:=⟨(4,.osl 0 1 0 (out_20.length))::[],[some (.arr 1 (out_20.map eB))]⟩
def Jg2:St:=⟨(1,.ptr 0 0)::(3,.d (.sl (r147.map Ak)))::(4,.osl 1 1 0 (out_21.length))::(6,.d (.bool grown_2))::(7,.d (.int .i64 i_19))::[],[some (.box (AG p0_)),some (.arr 1 (out_21.map eB))]⟩
def Jg3:St:=⟨(1,.ptr 0 0)::(3,.d (.sl (r147.map Ak)))::(4,.osl 1 1 0 (out_22.length))::(6,.d (.bool grown_3))::[],[some (.box (AG p0_)),some (.arr 1 (out_22.map eB))]⟩
def Jg4:St:=⟨(1,.ptr 0 0)::(3,.d (.sl (r147.map Ak)))::(4,.osl 1 1 0 (out_23.length))::(6,.d (.bool grown_4))::(7,.d (.int .i64 i_19))::(8,.d (.int .i64 k_4))::[],[some (.box (AG p0_)),some (.arr 1 (out_23.map eB))]⟩
def Jg5:St:=⟨(1,.ptr 0 0)::(3,.d (.sl (r147.map Ak)))::(4,.osl 1 1 0 (out_24.length))::(6,.d (.bool grown_5))::(7,.d (.int .i64 i_19))::[],[some (.box (AG p0_)),some (.arr 1 (out_24.map eB))]⟩
def Jdz:St:=⟨(1,.ptr 0 0)::(3,.d (.sl (r147.map Ak)))::(4,.osl 1 1 0 (out_25.length))::(6,.d (.bool grown_6))::(7,.d (.int .i64 i_19))::(8,.d (.int .i64 k_4))::[],[some (.box (AG p0_)),some (.arr 1 (out_25.map eB))]⟩
def Ri:((List Bool)×Bool)->Ex->St->Prop:=xX 0 6 (λ (y:((List Bool)×Bool))=>Jg5 p0_ r147 i_19 y.1 y.2)
def Lx:((List Bool)×Bool×Int)->St:=(λ (x:((List Bool)×Bool×Int))=>Jg4 p0_ r147 i_19 x.1 x.2.1 x.2.2)
def Rj:((List Bool)×Bool)->Ex->St->Prop:=xX 0 4 (λ (y:((List Bool)×Bool))=>Jg3 p0_ r147 y.1 y.2)
def Ly:((List Bool)×Bool×Int)->St:=(λ (x:((List Bool)×Bool×Int))=>Jg2 p0_ r147 x.1 x.2.1 x.2.2)
def Rk:(List Bool)->Ex->St->Prop:=xX 0 2 (λ (y:(List Bool))=>Jg1 y)
def Lz:((List Bool)×Bool)->St:=(λ (x:((List Bool)×Bool))=>Jg0 p0_ r147 x.1 x.2)
variable {p0_ r147 out_17 i_18 out_18 out_19 grown_1 out_20 out_21 grown_2 i_19 out_22 grown_3 out_23 grown_4 k_4 out_24 grown_5 out_25 grown_6}
theorem Pt (x:((List Bool)×Int)) (z:(((List Bool)×Int)⊕(List Bool))) (H:Et n p0_ r147 x.1 x.2=some z):WP (cxk 73 0) (Az Try.f29) [1,1,0,1,0,0] (AE 0 (Lw p0_ r147) (Rh p0_ r147) z) (Lw p0_ r147 x):=by
 obtain ⟨out_17,i_18⟩:=x
 refine sq (sr (ck 2 (sp (AA Ak r147) (ck 1 (en (cn H (λ H=>?_) (λ H=>?_)))))))
 ·exact sk (qz (sq (bk 1 (rz (ck 4 (bx H λ x92 h381 H=>sp (AH Ak h381) (ck 1 (bx H λ r148 h382 H=>ca false (FN h382) (ck 1 (bx H λ l61 h383 H=>sp (Bd eB 1 1 h383) (ck 1 (ae (qN (qz (rz (ck 3 (ae (by cases H;exact og (sg [1,3,4,5])))))))))))))))))))
 ·exact ex 0 (qx (by cases H;exact xo rfl (sg [1,3,4])))
theorem Pu (x:((List Bool)×Bool×Int)) (z:(((List Bool)×Bool×Int)⊕((List Bool)×Bool))) (H:Db n p0_ r147 i_19 x.1 x.2.1 x.2.2=some z):WP (cxk 73 0) (Az Try.f29) [1,1,1,0,1,0,0,1,0,1,1,0,0,1,0,0,1,0,0] (AE 0 (Lx p0_ r147 i_19) (Ri p0_ r147 i_19) z) (Lx p0_ r147 i_19 x):=by
 obtain ⟨out_23,grown_4,k_4⟩:=x
 refine sq (sr (ck 3 (sp (AA Ar p0_.Rules) (ck 4 (bx H λ x93 h385 H=>sE (λ hg=>A3 1 1 (Dj h385 hg)) (sE (g:=decide (k_4<((p0_.Rules.length:Nat):Int))) (λ hg=>CN eB 1 0 (ty 4) (Dj h385 hg)) (gc 1 (decide (k_4<((p0_.Rules.length:Nat):Int))) (pA (en (cn H (λ H=>?_) (λ H=>?_)))))))))))
 ·refine sk (qz (sj (λ (x:((List Bool)×Bool))=>Jdz p0_ r147 i_19 k_4 x.1 x.2) (λ (x:((List Bool)×Bool))=>FI n k_4 x.1 x.2) z ?_ (λ hFR3_Alive_J1=>?_)))
  ·rintro ⟨out_25,grown_6⟩ H
   exact rz (ck 3 (ae (by cases H;exact og (sg [1,3,4,6,7,8]))))
  refine bk 7 (sr (ck 3 (bx H λ x94 h386 H=>sp (AH Ak h386) (ck 2 (bx H λ r149 h387 H=>ca false (Eb h387) (ck 6 (en (sr (ck 5 (bx H λ r150 h388 H=>cG false (leZ) rfl (λ hg=>FO (Dj h388 hg)) (Or.inl rfl) (CF (λ hh=>hh) (CF (λ hh=>hh) (EO))) rfl (bx H λ x95 h389 H=>sE (λ hg=>A3 1 1 (Dj h389 hg)) (sE (g:=r149.2) (λ hg=>CN eB 1 0 (ty 4) (Dj h389 hg)) (pA (en (cn H (λ H=>?_) (λ H=>?_))))))))))))))))
  ·exact sr (ck 2 (bx H λ x96 h390 H=>sp (A3 1 1 h390) (bx H λ l62 h391 H=>stA eB 1 0 (ty 4) h390 h391 (en (rg (tr (sn 4 1 1 (Cp h391)) (sn 69 1 1 (Cp h391))) (ck 1 (ae (qN (qs (sg [1,3,4,6,7,8]) (hFR3_Alive_J1 (l62,true) H))))))))))
  ·exact sk (qN (qs (sg [1,3,4,6,7,8]) (hFR3_Alive_J1 (out_23,grown_4) H)))
 ·exact ex 6 (qx (by cases H;exact xo rfl (sg [1,3,4,6,7])))
theorem Pv (x:((List Bool)×Bool×Int)) (z:(((List Bool)×Bool×Int)⊕((List Bool)×Bool))) (H:Eu n p0_ r147 x.1 x.2.1 x.2.2=some z):WP (cxk 73 0) (Az Try.f29) [1,1,1,0,1,0,0,1,0,1,1,0,0] (AE 0 (Ly p0_ r147) (Rj p0_ r147) z) (Ly p0_ r147 x):=by
 obtain ⟨out_21,grown_2,i_19⟩:=x
 refine sq (sr (ck 2 (sp (AA Ak r147) (ck 1 (en (cn H (λ H=>?_) (λ H=>?_)))))))
 ·exact sk (qz (sq (bk 5 (sr (ck 1 (en (bk 6 (bx H λ y92 h392 H=>lX Pu h392 (sg [1,3,4,6,7,8]) rfl λ s hE74=>qH (qN (qs (hE74) (rz (ck 3 (ae (by cases H;exact og (sg [1,3,4,6,7])))))))))))))))
 ·exact ex 4 (qx (by cases H;exact xo rfl (sg [1,3,4,6])))
theorem Pw (x:((List Bool)×Bool)) (z:(((List Bool)×Bool)⊕(List Bool))) (H:Hm n p0_ r147 x.1 x.2=some z):WP (cxk 73 0) (Az Try.f29) [1,1,1,0,1,0,0] (AE 0 (Lz p0_ r147) (Rk) z) (Lz p0_ r147 x):=by
 obtain ⟨out_19,grown_1⟩:=x
 refine sq (sr (ck 1 (en (cn H (λ H=>?_) (λ H=>?_)))))
 ·exact sk (qz (bk 3 (sr (ck 1 (en (sr (ck 1 (en (bk 4 (bx H λ y93 h393 H=>lX Pv h393 (sg [1,3,4,6,7]) rfl λ s hE75=>qH (qN (by cases H;exact og (tr (hE75) (sg [1,3,4,6]))))))))))))))
 ·exact ex 2 (qx (by cases H;exact xo rfl (sg [4])))
theorem T1 {z} (H:LU n p0_=some z):AL Try.prog 29 [.agg (AG p0_)] (.own 1 (z.map eB)):=by
 exact fO 73 (JgX p0_) Try.func29 (sr (ck 2 (en (sr (ck 1 (bx H λ r147 h380 H=>ca false (IN h380) (ck 3 (en (sq (sr (ck 1 (en (bk 0 (bx H λ y91 h384 H=>lX Pt h384 (sg [1,3,4,5]) rfl λ s hE73=>qH (qs (hE73) (sq (sr (ck 1 (en (bk 2 (bx H λ y94 h394 H=>lX Pw h394 (sg [1,3,4,6]) rfl λ s hE76=>qH (qs (hE76) (sr (ck 2 (en (re (by cases H;exact pr (rO (v:=.osl 0 1 0 (z.length)) [0] (ao vo)))))))))))))))))))))))))))))
end
section
variable (p0_:Ab) (r174:(List Aa)) (out_26:(List Int)) (near_1:(List Bool)) (i_20:Int) (out_27:(List Int)) (near_2:(List Bool)) (out_28:(List Int)) (near_3:(List Bool)) (grown_7:Bool) (out_29:(List Int)) (out_30:(List Int)) (ring_1:(List Bool)) (grown_8:Bool) (i_21:Int) (out_31:(List Int)) (ring_2:(List Bool)) (grown_9:Bool) (out_32:(List Int)) (ring_3:(List Bool)) (grown_10:Bool) (k_5:Int) (out_33:(List Int)) (ring_4:(List Bool)) (grown_11:Bool) (out_34:(List Int)) (ring_5:(List Bool)) (grown_12:Bool)
def Jg6:St:=⟨(0,.agg [.d (.int .i64 p0_.Modes),.d (.int .u8 p0_.Accept),.d (.sl (p0_.Rules.map Ar))])::[],[]⟩
def Jg7:St:=⟨(1,.ptr 0 0)::(3,.d (.sl (r174.map Ak)))::(4,.osl 1 1 0 (out_26.length))::(5,.osl 2 1 0 (near_1.length))::(6,.d (.int .i64 i_20))::[],[some (.box (AG p0_)),some (.arr 1 (out_26.map Ap)),some (.arr 1 (near_1.map eB))]⟩
def Jg8:St:=⟨(1,.ptr 0 0)::(3,.d (.sl (r174.map Ak)))::(4,.osl 1 1 0 (out_27.length))::(5,.osl 2 1 0 (near_2.length))::[],[some (.box (AG p0_)),some (.arr 1 (out_27.map Ap)),some (.arr 1 (near_2.map eB))]⟩
def Se:((List Int)×(List Bool))->Ex->St->Prop:=xX 0 0 (λ (y:((List Int)×(List Bool)))=>Jg8 p0_ r174 y.1 y.2)
def Ml:((List Int)×(List Bool)×Int)->St:=(λ (x:((List Int)×(List Bool)×Int))=>Jg7 p0_ r174 x.1 x.2.1 x.2.2)
def Jg9:St:=⟨(1,.ptr 0 0)::(3,.d (.sl (r174.map Ak)))::(4,.osl 1 1 0 (out_28.length))::(5,.osl 2 1 0 (near_3.length))::(7,.d (.bool grown_7))::[],[some (.box (AG p0_)),some (.arr 1 (out_28.map Ap)),some (.arr 1 (near_3.map eB))]⟩
def Jha:St:=⟨(4,.osl 0 1 0 (out_29.length))::[],[some (.arr 1 (out_29.map Ap))]⟩
def Jhb:St:=⟨(1,.ptr 0 0)::(3,.d (.sl (r174.map Ak)))::(4,.osl 1 1 0 (out_30.length))::(5,.osl 2 1 0 (near_3.length))::(7,.d (.bool grown_8))::(8,.osl 3 1 0 (ring_1.length))::(9,.d (.int .i64 i_21))::[],[some (.box (AG p0_)),some (.arr 1 (out_30.map Ap)),some (.arr 1 (near_3.map eB)),some (.arr 1 (ring_1.map eB))]⟩
def Jhc:St:=⟨(1,.ptr 0 0)::(3,.d (.sl (r174.map Ak)))::(4,.osl 1 1 0 (out_31.length))::(7,.d (.bool grown_9))::(8,.osl 2 1 0 (ring_2.length))::[],[some (.box (AG p0_)),some (.arr 1 (out_31.map Ap)),some (.arr 1 (ring_2.map eB))]⟩
def Jhd:St:=⟨(1,.ptr 0 0)::(3,.d (.sl (r174.map Ak)))::(4,.osl 1 1 0 (out_32.length))::(5,.osl 2 1 0 (near_3.length))::(7,.d (.bool grown_10))::(8,.osl 3 1 0 (ring_3.length))::(9,.d (.int .i64 i_21))::(10,.d (.int .i64 k_5))::[],[some (.box (AG p0_)),some (.arr 1 (out_32.map Ap)),some (.arr 1 (near_3.map eB)),some (.arr 1 (ring_3.map eB))]⟩
def Jhe:St:=⟨(1,.ptr 0 0)::(3,.d (.sl (r174.map Ak)))::(4,.osl 1 1 0 (out_33.length))::(5,.osl 2 1 0 (near_3.length))::(7,.d (.bool grown_11))::(8,.osl 3 1 0 (ring_4.length))::(9,.d (.int .i64 i_21))::[],[some (.box (AG p0_)),some (.arr 1 (out_33.map Ap)),some (.arr 1 (near_3.map eB)),some (.arr 1 (ring_4.map eB))]⟩
def JdA:St:=⟨(1,.ptr 0 0)::(3,.d (.sl (r174.map Ak)))::(4,.osl 1 1 0 (out_34.length))::(5,.osl 2 1 0 (near_3.length))::(7,.d (.bool grown_12))::(8,.osl 3 1 0 (ring_5.length))::(9,.d (.int .i64 i_21))::(10,.d (.int .i64 k_5))::[],[some (.box (AG p0_)),some (.arr 1 (out_34.map Ap)),some (.arr 1 (near_3.map eB)),some (.arr 1 (ring_5.map eB))]⟩
def Sf:((List Int)×(List Bool)×Bool)->Ex->St->Prop:=xX 0 6 (λ (y:((List Int)×(List Bool)×Bool))=>Jhe p0_ r174 near_3 i_21 y.1 y.2.1 y.2.2)
def Mm:((List Int)×(List Bool)×Bool×Int)->St:=(λ (x:((List Int)×(List Bool)×Bool×Int))=>Jhd p0_ r174 near_3 i_21 x.1 x.2.1 x.2.2.1 x.2.2.2)
def Sg:((List Int)×(List Bool)×Bool)->Ex->St->Prop:=xX 0 4 (λ (y:((List Int)×(List Bool)×Bool))=>Jhc p0_ r174 y.1 y.2.1 y.2.2)
def Mn:((List Int)×(List Bool)×Bool×Int)->St:=(λ (x:((List Int)×(List Bool)×Bool×Int))=>Jhb p0_ r174 near_3 x.1 x.2.1 x.2.2.1 x.2.2.2)
def Sh:(List Int)->Ex->St->Prop:=xX 0 2 (λ (y:(List Int))=>Jha y)
def Mo:((List Int)×(List Bool)×Bool)->St:=(λ (x:((List Int)×(List Bool)×Bool))=>Jg9 p0_ r174 x.1 x.2.1 x.2.2)
variable {p0_ r174 out_26 near_1 i_20 out_27 near_2 out_28 near_3 grown_7 out_29 out_30 ring_1 grown_8 i_21 out_31 ring_2 grown_9 out_32 ring_3 grown_10 k_5 out_33 ring_4 grown_11 out_34 ring_5 grown_12}
theorem Rl (x:((List Int)×(List Bool)×Int)) (z:(((List Int)×(List Bool)×Int)⊕((List Int)×(List Bool)))) (H:Fp n p0_ r174 x.1 x.2.1 x.2.2=some z):WP (cxk 87 0) (Az Try.f55) [1,1,0,1,0,0] (AE 0 (Ml p0_ r174) (Se p0_ r174) z) (Ml p0_ r174 x):=by
 obtain ⟨out_26,near_1,i_20⟩:=x
 refine sq (sr (ck 2 (sp (AA Ak r174) (ck 1 (en (cn H (λ H=>?_) (λ H=>?_)))))))
 ·exact sk (qz (sq (bk 1 (sr (ck 2 (bx H λ l65 h426 H=>sp (Bd Ap 1 1 h426) (ck 1 (en (rz (ck 4 (bx H λ x100 h427 H=>sp (AH Ak h427) (ck 1 (bx H λ r175 h428 H=>ca false (FN h428) (ck 1 (bx H λ l66 h429 H=>sp (Bd eB 2 1 h429) (ck 1 (ae (qN (qz (rz (ck 3 (ae (by cases H;exact og (sg [1,3,4,5,6]))))))))))))))))))))))))
 ·exact ex 0 (qx (by cases H;exact xo rfl (sg [1,3,4,5])))
theorem Rm (x:((List Int)×(List Bool)×Bool×Int)) (z:(((List Int)×(List Bool)×Bool×Int)⊕((List Int)×(List Bool)×Bool))) (H:Fq n p0_ r174 near_3 i_21 x.1 x.2.1 x.2.2.1 x.2.2.2=some z):WP (cxk 87 0) (Az Try.f55) [1,1,1,0,1,0,0,1,0,1,1,0,1,0,0,1,0,0,1,0,0] (AE 0 (Mm p0_ r174 near_3 i_21) (Sf p0_ r174 near_3 i_21) z) (Mm p0_ r174 near_3 i_21 x):=by
 obtain ⟨out_32,ring_3,grown_10,k_5⟩:=x
 refine sq (sr (ck 3 (sp (AA Ar p0_.Rules) (ck 4 (bx H λ x101 h432 H=>sE (λ hg=>A3 3 1 (Dj h432 hg)) (sE (g:=decide (k_5<((p0_.Rules.length:Nat):Int))) (λ hg=>CN eB 3 0 (ty 4) (Dj h432 hg)) (gc 1 (decide (k_5<((p0_.Rules.length:Nat):Int))) (pA (en (cn H (λ H=>?_) (λ H=>?_)))))))))))
 ·refine sk (qz (sj (λ (x:((List Int)×(List Bool)×Bool))=>JdA p0_ r174 near_3 i_21 k_5 x.1 x.2.1 x.2.2) (λ (x:((List Int)×(List Bool)×Bool))=>GE n k_5 x.1 x.2.1 x.2.2) z ?_ (λ hFR3_home_J1=>?_)))
  ·rintro ⟨out_34,ring_5,grown_12⟩ H
   exact rz (ck 3 (ae (by cases H;exact og (sg [1,3,4,5,7,8,9,10]))))
  refine bk 7 (sr (ck 3 (bx H λ x102 h433 H=>sp (AH Ak h433) (ck 2 (bx H λ r176 h434 H=>ca false (Eb h434) (ck 6 (en (sr (ck 5 (bx H λ r177 h435 H=>cG false (leZ) rfl (λ hg=>FO (Dj h435 hg)) (Or.inl rfl) (CF (λ hh=>hh) (CF (λ hh=>hh) (EO))) rfl (bx H λ x103 h436 H=>sE (λ hg=>A3 2 1 (Dj h436 hg)) (sE (g:=r176.2) (λ hg=>CN eB 2 0 (ty 4) (Dj h436 hg)) (pA (en (cn H (λ H=>?_) (λ H=>?_))))))))))))))))
  ·exact sr (ck 2 (bx H λ x104 h437 H=>sp (A3 3 1 h437) (bx H λ l68 h438 H=>stA eB 3 0 (ty 4) h437 h438 (en (sq (rg (tr (sn 8 3 1 (Cp h438)) (sn 78 3 1 (Cp h438))) (ck 3 (bx H λ x105 h439 H=>sp (A3 1 1 h439) (bx H λ l69 h440 H=>stA Ap 1 0 (ty 3) h439 h440 (en (rg (tr (sn 4 1 1 (Cp h440)) (sn 81 1 1 (Cp h440))) (ck 1 (ae (qN (qs (sg [1,3,4,5,7,8,9,10]) (hFR3_home_J1 (l69,l68,true) H))))))))))))))))
  ·exact sk (qN (qs (sg [1,3,4,5,7,8,9,10]) (hFR3_home_J1 (out_32,ring_3,grown_10) H)))
 ·exact ex 6 (qx (by cases H;exact xo rfl (sg [1,3,4,5,7,8,9])))
theorem Rn (x:((List Int)×(List Bool)×Bool×Int)) (z:(((List Int)×(List Bool)×Bool×Int)⊕((List Int)×(List Bool)×Bool))) (H:Fr n p0_ r174 near_3 x.1 x.2.1 x.2.2.1 x.2.2.2=some z):WP (cxk 87 0) (Az Try.f55) [1,1,1,0,1,0,0,1,0,1,1,0,1,0,0] (AE 0 (Mn p0_ r174 near_3) (Sg p0_ r174) z) (Mn p0_ r174 near_3 x):=by
 obtain ⟨out_30,ring_1,grown_8,i_21⟩:=x
 refine sq (sr (ck 2 (sp (AA Ak r174) (ck 1 (en (cn H (λ H=>?_) (λ H=>?_)))))))
 ·exact sk (qz (sq (bk 5 (sr (ck 1 (en (bk 6 (bx H λ y100 h441 H=>lX Rm h441 (sg [1,3,4,5,7,8,9,10]) rfl λ s hE81=>qH (qN (qs (hE81) (rz (ck 3 (ae (by cases H;exact og (sg [1,3,4,5,7,8,9])))))))))))))))
 ·exact ex 4 (qx (by cases H;exact xo rfl (sg [1,3,4,7,8])))
theorem Ro (x:((List Int)×(List Bool)×Bool)) (z:(((List Int)×(List Bool)×Bool)⊕(List Int))) (H:Im n p0_ r174 x.1 x.2.1 x.2.2=some z):WP (cxk 87 0) (Az Try.f55) [1,1,1,0,1,0,0] (AE 0 (Mo p0_ r174) (Sh) z) (Mo p0_ r174 x):=by
 obtain ⟨out_28,near_3,grown_7⟩:=x
 refine sq (sr (ck 1 (en (cn H (λ H=>?_) (λ H=>?_)))))
 ·exact sk (qz (bk 3 (sr (ck 1 (en (sr (ck 2 (bx H λ l67 h431 H=>sp (Bd eB 3 1 h431) (ck 1 (en (sq (sr (ck 1 (en (bk 4 (bx H λ y101 h442 H=>lX Rn h442 (sg [1,3,4,5,7,8,9]) rfl λ s hE82=>qH (qs (hE82) (rz (ck 2 (ae (qN (by cases H;exact og (sg [1,3,4,5,7])))))))))))))))))))))))
 ·exact ex 2 (qx (by cases H;exact xo rfl (sg [4])))
theorem VA {z} (H:Nw n p0_=some z):AL Try.prog 55 [.agg (AG p0_)] (.own 1 (z.map Ap)):=by
 exact fO 87 (Jg6 p0_) Try.func55 (sr (ck 2 (en (sr (ck 1 (bx H λ r174 h425 H=>ca false (IN h425) (ck 5 (en (sq (sr (ck 1 (en (bk 0 (bx H λ y99 h430 H=>lX Rl h430 (sg [1,3,4,5,6]) rfl λ s hE80=>qH (qs (hE80) (sq (sr (ck 1 (en (bk 2 (bx H λ y102 h443 H=>lX Ro h443 (sg [1,3,4,5,7]) rfl λ s hE83=>qH (qs (hE83) (sr (ck 2 (en (re (by cases H;exact pr (rO (v:=.osl 0 1 0 (z.length)) [0] (ao vo)))))))))))))))))))))))))))))
end
end Go.AI
end
section
namespace Go.AI
open Go.Proofs
set_option maxRecDepth 10000
variable {n:Nat}
section
variable (p0_:Ab) (p1_:(List Int)) (r178:(List Aa)) (r179:(List Bool)) (r180:(List Int)) (path_1:(List Int)) (s_1:Aa) (size_1:Int) (i_22:Int) (path_2:(List Int)) (s_2:Aa) (fit_1:(List Int)) (k_6:Int) (fit_2:(List Int)) (fit_3:(List Int)) (path_3:(List Int)) (s_3:Aa) (path_4:(List Int))
def Jhf:St:=⟨(0,.agg [.d (.int .i64 p0_.Modes),.d (.int .u8 p0_.Accept),.d (.sl (p0_.Rules.map Ar))])::(1,.d (.sl (p1_.map eU8)))::[],[]⟩
def Jhg:St:=⟨(1,.d (.sl (p1_.map eU8)))::(2,.ptr 0 0)::(6,.d (.sl (r178.map Ak)))::(7,.d (.sl (r179.map eB)))::(8,.d (.sl (r180.map Ap)))::(9,.osl 1 1 0 (path_1.length))::(10,.ptr 2 0)::(11,.d (.int .i64 size_1))::(12,.d (.int .i64 i_22))::[],[some (.box (AG p0_)),some (.arr 1 (path_1.map Ap)),some (.box (FK s_1))]⟩
def Jhh:St:=⟨(2,.ptr 0 0)::(6,.d (.sl (r178.map Ak)))::(8,.d (.sl (r180.map Ap)))::(9,.osl 1 1 0 (path_2.length))::(10,.ptr 2 0)::[],[some (.box (AG p0_)),some (.arr 1 (path_2.map Ap)),some (.box (FK s_2))]⟩
def Jhi:St:=⟨(1,.d (.sl (p1_.map eU8)))::(2,.ptr 0 0)::(6,.d (.sl (r178.map Ak)))::(7,.d (.sl (r179.map eB)))::(8,.d (.sl (r180.map Ap)))::(9,.osl 1 1 0 (path_1.length))::(10,.ptr 2 0)::(11,.d (.int .i64 size_1))::(12,.d (.int .i64 i_22))::(13,.osl 3 1 0 (fit_1.length))::(14,.d (.int .i64 k_6))::[],[some (.box (AG p0_)),some (.arr 1 (path_1.map Ap)),some (.box (FK s_1)),some (.arr 1 (fit_1.map Ap))]⟩
def Jhj:St:=⟨(1,.d (.sl (p1_.map eU8)))::(2,.ptr 0 0)::(6,.d (.sl (r178.map Ak)))::(7,.d (.sl (r179.map eB)))::(8,.d (.sl (r180.map Ap)))::(9,.osl 1 1 0 (path_1.length))::(10,.ptr 2 0)::(11,.d (.int .i64 size_1))::(12,.d (.int .i64 i_22))::(13,.osl 3 1 0 (fit_2.length))::[],[some (.box (AG p0_)),some (.arr 1 (path_1.map Ap)),some (.box (FK s_1)),some (.arr 1 (fit_2.map Ap))]⟩
def Jhk:St:=⟨(1,.d (.sl (p1_.map eU8)))::(2,.ptr 0 0)::(6,.d (.sl (r178.map Ak)))::(7,.d (.sl (r179.map eB)))::(8,.d (.sl (r180.map Ap)))::(9,.osl 1 1 0 (path_1.length))::(10,.ptr 2 0)::(11,.d (.int .i64 size_1))::(12,.d (.int .i64 i_22))::(13,.osl 3 1 0 (fit_3.length))::(14,.d (.int .i64 k_6))::[],[some (.box (AG p0_)),some (.arr 1 (path_1.map Ap)),some (.box (FK s_1)),some (.arr 1 (fit_3.map Ap))]⟩
def Si:(List Int)->Ex->St->Prop:=xX 0 2 (λ (y:(List Int))=>Jhj p0_ p1_ r178 r179 r180 path_1 s_1 size_1 i_22 y)
def Mp:((List Int)×Int)->St:=(λ (x:((List Int)×Int))=>Jhi p0_ p1_ r178 r179 r180 path_1 s_1 size_1 i_22 x.1 x.2)
def Sj:((List Int)×Aa)->Ex->St->Prop:=xX 0 0 (λ (y:((List Int)×Aa))=>Jhh p0_ r178 r180 y.1 y.2)
def Mq:((List Int)×Aa×Int×Int)->St:=(λ (x:((List Int)×Aa×Int×Int))=>Jhg p0_ p1_ r178 r179 r180 x.1 x.2.1 x.2.2.1 x.2.2.2)
def Jhl:St:=⟨(2,.ptr 0 0)::(6,.d (.sl (r178.map Ak)))::(8,.d (.sl (r180.map Ap)))::(9,.osl 1 1 0 (path_3.length))::(10,.ptr 2 0)::[],[some (.box (AG p0_)),some (.arr 1 (path_3.map Ap)),some (.box (FK s_3))]⟩
def Jhm:St:=⟨(9,.osl 0 1 0 (path_4.length))::[],[some (.arr 1 (path_4.map Ap))]⟩
def Sk:(List Int)->Ex->St->Prop:=xX 0 4 (λ (y:(List Int))=>Jhm y)
def Mr:((List Int)×Aa)->St:=(λ (x:((List Int)×Aa))=>Jhl p0_ r178 r180 x.1 x.2)
variable {p0_ p1_ r178 r179 r180 path_1 s_1 size_1 i_22 path_2 s_2 fit_1 k_6 fit_2 fit_3 path_3 s_3 path_4}
theorem Rp (x:((List Int)×Int)) (z:(((List Int)×Int)⊕(List Int))) (H:Fs n p0_ p1_ r178 r179 r180 path_1 s_1 size_1 i_22 x.1 x.2=some z):WP (cxk 130 0) (Az Try.f30) [1,1,1,1,0,1,0,0,1,0,0,1,0,1,0,0] (AE 0 (Mp p0_ p1_ r178 r179 r180 path_1 s_1 size_1 i_22) (Si p0_ p1_ r178 r179 r180 path_1 s_1 size_1 i_22) z) (Mp p0_ p1_ r178 r179 r180 path_1 s_1 size_1 i_22 x):=by
 obtain ⟨fit_1,k_6⟩:=x
 refine sq (sr (ck 3 (sp (AA Ar p0_.Rules) (ck 1 (en (cn H (λ H=>?_) (λ H=>?_)))))))
 ·refine sk (qz (sj (λ (x:(List Int))=>Jhk p0_ p1_ r178 r179 r180 path_1 s_1 size_1 i_22 k_6 x) (λ (x:(List Int))=>GG n k_6 x) z ?_ (λ hFR3_Walk_J1=>?_)))
  ·intro fit_3 H
   exact rz (ck 3 (ae (by cases H;exact og (sg [1,2,6,7,8,9,10,11,12,13,14]))))
  refine bk 3 (sr (ck 3 (bx H λ r182 h449 H=>ca false (Eb h449) (ck 6 (en (sr (ck 5 (bx H λ r183 h450 H=>cG false (leZ) rfl (λ hg=>FO (Dj h450 hg)) (Or.inl rfl) (CF (λ hh=>hh) (CF (λ hh=>hh) (EO))) rfl (bx H λ x107 h451 H=>sE (λ hg=>AH eB (Dj h451 hg)) (gc 1 r182.2 (pA (en (cn H (λ H=>?_) (λ H=>?_))))))))))))))
  ·exact rz (ck 3 (bx H λ l70 h452 H=>sp (Bd Ap 3 1 h452) (ck 1 (ae (qN (qs (sg [1,2,6,7,8,9,10,11,12,13,14]) (hFR3_Walk_J1 l70 H)))))))
  ·exact sk (qN (qs (sg [1,2,6,7,8,9,10,11,12,13,14]) (hFR3_Walk_J1 fit_1 H)))
 ·exact ex 2 (qx (by cases H;exact xo rfl (sg [1,2,6,7,8,9,10,11,12,13])))
theorem Rq (x:((List Int)×Aa×Int×Int)) (z:(((List Int)×Aa×Int×Int)⊕((List Int)×Aa))) (H:GH n p0_ p1_ r178 r179 r180 x.1 x.2.1 x.2.2.1 x.2.2.2=some z):WP (cxk 130 0) (Az Try.f30) [1,1,1,1,0,1,0,0] (AE 0 (Mq p0_ p1_ r178 r179 r180) (Sj p0_ r178 r180) z) (Mq p0_ p1_ r178 r179 r180 x):=by
 obtain ⟨path_1,s_1,size_1,i_22⟩:=x
 refine sq (sr (ck 2 (sp (AA eU8 p1_) (ck 3 (gc 1 (decide (i_22<((p1_.length:Nat):Int))) (pA (ck 2 (gc 1 ((decide (i_22<((p1_.length:Nat):Int)))&&(decide (i_22<10))) (pA (en (cn H (λ H=>?_) (λ H=>?_))))))))))))
 ·refine sk (qz (sq (bk 1 (sr (ck 2 (en (sq (sr (ck 1 (en (bk 2 (bx H λ y103 h453 H=>lX Rp h453 (sg [1,2,6,7,8,9,10,11,12,13,14]) rfl λ s hE84=>qH (qs (hE84) (sq (sr (ck 3 (en (cn H (λ H=>?_) (λ H=>?_)))))))))))))))))))
  ·exact ex 0 (qx (qX rfl (qx (by cases H;exact xo rfl (sg [2,6,8,9,10])))))
  ·exact sk (qz (sr (ck 3 (bx H λ x108 h454 H=>sp (AH eU8 h454) (ck 4 (bx H λ gd10 h455 H=>so (QL h455) (bx H λ x109 h456 H=>sp (A3 3 1 h456) (sp (CN Ap 3 0 (ty 3) h456) (ck 1 (en (sr (ck 3 (bx H λ l71 h457 H=>sp (Bd Ap 1 1 h457) (ck 1 (en (sr (ck 4 (bx H λ x110 h458 H=>sp (AH Ar h458) (ck 5 (en (rz (ck 3 (bx H λ r184 h459 H=>ca false (Eb h459) (ck 4 (ae (qN (qz (rz (ck 3 (ae (by cases H;exact og (sg [1,2,6,7,8,9,10,11,12]))))))))))))))))))))))))))))))))
 ·exact ex 0 (qx (by cases H;exact xo rfl (sg [2,6,8,9,10])))
theorem Rr (x:((List Int)×Aa)) (z:(((List Int)×Aa)⊕(List Int))) (H:GI n p0_ r178 r180 x.1 x.2=some z):WP (cxk 130 0) (Az Try.f30) [1,1,1,1,1,0,0,0] (AE 0 (Mr p0_ r178 r180) (Sk) z) (Mr p0_ r178 r180 x):=by
 obtain ⟨path_3,s_3⟩:=x
 refine sq (sr (ck 2 (bx H λ r185 h461 H=>ca false (FN h461) (ck 1 (en (cn H (λ H=>?_) (λ H=>?_)))))))
 ·exact sk (qz (bk 5 (sr (ck 3 (bx H λ r186 h462 H=>ca false (FO h462) (bx H λ x111 h463 H=>sp (AH Ap h463) (ck 2 (en (sr (ck 3 (bx H λ l72 h464 H=>sp (Bd Ap 1 1 h464) (ck 1 (en (rz (ck 3 (bx H λ r187 h465 H=>ca false (Eb h465) (ck 4 (ae (qN (by cases H;exact og (sg [2,6,8,9,10])))))))))))))))))))))
 ·exact ex 4 (qx (by cases H;exact xo rfl (sg [9])))
theorem VB {z} (H:Nx n p0_ p1_=some z):AL Try.prog 30 [.agg (AG p0_),.d (.sl (p1_.map eU8))] (.tup [.own 1 (z.1.map Ap),.d (.bool z.2)]):=by
 refine fO 130 (Jhf p0_ p1_) Try.func30 (sr (ck 3 (en (sr (ck 1 (bx H λ r178 h444 H=>ca false (IN h444) (ck 1 (bx H λ r179 h445 H=>ca false (T1 h445) (ck 1 (bx H λ r180 h446 H=>ca false (VA h446) (ck 3 (en (sq (sr (ck 1 (bx H λ x106 h447 H=>sp (AH eB h447) (ck 2 (en (cn H (λ H=>?_) (λ H=>?_))))))))))))))))))))
 ·exact sr (ck 3 (en (re (qr (by cases H;exact pr (rT (vs:=[.osl 1 1 0 (List.length ([]:List Int)),.d (.bool false)]) [1] (t1 (ao vo) (t1 (ad vd) (t0)))))))))
 ·exact sk (qz (sr (ck 1 (bx H λ r181 h448 H=>ca false (JZ h448) (ck 4 (en (sq (sr (ck 1 (en (bk 0 (bx H λ y104 h460 H=>lX Rq h460 (sg [1,2,6,7,8,9,10,11,12]) rfl λ s hE85=>qH (qs (hE85) (sq (bk 4 (bx H λ y105 h466 H=>lX Rr h466 (sg [2,6,8,9,10]) rfl λ s hE86=>qH (qs (hE86) (sr (ck 3 (en (re (by cases H;exact pr (rT (vs:=[.osl 0 1 0 (y105.length),.d (.bool true)]) [0] (t1 (ao vo) (t1 (ad vd) (t0))))))))))))))))))))))))))
end
section
variable (p0_:Ab) (p1_:(List Int)) (out_35:B4) (i_23:Int) (out_36:B4)
def Jhn:St:=⟨(0,.agg [.d (.int .i64 p0_.Modes),.d (.int .u8 p0_.Accept),.d (.sl (p0_.Rules.map Ar))])::(1,.d (.sl (p1_.map Ap)))::[],[]⟩
def Jho:St:=⟨(1,.d (.sl (p1_.map Ap)))::(2,.ptr 0 0)::(4,.ptr 1 0)::(5,.ptr 2 0)::(6,.d (.int .i64 i_23))::[],[some (.box (AG p0_)),some (.box [.d (.str []),.osl 3 1 0 (List.length ([]:List Int)),.d (.int .i64 0),.d (.int .i64 0),.d (.int .i64 0),.d (.int .u8 0),.d (.bool false)]),some (.box (Vp out_35 (.osl 4 1 0 (out_35.Cells.length)))),some (.arr 1 (List.map eU8 ([]:List Int))),some (.arr 1 (out_35.Cells.map eU8))]⟩
def Jhp:St:=⟨(2,.ptr 0 0)::(4,.ptr 1 0)::(5,.ptr 2 0)::[],[some (.box (AG p0_)),some (.box [.d (.str []),.osl 3 1 0 (List.length ([]:List Int)),.d (.int .i64 0),.d (.int .i64 0),.d (.int .i64 0),.d (.int .u8 0),.d (.bool false)]),some (.box (Vp out_36 (.osl 4 1 0 (out_36.Cells.length)))),some (.arr 1 (List.map eU8 ([]:List Int))),some (.arr 1 (out_36.Cells.map eU8))]⟩
def T3:(B4⊕B4)->Ex->St->Prop:=xS (xX 0 0 (λ (y:B4)=>Jhp p0_ y)) (xR ty Try.f23 (λ (y:B4)=>.agg [.d (.str y.Text),.own 1 (y.Cells.map eU8),.d (.int .i64 y.At),.d (.int .i64 y.End.Mode),.d (.int .i64 y.End.Last),.d (.int .u8 y.End.Need),.d (.bool y.Ok)]))
def NG:(B4×Int)->St:=(λ (x:(B4×Int))=>Jho p0_ p1_ x.1 x.2)
variable {p0_ p1_ out_35 i_23 out_36}
theorem Ms (x:(B4×Int)) (z:((B4×Int)⊕(B4⊕B4))) (H:Gh n p0_ p1_ x.1 x.2=some z):WP (cxk 69 0) (Az Try.f23) [1,1,0,1,0,0] (AE 0 (NG p0_ p1_) (T3 p0_) z) (NG p0_ p1_ x):=by
 obtain ⟨out_35,i_23⟩:=x
 refine sq (sr (ck 2 (sp (AA Ap p1_) (ck 1 (en (cn H (λ H=>?_) (λ H=>?_)))))))
 ·refine sk (qz (sq (bk 1 (sr (ck 5 (bx H λ x112 h468 H=>sp (AH Ap h468) (ck 1 (bx H λ r189 h469 H=>ca true (Eb h469) (ck 6 (en (sq (sr (ck 2 (en (cn H (λ H=>?_) (λ H=>?_))))))))))))))))
  ·exact sr (ck 2 (en (re (qr (qR (qr (by cases H;exact ro rfl (rO (v:=.agg [.d (.str out_35.Text),.osl 4 1 0 (out_35.Cells.length),.d (.int .i64 out_35.At),.d (.int .i64 out_35.End.Mode),.d (.int .i64 out_35.End.Last),.d (.int .u8 out_35.End.Need),.d (.bool out_35.Ok)]) [4] (a1 (c1 vd (c1 vo (c1 vd (c1 vd (c1 vd (c1 vd (c1 vd (c0)))))))))))))))))
  ·exact sk (qz (sr (ck 6 (bx H λ x113 h470 H=>sp (AH Ap h470) (ck 1 (bx H λ x114 h471 H=>sp (AH Ar h471) (ck 2 (bx H λ s9 h472 H=>sp (Jai h472) (ck 2 (en (sr (ck 6 (bx H λ x115 h473 H=>sp (AH Ap h473) (ck 1 (bx H λ x116 h474 H=>sp (AH Ar h474) (ck 2 (bx H λ l73 h475 H=>sp (JeQ eU8 4 1 h475) (ck 2 (en (sr (ck 3 (en (rz (ck 5 (ae (qN (qz (rz (ck 3 (ae (by cases H;exact og (sg [1,2,4,5,6]))))))))))))))))))))))))))))))))
 ·exact ex 0 (qx (by cases H;exact xo rfl (sg [2,4,5])))
theorem WX {z} (H:PO n p0_ p1_=some z):AL Try.prog 23 [.agg (AG p0_),.d (.sl (p1_.map Ap))] (.agg [.d (.str z.Text),.own 1 (z.Cells.map eU8),.d (.int .i64 z.At),.d (.int .i64 z.End.Mode),.d (.int .i64 z.End.Last),.d (.int .u8 z.End.Need),.d (.bool z.Ok)]):=by
 refine fO 69 (Jhn p0_ p1_) Try.func23 (sr (ck 2 (en (sr (bx H λ r188 h467 H=>ca false (JZ h467) (ck 3 (en (sq (sr (ck 1 (en (bk 0 (bx H λ y106 h476 H=>?_)))))))))))))
 rcases y106 with y107|y108
 ·exact lX Ms h476 (tr (tr (Co 1 1 1 (by kernel_rfl)) (Co 2 1 1 (by kernel_rfl))) (sg [1,2,4,5,6])) rfl λ s hE87=>qH (qs (hE87) (sr (ck 3 (bx H λ r190 h477 H=>ca false (FN h477) (ck 2 (en (sr (ck 2 (en (re (by cases H;exact pr (rO (v:=.agg [.d (.str y107.Text),.osl 4 1 0 (y107.Cells.length),.d (.int .i64 y107.At),.d (.int .i64 y107.End.Mode),.d (.int .i64 y107.End.Last),.d (.int .u8 y107.End.Need),.d (.bool r190)]) [4] (a1 (c1 vd (c1 vo (c1 vd (c1 vd (c1 vd (c1 vd (c1 vd (c0)))))))))))))))))))))
 ·exact lR Ms h476 (tr (tr (Co 1 1 1 (by kernel_rfl)) (Co 2 1 1 (by kernel_rfl))) (sg [1,2,4,5,6])) rfl λ s hE88=>qR (qr (by cases H;exact pr hE88))
end
section
variable (p0_:K2) (p1_:(List Int)) (r191:Bool) (r192:Ab) (r194:B4) (k_7:Int) (r197:((List (List UInt8))×Int)) (found_11:Bool) (i_24:Int) (found_12:Bool)
def Jhq:St:=⟨(0,.agg [.d (.int .u8 p0_.Base),.d (.int .u8 p0_.Drop),.d (.sl (p0_.More.map Ft))])::(1,.d (.sl (p1_.map eU8)))::[],[]⟩
def Jhr:St:=⟨(5,.d (.bool r191))::(6,.ptr 0 0)::(9,.ptr 1 0)::(13,.d (.int .i64 k_7))::[],[some (.box (AG r192)),some (.box (WW r194))]⟩
def Jhs:St:=⟨(5,.d (.bool r191))::(6,.ptr 0 0)::(9,.ptr 1 0)::[],[some (.box (AG r192)),some (.box (WW r194))]⟩
def Ho:(Unit⊕Bool)->Ex->St->Prop:=xS (xX 0 0 (λ (y:Unit)=>Jhs r191 r192 r194)) (xR ty Try.f11 (λ (y:Bool)=>.d (.bool y)))
def DS:Int->St:=(λ (x:Int)=>Jhr r191 r192 r194 x)
def Jht:St:=⟨(5,.d (.bool r191))::(9,.ptr 0 0)::(14,.d (.sl (r197.1.map eS)))::(16,.d (.bool found_11))::(17,.d (.int .i64 i_24))::[],[some (.box (WW r194))]⟩
def Jhu:St:=⟨(5,.d (.bool r191))::(16,.d (.bool found_12))::[],[]⟩
def Hp:Bool->Ex->St->Prop:=xX 0 2 (λ (y:Bool)=>Jhu r191 y)
def DT:(Bool×Int)->St:=(λ (x:(Bool×Int))=>Jht r191 r194 r197 x.1 x.2)
variable {p0_ p1_ r191 r192 r194 k_7 r197 found_11 i_24 found_12}
theorem DC (x:Int) (z:(Int⊕(Unit⊕Bool))) (H:BF n r191 r192 r194 x=some z):WP (cxk 115 0) (Az Try.f11) [1,1,1,1,1,1,1,1,1,0,1,0,0] (AE 0 (DS r191 r192 r194) (Ho r191 r192 r194) z) (DS r191 r192 r194 x):=by
 revert H
 generalize x=k_7
 intro H
 refine sq (sr (ck 3 (sp (AA eU8 r194.Cells) (ck 1 (en (cn H (λ H=>?_) (λ H=>?_)))))))
 ·refine sk (qz (sq (bk 1 (sr (ck 4 (bx H λ l75 h484 H=>sp (TH eU8 1 h484) (bx H λ r196 h485 H=>ca false (Lp h485) (ck 1 (en (cn H (λ H=>?_) (λ H=>?_)))))))))))
  ·exact sr (ck 1 (en (re (qR (qr (by cases H;exact ro rfl rd))))))
  ·exact sk (qN (qz (rz (ck 3 (ae (by cases H;exact og (sg [5,6,9,13])))))))
 ·exact ex 0 (qx (by cases H;exact xo rfl (sg [5,6,9])))
theorem G2 (x:(Bool×Int)) (z:((Bool×Int)⊕Bool)) (H:A6 n r191 r194 r197 x.1 x.2=some z):WP (cxk 115 0) (Az Try.f11) [1,1,1,1,1,1,1,1,1,1,1,1,0,1,0,0] (AE 0 (DT r191 r194 r197) (Hp r191) z) (DT r191 r194 r197 x):=by
 obtain ⟨found_11,i_24⟩:=x
 refine sq (sr (ck 2 (sp (AA eS r197.1) (ck 1 (en (cn H (λ H=>?_) (λ H=>?_)))))))
 ·exact sk (qz (sq (bk 3 (rz (ck 4 (bx H λ x117 h488 H=>sE (λ hg=>AH eS (Dj h488 hg)) (gc 1 (!found_11) (ck 1 (gc 2 (!found_11) (pO (ck 1 (ae (qN (qz (rz (ck 3 (ae (by cases H;exact og (sg [5,9,14,16,17])))))))))))))))))))
 ·exact ex 2 (qx (by cases H;exact xo rfl (sg [5,16])))
theorem H8 {z} (H:CG n p0_ p1_=some z):AL Try.prog 11 [.agg (WV p0_),.d (.sl (p1_.map eU8))] (.d (.bool z)):=by
 refine fO 115 (Jhq p0_ p1_) Try.func11 (sr (ck 2 (en (sr (bx H λ r191 h478 H=>ca true (R7 h478) (ck 1 (en (sr (ck 1 (bx H λ r192 h479 H=>ca false (Vz h479) (ck 2 (en (sr (ck 2 (bx H λ r193 h480 H=>ca false (VB h480) (ck 5 (en (sr (ck 2 (sp (AA Ap r193.1) (ck 1 (bx H λ l74 h481 H=>sp (TH Ap 1 h481) (ck 1 (en (sr (ck 2 (bx H λ r194 h482 H=>ca false (WX h482) (ck 2 (en (sq (sr (ck 4 (gc 2 (!(!r193.2)) (pO (ck 2 (gc 1 (!((!r193.2)||(!r194.Ok))) (sE (g:=(!((!r193.2)||(!r194.Ok)))) (λ hg=>AA eU8 r194.Cells) (gc 1 (!((!r193.2)||(!r194.Ok))) (pO (en (cn H (λ H=>?_) (λ H=>?_))))))))))))))))))))))))))))))))))))))))))
 ·exact sr (ck 2 (en (re (qr (by cases H;exact pr rd)))))
 ·refine sk (qz (sr (ck 3 (bx H λ r195 h483 H=>ca false (Is h483) (ck 7 (en (sq (sr (ck 5 (gc 1 (!(r195.2.2 != 0)) (sE (g:=(!(r195.2.2 != 0))) (λ hg=>AA eU8 r194.Cells) (gc 1 (!(r195.2.2 != 0)) (pO (ck 3 (gc 2 (!((r195.2.2 != 0)||(r195.2.1 != ((r194.Cells.length:Nat):Int)))) (pO (en (cn H (λ H=>?_) (λ H=>?_)))))))))))))))))))
  ·exact sr (ck 1 (en (re (qr (by cases H;exact pr rd)))))
  ·refine sk (qz (sq (sr (ck 1 (en (bk 0 (bx H λ y109 h486 H=>?_)))))))
   rcases y109 with y110|y111
   ·exact lX DC h486 (sg [5,6,9,13]) rfl λ s hE89=>qH (qs (hE89) (sr (ck 3 (bx H λ r197 h487 H=>ca false (Hn h487) (ck 5 (en (sr (ck 3 (en (sq (sr (ck 1 (en (bk 2 (bx H λ y112 h489 H=>lX G2 h489 (sg [5,9,14,16,17]) rfl λ s hE90=>qH (qs (hE90) (sr (ck 3 (pA (ck 1 (en (re (by cases H;exact pr rd)))))))))))))))))))))))
   ·exact lR DC h486 (sg [5,6,9,13]) rfl λ s hE91=>qR (qr (by cases H;exact pr hE91))
end
end Go.AI
end
section
namespace Go.AI
def CRd (F:Nat->Option Obj) (l:List D) (cs:List Value):Prop:=l.length=cs.length/\∀ (i:Nat) (y:D) (v:Value),l[i]? = some y->cs[i]? = some v->Bt F y v
def Jm {α:Type} (P:Program) (t:TypeId) (enc:α->List D) (ok:α->Prop):Prop:=
 ∀ (H:Type) (e:TypeId×Value->H) (w:World) (base:Nat) (spare:Nat->Bool) (held:Bool) (fuel:Nat) (cs:List Value) (x:DataW H×List MemPlace),DataW.trod e P w base spare held fuel t cs=some x->∃ a:α,ok a/\CRd (λ b=>w.heap[b]?) (enc a) cs
theorem T4 {F:Nat->Option Obj} {y:D} {v:Value} (h:Bt F y v):CRd F [y] [v]:=by
 refine ⟨rfl,λ i a b ha hb=>?_⟩
 cases i with
 | zero=>simp at ha hb;subst ha;subst hb;exact h
 | succ i=>simp at ha
theorem YJ {P:Program} {t:TypeId} {k:IntKind} (ht:P.underlying t=some (.int k)):Jm P t (λ n=>[.int k n]) (λ n=>(Lit.int k n).wf=true):=by
 intro H e w base spare held fuel cs x h
 obtain ⟨n,rfl,_,hw⟩:=DataW.trod_int ht h
 exact ⟨n,hw,T4 (.int k n)⟩
theorem VC {α:Type} {Q:Nat->α->Prop}:∀ n,(∀ i,i<n->∃ a,Q i a)->∃ l:List α,l.length=n/\∀ i a,l[i]? = some a->Q i a:=by
 intro n
 induction n with
 | zero=>intro _;exact ⟨[],rfl,λ i a h=>by simp at h⟩
 | succ n ih=>
  intro h
  obtain ⟨l,hl,hq⟩:=ih λ i hi=>h i (by omega)
  obtain ⟨a,ha⟩:=h n (by omega)
  refine ⟨l++[a],by simp [hl],λ i b hb=>?_⟩
  rcases Nat.lt_or_ge i l.length with hlt|hge
  ·rw [Jjn hlt] at hb;exact hq i b hb
  ·rw [Jjw hge] at hb
   have:i-l.length=0:=by have:=Ad hb;simp at this;omega
   rw [this] at hb
   simp at hb
   subst hb
   have:i=n:=by omega
   subst this
   exact ha
theorem VD {α β:Type} {f:α->Option β}:∀ {l:List α} {r:List β},l.mapM f=some r->r.length=l.length/\∀ (i:Nat) (a:α),l[i]? = some a->r[i]? = f a:=by
 intro l
 induction l with
 | nil=>intro r h;simp at h;subst h;exact ⟨rfl,λ i a h=>by simp at h⟩
 | cons a l ih=>
  intro r h
  rw [List.mapM_cons] at h
  simp only [Option.bind_eq_bind,Option.bind_eq_some_iff,Option.pure_def,Jjo] at h
  obtain ⟨b,hb,r',hr',rfl⟩:=h
  obtain ⟨h1,h2⟩:=ih hr'
  refine ⟨by simp [h1],λ i x hx=>?_⟩
  cases i with
  | zero=>simp at hx;subst hx;simp [hb]
  | succ i=>simpa using h2 i x (by simpa using hx)
theorem O9 {α:Type} {P:Program} {t e:TypeId} {enc:α->List D} {ok:α->Prop} {sz:Nat} (ht:P.underlying t=some (.slice e)) (hsz:P.cellsOf e=sz) (h1:Nat.ble 1 sz=true) (hl:∀ a,(enc a).length=sz) (he:Jm P e enc ok):Jm P t (eL enc) (λ l=>∀ a∈l,ok a):=by
 intro H en w base spare held fuel cs x h
 have h1:=Jjt h1
 rcases DataW.trod_slice ht h with ⟨rfl,_⟩|⟨a,len,cap,elems,rest,n,_,rfl,_,_,hcap,_,hel,hget,_,_⟩
 ·exact ⟨[],λ a h=>by simp at h,T4 (.sl0 _ _)⟩
 ·rw [hsz] at hget
  have hex:∀ i,i<len->∃ y:α,ok y/\∃ ci,w.cells? base (a.add (i*sz)) sz=some ci/\CRd (λ b=>w.heap[b]?) (enc y) ci:=λ i hi=>by
   have hg:=hget i hi
   rw [Jjf (show i<elems.length by omega)] at hg
   simp only [Option.bind_eq_some_iff] at hg
   obtain ⟨ci,hc,htr⟩:=hg
   obtain ⟨y,hy,hcr⟩:=he H en w base spare held n ci _ htr
   exact ⟨y,hy,ci,hc,hcr⟩
  obtain ⟨l,hll,hq⟩:=VC len hex
  refine ⟨l,λ y hy=>?_,T4 ?_⟩
  ·obtain ⟨i,hi⟩:=List.mem_iff_getElem?.1 hy
   exact (hq i y hi).1
  ·rcases Nat.eq_zero_or_pos len with h0|hpos
   ·have:l=[]:=List.length_eq_zero_iff.1 (by omega)
    subst this;subst h0
    exact .sl0 _ _
   ·
    have hcell:∀ i y,l[i]? = some y->∀ j,j<sz->∃ v,w.cell? ((a.add (i*sz)).add j)=some v/\∀ d,(enc y)[j]? = some d->Bt (λ b=>w.heap[b]?) d v:=λ i y hy j hj=>by
     obtain ⟨_,ci,hc,hcr⟩:=hq i y hy
     unfold World.cells? at hc
     split at hc
     ·obtain ⟨g1,g2⟩:=VD hc
      have:=g2 j j (by simp [hj])
      have hjc:j<ci.length:=by rw [g1];simpa using hj
      rw [Jjf hjc] at this
      exact ⟨ci[j],this.symm,λ d hd=>hcr.2 j d _ hd (Jjf hjc)⟩
     ·cases hc
    have h0:l[0]? = some l[0]:=Jjf (by omega)
    obtain ⟨v0,hv0,_⟩:=hcell 0 _ h0 0 (by omega)
    have ha0:(a.add (0*sz)).add 0=a:=by simp [Addr.add]
    rw [ha0] at hv0
    obtain ⟨b,off,spot⟩:=a
    unfold World.cell? at hv0
    simp only at hv0
    split at hv0
    ·rename_i c ty fr hblk
     cases spot with
     | some s=>simp at hv0
     | none=>
      have hcell':∀ i y,l[i]? = some y->∀ j d,(enc y)[j]? = some d->∃ v,c[off+i*sz+j]? = some v/\Bt (λ b=>w.heap[b]?) d v:=λ i y hy j d hd=>by
       have hj:j<sz:=by rw [← hl y];exact Ad hd
       obtain ⟨v,hv,hr⟩:=hcell i y hy j hj
       rw [Cs,Cs,KR hblk] at hv
       exact ⟨v,hv,hr d hd⟩
      have hlen:(l.map enc).length=len:=by simp [hll]
      have:=Bt.sl (F:=λ b=>w.heap[b]?) (l.map enc) b off cap sz c ty fr (λ i j=>(c[off+i*sz+j]?).getD undef) hblk (λ e he=>by
        simp only [List.mem_map] at he
        obtain ⟨y,_,rfl⟩:=he
        exact hl y) (by omega) (λ i e hi j d hd=>by
        simp only [Jjj,Jji] at hi
        obtain ⟨y,hy,rfl⟩:=hi
        obtain ⟨v,hv,_⟩:=hcell' i y hy j d hd
        simp only [hv,Option.getD_some]) (λ i e hi j d hd=>by
        simp only [Jjj,Jji] at hi
        obtain ⟨y,hy,rfl⟩:=hi
        obtain ⟨v,hv,hr⟩:=hcell' i y hy j d hd
        simp only [hv,Option.getD_some]
        exact hr)
      rw [hlen] at this
      exact this
    ·cases hv0
theorem EY {F:Nat->Option Obj} {l m:List D} {cs:List Value} {o n:Nat} (h:CRd F l ((cs.drop o).take n)) (hn:Nat.beq l.length n=true) (h':CRd F m (cs.drop (o+n))):CRd F (l++m) (cs.drop o):=by
 have hn:=Jjm hn
 have e:cs.drop o=(cs.drop o).take n++cs.drop (o+n):=by rw [← List.drop_drop,List.take_append_drop]
 rw [e]
 refine ⟨by simp only [List.length_append,h.1,h'.1],λ i y v hy hv=>?_⟩
 rcases Nat.lt_or_ge i l.length with hlt|hge
 ·rw [Jjn hlt] at hy
  rw [Jjn (by rw [← h.1];exact hlt)] at hv
  exact h.2 i y v hy hv
 ·rw [Jjw hge] at hy
  rw [Jjw (by rw [← h.1];exact hge),← h.1] at hv
  exact h'.2 _ y v hy hv
theorem T5 {F:Nat->Option Obj} {cs:List Value} {o:Nat} (h:cs.length<=o):CRd F [] (cs.drop o):=by
 rw [List.drop_eq_nil_of_le h];exact ⟨rfl,λ i y v hy=>by simp at hy⟩
theorem WY {H:Type} {enc:TypeId×Value->H} {P:Program} {w:World} {base:Nat} {spare:Nat->Bool} {held:Bool} {fuel:Nat} {t e:TypeId} {n:Nat} {cs:List Value} {x:DataW H×List MemPlace} (ht:P.underlying t=some (.array n e)) (h:DataW.trod enc P w base spare held fuel t cs=some x) :
  ∃ m,cs.length=P.cellsOf t/\∀ i,i<n->∃ y,DataW.trod enc P w base spare held m e ((cs.drop (i*P.cellsOf e)).take (P.cellsOf e))=some y:=by
 cases fuel with
 | zero=>simp [DataW.trod] at h
 | succ m=>
  unfold DataW.trod at h
  rw [ht] at h
  split at h<;>simp_all
  obtain ⟨xs,hp,_⟩:=h.2
  refine ⟨m,λ i hi=>?_⟩
  obtain ⟨g1,g2⟩:=VD hp
  have:=g2 i i (by simp [hi])
  have hlt:i<xs.length:=by rw [g1];simpa using hi
  rw [Jjf hlt] at this
  exact ⟨_,_,this.symm⟩
end Go.AI
end
section
namespace Go.AI
open Go.ChangeShapes Go.WideShapes Go.ChangeAt Go.RowKit
variable {P:Program} {H:Type} {en:TypeId×Value->H} {W W':World} {base:Nat} {spare:Nat->Bool} {held:Bool} {t e:TypeId} {v:Value} {d:DataW H} {ps:List MemPlace} {α:Type} {enc:α->List D} {ok:α->Prop}
theorem JdB {cs:Array Value} (hv:v=.agg cs) (hd:DataW.Trod en P W base spare held t v d ps) (hr:Jm P t enc ok):∃ a,ok a/\Af (λ b=>W.heap[b]?) noR (.agg ((enc a).map .d)) v:=by
 subst hv
 obtain ⟨fuel,hf⟩:=hd
 obtain ⟨a,h1,h2,h3⟩:=hr H en W base spare held fuel _ _ hf
 refine ⟨a,h1,.agg _ _ (by simpa [Value.cells] using h2) λ i x u hx hu=>?_⟩
 simp only [Jjj,Jji] at hx
 obtain ⟨y,hy,rfl⟩:=hx
 exact .d _ _ (h3 i y u hy (by simpa [Value.cells] using hu))
theorem JdC {y:α->D} (hc:v.cells=#[v]) (hd:DataW.Trod en P W base spare held t v d ps) (hr:Jm P t enc ok) (he:∀ a,enc a=[y a]):∃ a,ok a/\Af (λ b=>W.heap[b]?) noR (.d (y a)) v:=by
 obtain ⟨fuel,hf⟩:=hd
 obtain ⟨a,h1,h2,h3⟩:=hr H en W base spare held fuel _ _ hf
 refine ⟨a,h1,.d _ _ (h3 0 (y a) v (by rw [he];rfl) (by rw [hc];rfl))⟩
theorem Jhv {F:Nat->Option Obj} {ρ:Nat->Option Loc}:CR F ρ [] []:=⟨rfl,λ i a v h=>by simp at h⟩
theorem XF {F:Nat->Option Obj} {ρ:Nat->Option Loc} {a:AV} {v:Value} {l:List AV} {vs:List Value} (h:Af F ρ a v) (h':CR F ρ l vs):CR F ρ (a::l) (v::vs):=by
 refine ⟨by simp [h'.1],λ i x u hx hu=>?_⟩
 cases i with
 | zero=>simp at hx hu;subst hx;subst hu;exact h
 | succ i=>exact h'.2 i x u (by simpa using hx) (by simpa using hu)
theorem fld {w:World} {fuel:Nat} {cs:List Value} {fs:Array Field} {xs:List (DataW H×List MemPlace)} (hg:∀ (i:Nat) (f:Field),fs[i]? = some f->DataW.trod en P w base spare held fuel f.type ((cs.drop f.offset).take (P.cellsOf f.type))=xs[i]?) (hxl:xs.length=fs.size) (i:Nat) {f:Field} (hf:fs[i]? = some f) (u o n:Nat) (hu:f.type=u) (ho:f.offset=o) (hn:P.cellsOf u=n) (hr:Jm P u enc ok) :
  ∃ a,ok a/\CRd (λ b=>w.heap[b]?) (enc a) ((cs.drop o).take n):=by
 have:=hg i f hf
 have hi:i<xs.length:=by rw [hxl];exact As hf
 rw [Jjf hi,hu,ho,hn] at this
 exact hr H en w base spare held fuel _ _ this
theorem Jiz {w:World} {fuel:Nat} {cs:List Value} {m:Nat} (hg:∀ i,i<m->∃ y,DataW.trod en P w base spare held fuel e ((cs.drop (i*P.cellsOf e)).take (P.cellsOf e))=some y) (i:Nat) (hi:Nat.ble (i+1) m=true) (o n:Nat) (hn:P.cellsOf e=n) (ho:i*n=o) (hr:Jm P e enc ok) :
  ∃ a,ok a/\CRd (λ b=>w.heap[b]?) (enc a) ((cs.drop o).take n):=by
 obtain ⟨y,hy⟩:=hg i (Jjt hi)
 rw [hn,ho] at hy
 exact hr H en w base spare held fuel _ _ hy
theorem JbZ {f:FuncId} {args:List AV} {vs:Array Value} (hc:AL P f args (.d (.bool true))) (hcr:CR (λ b=>W.heap[b]?) noR args vs.toList):Calls P f vs W λ e W'=>e=.returned (.bool true)/\(∀ before:List MemPlace,W.keptBut W' (·∈before))/\∀ b,b<W.heap.size->W'.heap[b]? = W.heap[b]? := by
 refine (hc.2 (λ b=>W.heap[b]?) W vs hcr λ b o h=>h).mono λ e W' h=>?_
 obtain ⟨v,F',ρ,rfl,hS,hr,hmu⟩:=h
 have hv:v=.bool true:=by
  have:(BY true 0 (.d (.bool true))).1=.d (.bool true):=rfl
  rw [this] at hr
  exact hr.bool
 subst hv
 have hold:∀ b,b<W.heap.size->W'.heap[b]? = W.heap[b]? := λ b hb=>hS.old b (by omega)
 refine ⟨rfl,λ before=>World.keptBut_mono (λ p hp=>hp.elim) (?_:W.keptBut W' λ _=>False),hold⟩
 refine ⟨hmu.1,hmu.2.1,λ i hi=>?_⟩
 rw [hold i hi]
 cases hh:W.heap[i]? with
 | none=>rfl
 | some o=>cases o<;>first|exact ⟨rfl,rfl,rfl,λ _ _=>rfl⟩|exact .inr ⟨rfl,rfl⟩|rfl
theorem YK {f:Func} {s:ChangeSpec} {apart fresh handsOn again:Bool} {args:Array Value} {ds gs:List (DataW H)} {before pa pv:List MemPlace}
  (hW:DataW.Whole en P f.params.toList s.vars apart W args.toList ds gs before)
  (hres:∀ (b:Nat) (sp:Nat->Bool) (hd:Bool),DataW.TrodAll en P W' b sp hd f.resultTypes.toList (v.resultList f.resultTypes.size) (s.fn H (ds++gs)).results [])
  (hargs:∀ sp:Nat->Bool,(∀ p∈before,sp p.block=true)->DataW.TrodAll en P W' 0 sp true f.params.toList args.toList (s.fn H (ds++gs)).args pa)
  (hvars:∀ sp:Nat->Bool,(∀ p∈before,sp p.block=true)->DataW.TrodVars en P W' sp s.vars (s.fn H (ds++gs)).vars pv)
  (hps:before=pa++pv) (hk:W.keptBut W' (·∈before)) (hold:∀ b,b<W.heap.size->W'.heap[b]? = W.heap[b]?)
  (hok:∀ (j:Nat) (t:TypeId) (r:Value),f.resultTypes[j]? = some t->(v.resultList f.resultTypes.size)[j]? = some r->Value.okWide P W' .any 0 t r) :
  s.post en P f apart fresh handsOn again W args v W':=by
 have hin:∀ p∈before,(λ b=>decide (b<W.heap.size)) p.block=true:=λ p hp=>by simpa using hW.lt p hp
 have hlt:=hW.lt
 refine ⟨ds,gs,before,[],pa,pv,hW,hres _ _ _,hargs _ hin,hvars _ hin,World.keptBut_mono (λ p hp=>⟨hp,?_⟩) hk,λ _=>?_⟩
 ·rw [hps,List.mem_append] at hp
  exact Or.inr hp
 ·obtain ⟨_,_,_,_,_,hz,hn⟩:=hW
  refine ⟨hok,_,_,([]++pa)++pv,⟨[]++pa,pv,trodAll_append (hargs _ (λ _ _=>rfl)) (hres _ _ _),hvars _ (λ _ _=>rfl),rfl,?_,?_⟩,?_⟩
  ·intro b off hp
   have hp:MemPlace.cell b off∈before:=by rw [hps];simpa using hp
   have:=hz b off hp
   simp only [World.frozen?,hold b (hlt _ hp)] at this ⊢
   exact this
  ·intro ha
   have:=hn ha
   rw [hps] at this
   simpa using this
  ·intro p hp _
   rw [hps]
   simpa using hp
theorem Jed (hl:laidOutB P=true) (hr:P.readableRec t=true) (hrow:t<P.types.size) (h:DataW.Trod en P W 0 (λ _=>true) true t v d ps) (hb:∀ p∈ps,p.block<W.heap.size) {sp:Nat->Bool} (hs:∀ p∈ps,sp p.block=true) (hold:∀ b,b<W.heap.size->W'.heap[b]? = W.heap[b]?):DataW.Trod en P W' 0 sp true t v d ps:=by
 refine WideElems.Trod_stays hl hr hrow h (λ p hp=>?_) hs
 have:=hb p hp
 cases p with
 | cell b o=>exact World.cell?_of_block (w:=W) (hold b this)
 | map b=>exact hold b this
end Go.AI
end
section
namespace Go.AI
open Go.Proofs Go.ChangeShapes Go.WideShapes Go.ChangeAt Go.RowKit
def okI (k:IntKind) (n:Int):Prop:=(Lit.int k n).wf=true
theorem rd5:Jm Try.prog 5 eU8 (okI .u8):=YJ Try.underlying5
theorem Jhw:Jm Try.prog 50 (eL eU8) (λ l=>∀ a∈l,okI .u8 a):=O9 (sz:=1) Try.underlying50 (by kernel_rfl) rfl (λ _=>rfl) rd5
theorem Jja:Jm Try.prog 67 (Jix eU8) (λ x=>okI .u8 x.a0/\okI .u8 x.a1):=by
 intro H e w base spare held fuel cs x h
 obtain ⟨m,hcl,hg⟩:=WY Try.underlying67 h
 have hcl:cs.length=2:=hcl.trans (by kernel_rfl)
 obtain ⟨a0,k0,c0⟩:=Jiz hg 0 rfl 0 1 (by kernel_rfl) rfl rd5
 obtain ⟨a1,k1,c1⟩:=Jiz hg 1 rfl 1 1 (by kernel_rfl) rfl rd5
 refine ⟨⟨a0,a1⟩,⟨k0,k1⟩,?_⟩
 have:=EY c0 rfl (EY c1 rfl (T5 (Nat.le_of_eq hcl)))
 exact this
def J1 (x:Dl):Prop:=(∀ a∈x.P,okI .u8 a)/\(∀ a∈x.C,okI .u8 a)/\okI .u8 x.L/\okI .u8 x.R/\(okI .u8 x.W.a0/\okI .u8 x.W.a1)
theorem Jjb:Jm Try.prog 69 Ft J1:=by
 intro H e w base spare held fuel cs x h
 obtain ⟨xs,n,_,_,hcl,hxl,hg⟩:=DataW.trod_struct Try.underlying69 h
 have hcl:cs.length=6:=hcl.trans (by kernel_rfl)
 obtain ⟨a0,k0,c0⟩:=fld hg hxl 0 rfl 50 0 1 rfl rfl (by kernel_rfl) Jhw
 obtain ⟨a1,k1,c1⟩:=fld hg hxl 1 rfl 50 1 1 rfl rfl (by kernel_rfl) Jhw
 obtain ⟨a2,k2,c2⟩:=fld hg hxl 2 rfl 5 2 1 rfl rfl (by kernel_rfl) rd5
 obtain ⟨a3,k3,c3⟩:=fld hg hxl 3 rfl 5 3 1 rfl rfl (by kernel_rfl) rd5
 obtain ⟨a4,k4,c4⟩:=fld hg hxl 4 rfl 67 4 2 rfl rfl (by kernel_rfl) Jja
 refine ⟨⟨a0,a1,a2,a3,a4⟩,⟨k0,k1,k2,k3,k4⟩,?_⟩
 have:=EY c0 rfl (EY c1 rfl (EY c2 rfl (EY c3 rfl (EY c4 rfl (T5 (Nat.le_of_eq hcl))))))
 exact this
theorem Jjc:Jm Try.prog 22 (eL Ft) (λ l=>∀ a∈l,J1 a):=O9 (sz:=6) Try.underlying22 (by kernel_rfl) rfl (λ _=>rfl) Jjb
def WZ (x:K2):Prop:=okI .u8 x.Base/\okI .u8 x.Drop/\(∀ a∈x.More,J1 a)
theorem Jjd:Jm Try.prog 24 Jiy WZ:=by
 intro H e w base spare held fuel cs x h
 obtain ⟨xs,n,_,_,hcl,hxl,hg⟩:=DataW.trod_struct Try.underlying24 h
 have hcl:cs.length=3:=hcl.trans (by kernel_rfl)
 obtain ⟨a0,k0,c0⟩:=fld hg hxl 0 rfl 5 0 1 rfl rfl (by kernel_rfl) rd5
 obtain ⟨a1,k1,c1⟩:=fld hg hxl 1 rfl 5 1 1 rfl rfl (by kernel_rfl) rd5
 obtain ⟨a2,k2,c2⟩:=fld hg hxl 2 rfl 22 2 1 rfl rfl (by kernel_rfl) Jjc
 refine ⟨⟨a0,a1,a2⟩,⟨k0,k1,k2⟩,?_⟩
 have:=EY c0 rfl (EY c1 rfl (EY c2 rfl (T5 (Nat.le_of_eq hcl))))
 exact this
end Go.AI
end
section
namespace Go.AI
def Le {α:Type} (a b:Option α):Prop:=∀ z,a=some z->b=some z
theorem Le.refl {α:Type} (a:Option α):Le a a:=λ _ h=>h
theorem Le.bind {α β:Type} {a a':Option α} {f f':α->Option β} (h:Le a a') (hf:∀ x,Le (f x) (f' x)):Le (a.bind f) (a'.bind f'):=by
 intro z hz
 obtain ⟨x,h1,h2⟩:=bind_some hz
 rw [h x h1]
 exact hf x z h2
theorem Le.ite {α:Type} {c:Prop} [Decidable c] {a a' b b':Option α} (h:Le a a') (h':Le b b'):Le (if c then a else b) (if c then a' else b'):=by
 split
 ·exact h
 ·exact h'
theorem Le.whl {σ ρ:Type} {body body':σ->Option (σ⊕ρ)} (hb:∀ x,Le (body x) (body' x)):∀ {n m:Nat},n<=m->∀ x,Le (whl body n x) (whl body' m x):=by
 intro n
 induction n with
 | zero=>intro m _ x z hz;cases hz
 | succ n ih=>
  intro m hm x z hz
  cases m with
  | zero=>omega
  | succ m=>
   simp only [Go.AI.whl] at hz ⊢
   cases hx:body x with
   | none=>rw [hx] at hz;cases hz
   | some y=>
    rw [hb x y hx]
    rw [hx] at hz
    cases y with
    | inl y=>exact ih (by omega) y z hz
    | inr r=>exact hz
theorem Le.sum {α β γ:Type} {y:α⊕β} {f f':α->Option γ} {g g':β->Option γ} (hf:∀ a,Le (f a) (f' a)) (hg:∀ b,Le (g b) (g' b)):Le (match y with | .inl a=>f a | .inr b=>g b) (match y with | .inl a=>f' a | .inr b=>g' b):=by
 cases y with
 | inl a=>exact hf a
 | inr b=>exact hg b
def Ev {α:Type} (f:Nat->Option α) (z:α):Prop:=∃ n,∀ m,n<=m->f m=some z
theorem Ev.const {α:Type} {z:α}:Ev (λ _=>some z) z:=⟨0,λ _ _=>rfl⟩
theorem Ev.of {α:Type} {f:Nat->Option α} {z:α} (hm:∀ n m,n<=m->Le (f n) (f m)) {n:Nat} (h:f n=some z):Ev f z:=⟨n,λ m hnm=>hm n m hnm z h⟩
theorem Ev.all {α:Type} {f:Nat->Option α} {z:α} (h:∀ n,f n=some z):Ev f z:=⟨0,λ m _=>h m⟩
theorem Ev.bind {α β:Type} {f:Nat->Option α} {g:Nat->α->Option β} {x:α} {z:β} (h:Ev f x) (hg:Ev (λ n=>g n x) z):Ev (λ n=>(f n).bind (g n)) z:=by
 obtain ⟨n,hn⟩:=h
 obtain ⟨m,hm⟩:=hg
 refine ⟨max n m,λ k hk=>?_⟩
 show (f k).bind (g k)=_
 rw [hn k (by omega)]
 exact hm k (by omega)
theorem Ev.out {α:Type} {f:Nat->Option α} {z:α} (h:Ev f z):∃ n,f n=some z:=by
 obtain ⟨n,hn⟩:=h
 exact ⟨n,hn n (Nat.le_refl n)⟩
theorem Ev.congr {α:Type} {f g:Nat->Option α} {z:α} (h:Ev f z) (e:∀ n,g n=f n):Ev g z:=by
 obtain ⟨n,hn⟩:=h
 exact ⟨n,λ m hm=>by rw [e m];exact hn m hm⟩
theorem Ev.whl {σ ρ:Type} {body:Nat->σ->Option (σ⊕ρ)} {r:ρ} (I:Nat->σ->Prop) (h:∀ k x,I k x->(∃ y j,j<k/\I j y/\Ev (λ n=>body n x) (.inl y))\/Ev (λ n=>body n x) (.inr r)):∀ (k:Nat) (x:σ),I k x->Ev (λ n=>Go.AI.whl (body n) n x) r:=by
 have key:∀ (k:Nat) (x:σ),I k x->∃ N c,∀ n fuel,N<=n->c<=fuel->Go.AI.whl (body n) fuel x=some r:=by
  intro k
  induction k using Nat.strongRecOn with
  | _ k ih=>
   intro x hx
   rcases h k x hx with ⟨y,j,hj,hy,N1,h1⟩|⟨N1,h1⟩
   ·obtain ⟨N2,c,h2⟩:=ih j hj y hy
    refine ⟨max N1 N2,c+1,λ n fuel hn hf=>?_⟩
    cases fuel with
    | zero=>omega
    | succ fuel=>
     have e:=h1 n (by omega)
     simp only at e
     simp only [Go.AI.whl,e]
     exact h2 n fuel (by omega) (by omega)
   ·refine ⟨N1,1,λ n fuel hn hf=>?_⟩
    cases fuel with
    | zero=>omega
    | succ fuel=>
     have e:=h1 n hn
     simp only at e
     simp only [Go.AI.whl,e]
 intro k x hx
 obtain ⟨N,c,hh⟩:=key k x hx
 exact ⟨max N c,λ m hm=>hh m m (by omega) (by omega)⟩
end Go.AI
end
section
namespace Go.AI
theorem lr {α:Type} {x:Option α}:Le x x:=Le.refl x
theorem Oq {n m} (_:n<=m) (a b):Le (Gp n a b) (Gp m a b):=.ite (.bind lr λ _=>.bind lr λ _=>.bind lr λ _=>lr) lr
theorem Sl {n m} (h:n<=m):Le (JR n) (JR m):=.bind (Le.whl (λ _=>Oq h _ _) h _) λ _=>lr
theorem MM {n m} (_:n<=m) (a):Le (DB n a) (DB m a):=lr
theorem Rs {n m} (h:n<=m) (a b):Le (Fh n a b) (Fh m a b):=.ite (.bind lr λ _=>.bind (MM h _) λ _=>.ite lr lr) lr
theorem VE {n m} (h:n<=m) (a):Le (I6 n a) (I6 m a):=.bind (Le.whl (λ _=>Rs h _ _) h _) λ y2=>by rcases y2 with _|_;exact lr;exact lr
theorem J2 {n m} (_:n<=m) (a):Le (Fi n a) (Fi m a):=.ite lr (.ite lr (.ite lr (.ite lr lr)))
theorem MN {n m} (h:n<=m) (a b):Le (CY n a b) (CY m a b):=.ite (.bind lr λ _=>.bind (J2 h _) λ _=>.ite lr lr) lr
theorem Px {n m} (h:n<=m) (a):Le (Ek n a) (Ek m a):=.bind (Le.whl (λ _=>MN h _ _) h _) λ y5=>by rcases y5 with _|_;exact lr;exact lr
theorem T6 {n m} (_:n<=m) (a):Le (I7 n a) (I7 m a):=lr
theorem Py {n m} (h:n<=m) (a b):Le (El n a b) (El m a b):=.ite (.bind lr λ _=>.bind (T6 h _) λ _=>.ite lr lr) lr
theorem T7 {n m} (h:n<=m) (a b):Le (Hu n a b) (Hu m a b):=.ite lr (.bind (VE h _) λ _=>.ite lr (.ite lr (.ite lr (.bind (Px h _) λ _=>.ite (.bind (Le.ite (lr) (lr)) λ _=>lr) (.bind (Le.whl (λ _=>Py h _ _) h _) λ y8=>by rcases y8 with _|_;exact lr;exact lr)))))
theorem Pz {n m} (_:n<=m) (a b c):Le (Em n a b c) (Em m a b c):=.ite (.bind lr λ _=>.bind lr λ _=>.ite lr lr) lr
theorem T8 {n m} (h:n<=m) (a b):Le (Hv n a b) (Hv m a b):=.ite lr (.bind (Le.whl (λ _=>Pz h _ _ _) h _) λ y11=>by rcases y11 with _|_;exact lr;exact lr)
theorem T9 {n m} (h:n<=m) (a b):Le (Hw n a b) (Hw m a b):=.bind (Le.ite (T8 h _ _) (lr)) λ _=>lr
theorem PA {n m} (h:n<=m) (a b c d e):Le (Ds n a b c d e) (Ds m a b c d e):=.ite (.bind lr λ _=>.bind (T9 h _ _) λ _=>.ite lr lr) lr
theorem PB {n m} (h:n<=m) (a b):Le (Dt n a b) (Dt m a b):=.ite (.bind lr λ _=>.bind (T7 h _ _) λ _=>.ite lr (.bind lr λ _=>.bind (Le.whl (λ _=>PA h _ _ _ _ _) h _) λ y14=>by rcases y14 with _|_;exact lr;exact lr)) lr
theorem Ua {n m} (h:n<=m) (a):Le (Hx n a) (Hx m a):=.ite lr (.bind (Le.ite (lr) (lr)) λ _=>.ite lr (.ite lr (.bind (Le.whl (λ _=>PB h _ _) h _) λ y17=>by rcases y17 with _|_;exact lr;exact lr)))
theorem J3 {n m} (h:n<=m) (a):Le (Ge n a) (Ge m a):=.bind (Ua h _) λ _=>lr
theorem Ub {n m} (_:n<=m):Le (I8 n) (I8 m):=lr
theorem J4 {n m} (_:n<=m) (a b):Le (Hk n a b) (Hk m a b):=.bind (Le.ite (lr) (lr)) λ _=>lr
theorem Pa {n m} (h:n<=m) (a b c):Le (HI n a b c) (HI m a b c):=.ite lr (.bind lr λ _=>.bind (Le.ite (J4 h _ _) (lr)) λ _=>.ite lr (.ite (.ite lr lr) (.bind lr λ _=>.bind (J2 h _) λ _=>.bind (J4 h _ _) λ _=>.ite lr (.bind lr λ _=>.bind (J2 h _) λ _=>lr))))
theorem Iv {n m} (_:n<=m) (a b c d):Le (Ct n a b c d) (Ct m a b c d):=lr
theorem Iw {n m} (h:n<=m) (a b c d e f):Le (CO n a b c d e f) (CO m a b c d e f):=.bind lr λ _=>.bind lr λ _=>Iv h _ _ _ _
theorem NH {n m} (h:n<=m) (a b c d e f):Le (Bw n a b c d e f) (Bw m a b c d e f):=.ite (.bind lr λ _=>.bind (Pa h _ _ _) λ _=>.ite (Iv h _ _ _ _) (.ite (.bind lr λ _=>.bind lr λ _=>Iw h _ _ _ _ _ _) (Iw h _ _ _ _ _ _))) lr
theorem NI {n m} (h:n<=m) (a b c d e):Le (Cu n a b c d e) (Cu m a b c d e):=.ite (.bind (Le.whl (λ _=>NH h _ _ _ _ _ _) h _) λ _=>lr) lr
theorem LA {n m} (h:n<=m) (a):Le (D5 n a) (D5 m a):=.bind (Ub h) λ _=>.bind (Le.whl (λ _=>NI h _ _ _ _ _) h _) λ _=>lr
theorem Sm {n m} (h:n<=m) (a):Le (HJ n a) (HJ m a):=.bind (LA h _) λ _=>lr
theorem LB {n m} (h:n<=m) (a b):Le (D6 n a b) (D6 m a b):=.bind (Le.ite (J4 h _ _) (lr)) λ _=>.bind (Le.ite (J4 h _ _) (lr)) λ _=>lr
theorem Kx {n m} (_:n<=m) (a b c):Le (Du n a b c) (Du m a b c):=lr
theorem PC {n m} (h:n<=m) (a b c d e):Le (C7 n a b c d e) (C7 m a b c d e):=.ite (.bind lr λ _=>.bind (LB h _ _) λ _=>.ite (.bind lr λ _=>.bind lr λ _=>.bind lr λ _=>Kx h _ _ _) (Kx h _ _ _)) lr
theorem Ky {n m} (_:n<=m) (a b c):Le (Dv n a b c) (Dv m a b c):=lr
theorem PD {n m} (h:n<=m) (a b c d e):Le (C8 n a b c d e) (C8 m a b c d e):=.ite (.bind lr λ _=>.bind lr λ _=>.ite (.bind lr λ _=>.bind lr λ _=>.bind lr λ _=>Ky h _ _ _) (Ky h _ _ _)) lr
theorem PE {n m} (h:n<=m) (a b c):Le (Eo n a b c) (Eo m a b c):=.ite (.bind lr λ _=>.bind lr λ _=>.bind lr λ _=>.bind (Le.whl (λ _=>PD h _ _ _ _ _) h _) λ _=>lr) lr
theorem Uc {n m} (h:n<=m) (a):Le (Hy n a) (Hy m a):=.bind (LA h _) λ _=>.bind lr λ _=>.bind (Le.whl (λ _=>PC h _ _ _ _ _) h _) λ _=>.bind (Le.whl (λ _=>PE h _ _ _) h _) λ _=>lr
theorem Ou {n m} (_:n<=m) (a b c):Le (DG n a b c) (DG m a b c):=.bind (Le.ite (lr) (lr)) λ _=>.bind (Le.ite (lr) (lr)) λ _=>.ite lr lr
theorem IP {n m} (h:n<=m) (a b):Le (D7 n a b) (D7 m a b):=.bind (Le.whl (λ _=>Ou h _ _ _) h _) λ _=>lr
theorem Hf {n m} (_:n<=m) (a b c):Le (Bp n a b c) (Bp m a b c):=.ite (.bind lr λ _=>.bind lr λ _=>lr) lr
theorem MO {n m} (_:n<=m) (a b c d):Le (CA n a b c d) (CA m a b c d):=.ite (.bind lr λ _=>lr) lr
theorem HQ {n m} (_:n<=m) (a b):Le (CZ n a b) (CZ m a b):=lr
theorem MP {n m} (h:n<=m) (a b c d e f g):Le (Cb n a b c d e f g) (Cb m a b c d e f g):=.ite (.bind lr λ _=>.bind (Pa h _ _ _) λ _=>.bind (Le.ite (lr) (lr)) λ _=>.ite (.bind lr λ _=>.bind lr λ _=>HQ h _ _) (HQ h _ _)) lr
theorem MQ {n m} (h:n<=m) (a b c d e):Le (CB n a b c d e) (CB m a b c d e):=.ite (.bind lr λ _=>.bind (LB h _ _) λ _=>.bind lr λ _=>.bind lr λ _=>.bind (Le.whl (λ _=>MP h _ _ _ _ _ _ _) h _) λ _=>lr) lr
theorem Kz {n m} (h:n<=m) (a):Le (Dw n a) (Dw m a):=.bind (Sm h _) λ _=>.bind (Le.whl (λ _=>MO h _ _ _ _) h _) λ _=>.bind lr λ _=>.bind lr λ _=>.bind (Uc h _) λ _=>.bind (Le.whl (λ _=>MQ h _ _ _ _ _) h _) λ _=>lr
theorem FY {n m} (_:n<=m) (a b c d):Le (CP n a b c d) (CP m a b c d):=lr
theorem KJ {n m} (h:n<=m) (a b c d e f g i j k l):Le (Bx n a b c d e f g i j k l) (Bx m a b c d e f g i j k l):=.ite (.bind lr λ _=>.bind lr λ _=>.bind (IP h _ _) λ _=>.ite (.bind (Hf h _ _ _) λ _=>FY h _ _ _ _) (FY h _ _ _ _)) lr
theorem KK {n m} (h:n<=m) (a b c d e f g i j):Le (By n a b c d e f g i j) (By m a b c d e f g i j):=.ite (.bind lr λ _=>.bind lr λ _=>.bind (Le.whl (λ _=>KJ h _ _ _ _ _ _ _ _ _ _ _) h _) λ _=>lr) lr
theorem KL {n m} (h:n<=m) (a b c d e f g):Le (BS n a b c d e f g) (BS m a b c d e f g):=.ite (.bind lr λ _=>.bind (Le.whl (λ _=>KK h _ _ _ _ _ _ _ _ _) h _) λ _=>lr) lr
theorem HR {n m} (h:n<=m) (a b):Le (CC n a b) (CC m a b):=.bind lr λ _=>.bind lr λ _=>.ite lr (.bind (Hf h _ _ _) λ _=>.bind (Le.whl (λ _=>KL h _ _ _ _ _ _ _) h _) λ _=>lr)
theorem EK {n m} (_:n<=m) (a b c d):Le (CI n a b c d) (CI m a b c d):=lr
theorem L8 {n m} (_:n<=m) (a b c d e f):Le (CJ n a b c d e f) (CJ m a b c d e f):=.ite lr lr
theorem EZ {n m} (_:n<=m) (a b):Le (BN n a b) (BN m a b):=lr
theorem IQ {n m} (h:n<=m) (a b c d e f g):Le (Bq n a b c d e f g) (Bq m a b c d e f g):=.ite (.bind lr λ _=>.bind lr λ _=>.bind (IP h _ _) λ _=>.ite (.bind (L8 h _ _ _ _ _ _) λ _=>.ite lr (EZ h _ _)) (.ite lr (EZ h _ _))) lr
theorem KM {n m} (h:n<=m) (a b c d e):Le (Cj n a b c d e) (Cj m a b c d e):=.bind lr λ _=>.bind (Le.whl (λ _=>IQ h _ _ _ _ _ _ _) h _) λ y35=>by rcases y35 with _|_;exact lr;exact lr
theorem FP {n m} (_:n<=m) (a b):Le (B7 n a b) (B7 m a b):=lr
theorem J5 {n m} (h:n<=m) (a b c):Le (BI n a b c) (BI m a b c):=.ite (.bind lr λ _=>.bind lr λ _=>.ite (FP h _ _) (FP h _ _)) lr
theorem Hg {n m} (h:n<=m) (a):Le (Ck n a) (Ck m a):=.bind (Le.whl (λ _=>J5 h _ _ _) h _) λ _=>lr
theorem GQ {n m} (_:n<=m) (a b):Le (C9 n a b) (C9 m a b):=lr
theorem GS {n m} (h:n<=m) (a b c d e f):Le (B5 n a b c d e f) (B5 m a b c d e f):=.bind (EK h _ _ _ _) λ _=>.bind (KM h _ _ _ _ _) λ _=>.ite (GQ h _ _) (.ite (GQ h _ _) lr)
theorem LC {n m} (h:n<=m) (a b c d e f g i):Le (BM n a b c d e f g i) (BM m a b c d e f g i):=.ite (.bind lr λ _=>.bind (Le.ite (lr) (lr)) λ _=>.ite (GS h _ _ _ _ _ _) (GS h _ _ _ _ _ _)) lr
theorem LD {n m} (h:n<=m) (a b c d e f):Le (B6 n a b c d e f) (B6 m a b c d e f):=.ite (.bind lr λ _=>.bind (Le.whl (λ _=>LC h _ _ _ _ _ _ _ _) h _) λ _=>lr) lr
theorem Ix {n m} (h:n<=m) (a b):Le (CQ n a b) (CQ m a b):=.bind (Kz h _) λ _=>.bind (HR h _ _) λ _=>.bind (Le.whl (λ _=>LD h _ _ _ _ _ _) h _) λ _=>lr
theorem GT {n m} (_:n<=m) (a b c):Le (Da n a b c) (Da m a b c):=lr
theorem Do {n m} (_:n<=m) (a b c d):Le (A1 n a b c d) (A1 m a b c d):=.ite lr (.ite (.bind lr λ _=>lr) (.bind lr λ _=>lr))
theorem Jn {n m} (h:n<=m) (a b c d e f g i):Le (BV n a b c d e f g i) (BV m a b c d e f g i):=.ite (.bind (Do h _ _ _ _) λ _=>lr) lr
theorem EC {n m} (_:n<=m) (a b c d):Le (BA n a b c d) (BA m a b c d):=lr
theorem H9 {n m} (h:n<=m) (a b c d e f g i j):Le (Bl n a b c d e f g i j) (Bl m a b c d e f g i j):=.ite (.bind lr λ _=>.bind lr λ _=>.bind (IP h _ _) λ _=>.ite (.bind (Jn h _ _ _ _ _ _ _ _) λ _=>.ite lr (EC h _ _ _ _)) (.ite lr (EC h _ _ _ _))) lr
theorem FQ {n m} (h:n<=m) (a b c d e f g):Le (BJ n a b c d e f g) (BJ m a b c d e f g):=.bind lr λ _=>.bind (Le.whl (λ _=>H9 h _ _ _ _ _ _ _ _ _) h _) λ y42=>by rcases y42 with _|_;exact lr;exact lr
theorem Pb {n m} (_:n<=m) (a):Le (I9 n a) (I9 m a):=.bind lr λ _=>lr
theorem E0 {n m} (_:n<=m) (a b c d):Le (Cg n a b c d) (Cg m a b c d):=lr
theorem IR {n m} (h:n<=m) (a b c d e f g i):Le (CS n a b c d e f g i) (CS m a b c d e f g i):=.ite (.bind lr λ _=>.ite (.bind (Do h _ _ _ _) λ _=>E0 h _ _ _ _) (E0 h _ _ _ _)) lr
theorem E1 {n m} (h:n<=m) (a b c d e f g i):Le (Ch n a b c d e f g i) (Ch m a b c d e f g i):=.bind (EK h _ _ _ _) λ _=>.bind (FQ h _ _ _ _ _ _ _) λ _=>.ite lr lr
theorem IS {n m} (h:n<=m) (a b c d e f g):Le (CT n a b c d e f g) (CT m a b c d e f g):=.ite (.bind lr λ _=>.bind lr λ _=>.bind (Le.ite (lr) (lr)) λ _=>.ite (E1 h _ _ _ _ _ _ _ _) (E1 h _ _ _ _ _ _ _ _)) lr
theorem FZ {n m} (h:n<=m) (a b c d):Le (BT n a b c d) (BT m a b c d):=.bind (Le.whl (λ _=>IR h _ _ _ _ _ _ _ _) h _) λ _=>.bind (Le.whl (λ _=>IS h _ _ _ _ _ _ _) h _) λ _=>.bind (Pb h _) λ _=>lr
theorem Mt {n m} (_:n<=m) (a b c d e):Le (HK n a b c d e) (HK m a b c d e):=lr
theorem E2 {n m} (_:n<=m) (a b):Le (Ci n a b) (Ci m a b):=lr
theorem IT {n m} (h:n<=m) (a b c d e):Le (Br n a b c d e) (Br m a b c d e):=.ite (.bind lr λ _=>.bind lr λ _=>.ite (.bind lr λ _=>.bind lr λ _=>E2 h _ _) (E2 h _ _)) lr
theorem F4 {n m} (h:n<=m) (a b c):Le (BU n a b c) (BU m a b c):=.bind lr λ _=>.bind (Le.whl (λ _=>IT h _ _ _ _ _) h _) λ _=>lr
theorem ED {n m} (_:n<=m) (a b c d):Le (BB n a b c d) (BB m a b c d):=lr
theorem Ia {n m} (h:n<=m) (a b c d e f g i):Le (Bm n a b c d e f g i) (Bm m a b c d e f g i):=.ite (.bind lr λ _=>.ite (.bind (Do h _ _ _ _) λ _=>ED h _ _ _ _) (ED h _ _ _ _)) lr
theorem EE {n m} (h:n<=m) (a b c d e f g i):Le (Bn n a b c d e f g i) (Bn m a b c d e f g i):=.bind (EK h _ _ _ _) λ _=>.bind (FQ h _ _ _ _ _ _ _) λ _=>.ite lr lr
theorem Ib {n m} (h:n<=m) (a b c d e f g i):Le (BC n a b c d e f g i) (BC m a b c d e f g i):=.ite (.bind lr λ _=>.bind lr λ _=>.bind (Le.ite (lr) (lr)) λ _=>.ite (EE h _ _ _ _ _ _ _ _) (EE h _ _ _ _ _ _ _ _)) lr
theorem FR {n m} (h:n<=m) (a b c d):Le (Be n a b c d) (Be m a b c d):=.bind (Le.whl (λ _=>Ia h _ _ _ _ _ _ _ _) h _) λ _=>.bind (Le.whl (λ _=>Ib h _ _ _ _ _ _ _ _) h _) λ _=>.bind (Pb h _) λ _=>lr
theorem EF {n m} (_:n<=m) (a b c d e f):Le (BD n a b c d e f) (BD m a b c d e f):=.bind lr λ _=>lr
theorem Ic {n m} (h:n<=m) (a b c d e f g i j):Le (A7 n a b c d e f g i j) (A7 m a b c d e f g i j):=.ite (.bind lr λ _=>.bind (Hg h _) λ _=>.ite (.bind lr λ _=>.bind lr λ _=>lr) (.bind lr λ _=>.bind lr λ _=>.bind (F4 h _ _ _) λ _=>.bind (FR h _ _ _ _) λ _=>.ite (.bind lr λ _=>.bind (Mt h _ _ _ _ _) λ _=>.ite lr (EF h _ _ _ _ _ _)) (.ite lr (EF h _ _ _ _ _ _)))) lr
theorem EG {n m} (h:n<=m) (a b c d e f g i):Le (BE n a b c d e f g i) (BE m a b c d e f g i):=.bind (Le.whl (λ _=>Ic h _ _ _ _ _ _ _ _ _) h _) λ y50=>by rcases y50 with _|_;exact lr;exact lr
theorem J6 {n m} (h:n<=m) (a b c d e f g):Le (B8 n a b c d e f g) (B8 m a b c d e f g):=.bind (FZ h _ _ _ _) λ _=>.ite (.bind (Mt h _ _ _ _ _) λ _=>.ite lr (EG h _ _ _ _ _ _ _ _)) (.ite lr (EG h _ _ _ _ _ _ _ _))
theorem LE {n m} (h:n<=m) (a b):Le (FE n a b) (FE m a b):=.bind (J3 h _) λ _=>.ite lr (.bind (Ix h _ _) λ _=>.bind (GT h _ _ _) λ _=>.bind (J6 h _ _ _ _ _ _ _) λ _=>.ite lr (.ite lr lr))
theorem LF {n m} (_:n<=m) (a b c d e):Le (D8 n a b c d e) (D8 m a b c d e):=.ite lr (.bind lr λ _=>lr)
theorem Ec {n m} (_:n<=m) (a b c d e f):Le (Bg n a b c d e f) (Bg m a b c d e f):=.bind lr λ _=>lr
theorem HS {n m} (h:n<=m) (a b c d e f g i j):Le (A5 n a b c d e f g i j) (A5 m a b c d e f g i j):=.ite (.bind lr λ _=>.bind (Hg h _) λ _=>.ite (.bind lr λ _=>.bind lr λ _=>lr) (.bind lr λ _=>.bind lr λ _=>.bind (F4 h _ _ _) λ _=>.bind (FR h _ _ _ _) λ _=>.ite (.bind lr λ _=>.bind (LF h _ _ _ _ _) λ _=>.ite lr (Ec h _ _ _ _ _ _)) (.ite lr (Ec h _ _ _ _ _ _)))) lr
theorem Ed {n m} (h:n<=m) (a b c d e f g i):Le (Bh n a b c d e f g i) (Bh m a b c d e f g i):=.bind (Le.whl (λ _=>HS h _ _ _ _ _ _ _ _ _) h _) λ y53=>by rcases y53 with _|_;exact lr;exact lr
theorem Jo {n m} (h:n<=m) (a b c d e f g):Le (BW n a b c d e f g) (BW m a b c d e f g):=.bind (FZ h _ _ _ _) λ _=>.ite (.bind (LF h _ _ _ _ _) λ _=>.ite lr (Ed h _ _ _ _ _ _ _ _)) (.ite lr (Ed h _ _ _ _ _ _ _ _))
theorem J7 {n m} (h:n<=m) (a b c):Le (Ep n a b c) (Ep m a b c):=.ite lr (.bind (J3 h _) λ _=>.ite lr (.bind (Ix h _ _) λ _=>.bind (GT h _ _ _) λ _=>.bind (Jo h _ _ _ _ _ _ _) λ _=>.ite lr (.ite lr lr)))
theorem NJ {n m} (_:n<=m) (a b c):Le (FF n a b c) (FF m a b c):=.ite (.bind lr λ _=>.bind lr λ _=>.ite lr lr) lr
theorem Rt {n m} (h:n<=m) (a b):Le (Ik n a b) (Ik m a b):=.ite lr (.bind (Le.whl (λ _=>NJ h _ _ _) h _) λ y56=>by rcases y56 with _|_;exact lr;exact lr)
theorem Pc {n m} (h:n<=m) (a b):Le (Gz n a b) (Gz m a b):=.bind (J3 h _) λ _=>.ite lr (.bind (Kz h _) λ _=>.bind (HR h _ _) λ _=>lr)
theorem Sn {n m} (h:n<=m):Le (HL n) (HL m):=.bind (Sl h) λ _=>.bind (LE h _ _) λ _=>.bind (LE h _ _) λ _=>.bind (LE h _ _) λ _=>.bind (J7 h _ _ _) λ _=>.bind (J7 h _ _ _) λ _=>.bind (J7 h _ _ _) λ _=>.bind (Le.ite (Rt h _ _) (lr)) λ _=>.bind (Le.ite (Pc h _ _) (lr)) λ _=>.bind (Le.ite (Pc h _ _) (lr)) λ _=>lr
end Go.AI
end
section
namespace Go.AI
theorem W2 (a:Int):IntKind.i64.wrap a=if decide (a % 18446744073709551616>=9223372036854775808)=true then a % 18446744073709551616-18446744073709551616 else a % 18446744073709551616:=rfl
theorem S1 (a:Int):IntKind.u8.wrap a=a % 256:=rfl
theorem MR {a:Int} (h:-9223372036854775808<=a) (h':a<9223372036854775808):IntKind.i64.wrap a=a:=by
 rw [W2]
 split
 ·rename_i hc;simp at hc;omega
 ·rename_i hc;simp at hc;omega
theorem J8 {a b:Int} (h:-9223372036854775808<=a+b) (h':a+b<9223372036854775808):Bj .i64 a b=a+b:=MR h h'
theorem MS {a b:Int} (h:-9223372036854775808<=a-b) (h':a-b<9223372036854775808):DU .i64 a b=a-b:=MR h h'
theorem Jb0 {a:Int} (h:0<=a) (h':a<256):IntKind.u8.wrap a=a:=by
 rw [S1];omega
theorem VF (a:Int):0<=IntKind.u8.wrap a/\IntKind.u8.wrap a<256:=by
 rw [S1];omega
def L9 (m k:Int):Bool:=decide (0<=k)&&decide (k<8)&&(Cv .u8 (Jc2 .u8 m k) 1==1)
theorem Jb1 (n:Nat) (m k:Int):Hk n m k=some (L9 m k):=by
 unfold Hk L9
 by_cases h:0<=k
 ·by_cases h':k<8<;>simp [h,h',D2]
 ·simp [h]
theorem Jb2 (n:Nat) (m k:Int):JT n m k=some (L9 m k):=by
 unfold JT L9
 by_cases h:0<=k
 ·by_cases h':k<8<;>simp [h,h',D2]
 ·simp [h]
def Gj (b:Int):Int:=
 if (decide (97<=Cv .u8 b 127)&&decide (Cv .u8 b 127<=122))=true then 1
 else if (decide (65<=Cv .u8 b 127)&&decide (Cv .u8 b 127<=90))=true then 2
 else if (decide (48<=Cv .u8 b 127)&&decide (Cv .u8 b 127<=57))=true then 3
 else if (Cv .u8 b 127==32)=true then 4 else 5
theorem VG (n:Nat) (b:Int):Fi n b=some (Gj b):=by
 unfold Fi Gj
 split
 ·rfl
 ·split
  ·rfl
  ·split
   ·rfl
   ·split<;>rfl
theorem YL (n:Nat) (b:Int):Jc n b=some (Gj b):=by
 unfold Jc Gj
 simp only [ge_iff_le]
 split
 ·rfl
 ·split
  ·rfl
  ·split
   ·rfl
   ·split<;>rfl
theorem VH (b:Int):1<=Gj b/\Gj b<=5:=by
 unfold Gj
 split
 ·omega
 ·split
  ·omega
  ·split
   ·omega
   ·split<;>omega
def S2 (s:List UInt8) (i:Nat):Int:=(s[i]?.getD 0).toNat
theorem NK {s:List UInt8} {i:Nat} (h:i<s.length):L4 s (i:Int)=some (S2 s i):=by
 unfold L4 S2
 rw [if_pos (by omega)]
 simp
def XG:Aa:=⟨0,0,0⟩
def XH (r:Au) (s:Aa):Aa×Bool:=
 if ((r.From != s.Mode)||!L9 r.Left s.Last)=true then (XG,false)
 else if (r.Print==[])=true then
  (if (Cv .u8 s.Need r.Right==0)=true then (XG,false) else (⟨r.To,s.Last,Cv .u8 s.Need r.Right⟩,true))
 else if (!L9 s.Need (Gj (S2 r.Print 0)))=true then (XG,false)
 else (⟨r.To,Gj (S2 r.Print (r.Print.length-1)),r.Right⟩,true)
def AX (t:Ab) (s:Aa) (k:Int):Aa×Bool:=
 if (decide (k<0)||decide (k>=(t.Rules.length:Int)))=true then (XG,false) else XH (t.Rules[k.toNat]?.getD default) s
def Jb3 (t:Ab):Prop:=∀ r∈t.Rules,r.Print.length<9223372036854775808
theorem Ru {α:Type} [Inhabited α] {l:List α} {k:Int} (h:0<=k) (h':k<l.length):idx l k=some (l[k.toNat]?.getD default):=by
 unfold idx
 rw [if_pos h]
 have:k.toNat<l.length:=by omega
 simp [this]
theorem PR {t:Ab} (ht:Jb3 t) (n:Nat) (s:Aa) (k:Int):HI n t s k=some (AX t s k):=by
 unfold HI AX
 by_cases hk:(decide (k<0)||decide (k>=(t.Rules.length:Int)))=true
 ·rw [if_pos hk,if_pos hk];rfl
 ·rw [if_neg hk,if_neg hk]
  simp only [Jjx,decide_eq_true_eq,not_or,Int.not_lt,ge_iff_le,Int.not_le] at hk
  rw [Ru hk.1 hk.2]
  have hmem:(t.Rules[k.toNat]?.getD default)∈t.Rules:=by
   have:k.toNat<t.Rules.length:=by omega
   simp [this]
  have hlen:=ht _ hmem
  generalize t.Rules[k.toNat]?.getD default=r at hlen ⊢
  simp only [Option.bind_some,Jb1,VG]
  unfold XH
  by_cases h1:r.From=s.Mode
  ·simp only [h1,bne_self_eq_false,Bool.not_false,if_true,Option.bind_some,Bool.false_or]
   by_cases h2:L9 r.Left s.Last=true
   ·simp only [h2,Bool.not_true,Jjq,if_false]
    by_cases h3:r.Print=[]
    ·simp only [h3,beq_self_eq_true,if_true]
     split<;>rfl
    ·have h3':(r.Print==[])=false:=by simpa using h3
     have hpos:0<r.Print.length:=List.length_pos_iff.2 h3
     simp only [h3',Jjq,if_false]
     have e0:=NK (s:=r.Print) (i:=0) hpos
     simp only [Int.natCast_zero] at e0
     rw [e0]
     have e1:DU .i64 ((r.Print.length:Nat):Int) 1=((r.Print.length-1:Nat):Int):=by rw [MS (by omega) (by omega)];omega
     rw [e1,NK (by omega)]
     simp only [Option.bind_some]
     split<;>rfl
   ·have h2:L9 r.Left s.Last=false:=by simpa using h2
    simp only [h2,Bool.not_false,if_true];rfl
  ·have h1':(r.From != s.Mode)=true:=by simpa using h1
   simp only [h1',Bool.not_true,Jjq,if_false,Option.bind_some,Bool.true_or,if_true];rfl
end Go.AI
end
section
namespace Go.AI
theorem Am {α:Type} {l:List α} {i:Nat} {x:α} (h:l[i]? = some x):i<l.length:=(List.getElem?_eq_some_iff.1 h).1
theorem HT {t:Ab} (ht:Jb3 t) (n:Nat) (s:Aa) (k:Int):EP n t s k=some (AX t s k):=by
 unfold EP AX
 by_cases hk:(decide (k<0)||decide (k>=(t.Rules.length:Int)))=true
 ·rw [if_pos hk,if_pos hk];rfl
 ·rw [if_neg hk,if_neg hk]
  simp only [Jjx,decide_eq_true_eq,not_or,Int.not_lt,ge_iff_le,Int.not_le] at hk
  rw [Ru hk.1 hk.2]
  have hmem:(t.Rules[k.toNat]?.getD default)∈t.Rules:=by
   have:k.toNat<t.Rules.length:=by omega
   simp [this]
  have hlen:=ht _ hmem
  generalize t.Rules[k.toNat]?.getD default=r at hlen ⊢
  simp only [Option.bind_some,Jb2,YL]
  unfold XH
  by_cases h1:r.From=s.Mode
  ·simp only [h1,bne_self_eq_false,Bool.not_false,if_true,Option.bind_some,Bool.false_or]
   by_cases h2:L9 r.Left s.Last=true
   ·simp only [h2,Bool.not_true,Jjq,if_false]
    by_cases h3:r.Print=[]
    ·simp only [h3,List.length_nil,Int.natCast_zero,beq_self_eq_true,Bool.true_and,if_true]
     split<;>rfl
    ·have h3':(r.Print==[])=false:=by simpa using h3
     have hpos:0<r.Print.length:=List.length_pos_iff.2 h3
     have h4:(((r.Print.length:Nat):Int)==0)=false:=by simp;omega
     simp only [h3',h4,Bool.false_and,Jjq,if_false]
     have e0:=NK (s:=r.Print) (i:=0) hpos
     simp only [Int.natCast_zero] at e0
     rw [e0]
     have e1:DU .i64 ((r.Print.length:Nat):Int) 1=((r.Print.length-1:Nat):Int):=by rw [MS (by omega) (by omega)];omega
     rw [e1,NK (by omega)]
     simp only [Option.bind_some]
     split<;>rfl
   ·have h2:L9 r.Left s.Last=false:=by simpa using h2
    simp only [h2,Bool.not_false,if_true];rfl
  ·have h1':(r.From != s.Mode)=true:=by simpa using h1
   simp only [h1',Bool.not_true,Jjq,if_false,Option.bind_some,Bool.true_or,if_true];rfl
def Aw (t:Ab) (s:Aa):Bool:=decide (s.Mode<t.Modes)&&L9 t.Accept s.Mode&&L9 s.Need 0
theorem Rv (n:Nat) (t:Ab) (s:Aa):D6 n t s=some (Aw t s):=by
 unfold D6 Aw
 simp only [Jb1]
 by_cases h1:s.Mode<t.Modes
 ·cases h2:L9 t.Accept s.Mode<;>simp [h1]
 ·simp [h1]
theorem Iy (n:Nat) (t:Ab) (s:Aa):D9 n t s=some (Aw t s):=by
 unfold D9 Aw
 simp only [Jb2]
 have h0:¬ (0<=s.Mode)->L9 t.Accept s.Mode=false:=λ h=>by simp [L9,h]
 by_cases h:0<=s.Mode
 ·by_cases h1:s.Mode<t.Modes
  ·cases h2:L9 t.Accept s.Mode<;>simp [h,h1]
  ·simp [h1]
 ·simp [h,h0 h]
theorem eqS (a b:Aa):((a.Mode==b.Mode)&&((a.Last==b.Last)&&((a.Need==b.Need)&&true)))=decide (a=b):=by
 cases a;cases b
 simp [Bool.decide_and]
 rfl
def HU (l:List Aa) (s:Aa):Int:=match l.findIdx? (λ x=>decide (x=s)) with
 | some i=>i
 | none=>-1
theorem LG {l:List Aa} {s:Aa} (hl:l.length<9223372036854775807):Ev (λ n=>Gf n l s) (HU l s):=by
 have loop:Ev (λ n=>whl (λ x=>Dy n l s x) n (0:Int)) (match l.findIdx? (λ x=>decide (x=s)) with|some i=>(.inr (i:Int):Unit⊕Int)|none=>.inl ()):=by
  refine Ev.whl (body:=λ n x=>Dy n l s x) (λ k x=>∃ i:Nat,x=i/\i<=l.length/\k=l.length-i/\∀ j,j<i->∀ y,l[j]? = some y->y≠s) ?_ l.length 0 ⟨0,rfl,by omega,by omega,λ j hj=>by omega⟩
  rintro k x ⟨i,rfl,hi,rfl,hbefore⟩
  by_cases hlt:i<l.length
  ·have hg:l[i]? = some l[i]:=Jjf hlt
   have hidx:idx l (i:Int)=some l[i]:=by
    unfold idx
    rw [if_pos (by omega)]
    simp
   by_cases he:l[i]=s
   ·right
    refine Ev.all λ n=>?_
    unfold Dy
    rw [if_pos (by simpa using hlt),hidx]
    simp only [Option.bind_some,eqS,he,decide_true,if_true]
    have:l.findIdx? (λ x=>decide (x=s))=some i:=by
     rw [List.findIdx?_eq_some_iff_getElem]
     refine ⟨hlt,by simpa using he,λ j hj=>?_⟩
     have hj':j<l.length:=by omega
     have:=hbefore j hj l[j] (Jjf hj')
     simpa using this
    rw [this]
   ·left
    refine ⟨((i+1:Nat):Int),l.length-(i+1),by omega,⟨i+1,rfl,by omega,rfl,λ j hj y hy=>?_⟩,Ev.all λ n=>?_⟩
    ·by_cases hji:j=i
     ·subst hji;rw [hg] at hy;cases hy;exact he
     ·exact hbefore j (by omega) y hy
    ·unfold Dy
     rw [if_pos (by simpa using hlt),hidx]
     simp only [Option.bind_some,eqS,he,decide_false,Jjq,if_false]
     rw [J8 (by omega) (by omega)]
     rfl
  ·right
   have hi':i=l.length:=by omega
   subst hi'
   refine Ev.all λ n=>?_
   unfold Dy
   rw [if_neg (by simp)]
   have:l.findIdx? (λ x=>decide (x=s))=none:=by
    rw [List.findIdx?_eq_none_iff]
    intro y hy
    obtain ⟨j,hj⟩:=List.mem_iff_getElem?.1 hy
    have:=hbefore j (Am hj) y hj
    simpa using this
   rw [this]
 refine (Ev.bind loop (g:=λ _ y=>match y with|Sum.inl _=>some (-1)|Sum.inr z=>some z) (z:=HU l s) ?_).congr λ n=>?_
 ·unfold HU
  cases l.findIdx? (λ x=>decide (x=s)) with
  | none=>exact Ev.const
  | some i=>exact Ev.const
 ·rfl
end Go.AI
end
section
namespace Go.AI
theorem W3 (a b:Int) (h:0<=b) (h':b<256):0<=Cv .u8 a b/\Cv .u8 a b<=b:=by
 unfold Cv
 have hb:(BitVec.ofInt 8 b).toNat=b.toNat:=by
  rw [BitVec.toNat_ofInt]
  omega
 have hle:(BitVec.ofInt 8 a &&& BitVec.ofInt 8 b).toNat<=b.toNat:=by
  rw [BitVec.toNat_and,hb];exact Nat.and_le_right
 have e:(BitVec.ofInt IntKind.u8.bits a &&& BitVec.ofInt IntKind.u8.bits b).toNat=(BitVec.ofInt 8 a &&& BitVec.ofInt 8 b).toNat:=rfl
 rw [e,Jb0 (by omega) (by omega)]
 omega
def MT (r:Au):Prop:=0<=r.To/\r.To<2/\0<=r.Right/\r.Right<=63/\r.Print.length<=3
def Dg (t:Ab):Prop:=t.Rules.length<=11/\∀ r∈t.Rules,MT r
theorem Dg.short {t:Ab} (h:Dg t):Jb3 t:=λ r hr=>by have:=(h.2 r hr).2.2.2.2;omega
def InU (s:Aa):Prop:=0<=s.Mode/\s.Mode<2/\0<=s.Last/\s.Last<=5/\0<=s.Need/\s.Need<=63
def Jhx:List Aa:=(List.range 768).map λ i=>⟨(i / 384:Nat),(i / 64 % 6:Nat),(i % 64:Nat)⟩
theorem Jb4 {s:Aa} (h:InU s):s∈Jhx:=by
 obtain ⟨h1,h2,h3,h4,h5,h6⟩:=h
 obtain ⟨m,l,d⟩:=s
 simp only at h1 h2 h3 h4 h5 h6
 simp only [Jhx,List.mem_map,List.mem_range]
 refine ⟨m.toNat*384+l.toNat*64+d.toNat,by omega,?_⟩
 have e1:(m.toNat*384+l.toNat*64+d.toNat) / 384=m.toNat:=by omega
 have e2:(m.toNat*384+l.toNat*64+d.toNat) / 64 % 6=l.toNat:=by omega
 have e3:(m.toNat*384+l.toNat*64+d.toNat) % 64=d.toNat:=by omega
 rw [e1,e2,e3]
 congr 1<;>omega
theorem Jb5 {l m:List Aa} (h:l.Nodup) (hs:∀ x∈l,x∈m):l.length<=m.length:=by
 induction l generalizing m with
 | nil=>simp
 | cons a l ih=>
  rw [List.nodup_cons] at h
  have ha:=hs a (by simp)
  have hlen:(m.erase a).length=m.length-1:=List.length_erase_of_mem ha
  have hpos:0<m.length:=List.length_pos_of_mem ha
  have:=ih (m:=m.erase a) h.2 λ x hx=>by
   have hne:x≠a:=λ e=>h.1 (e▸hx)
   exact (List.mem_erase_of_ne hne).2 (hs x (by simp [hx]))
  simp
  omega
theorem Jb6 {l:List Aa} (h:l.Nodup) (hs:∀ x∈l,InU x):l.length<=768:=by
 have:=Jb5 h λ x hx=>Jb4 (hs x hx)
 simpa [Jhx] using this
theorem Jb7 {t:Ab} (ht:Dg t) {s:Aa} (hs:InU s) {k:Int} (h:(AX t s k).2=true):InU (AX t s k).1:=by
 unfold AX at h ⊢
 split at h
 ·cases h
 ·rename_i hk
  rw [if_neg hk]
  simp only [Jjx,decide_eq_true_eq,not_or,Int.not_lt,ge_iff_le,Int.not_le] at hk
  have hmem:(t.Rules[k.toNat]?.getD default)∈t.Rules:=by
   have:k.toNat<t.Rules.length:=by omega
   simp [this]
  have hr:=ht.2 _ hmem
  generalize t.Rules[k.toNat]?.getD default=r at hr h ⊢
  obtain ⟨a1,a2,a3,a4,a5⟩:=hr
  obtain ⟨b1,b2,b3,b4,b5,b6⟩:=hs
  unfold XH at h ⊢
  split at h
  ·cases h
  ·rename_i h1
   rw [if_neg h1]
   split at h
   ·rename_i h2
    rw [if_pos h2]
    split at h
    ·cases h
    ·rename_i h3
     rw [if_neg h3]
     have:=W3 s.Need r.Right a3 (by omega)
     exact ⟨a1,a2,b3,b4,this.1,by show Cv .u8 s.Need r.Right<=63;omega⟩
   ·rename_i h2
    rw [if_neg h2]
    split at h
    ·cases h
    ·rename_i h3
     rw [if_neg h3]
     have:=VH (S2 r.Print (r.Print.length-1))
     exact ⟨a1,a2,by show 0<=Gj _;omega,by show Gj _<=5;omega,a3,a4⟩
def Bu:Aa:=⟨0,0,63⟩
def J9 (t:Ab) (s:Aa) (st:List Aa) (k:Nat):List Aa:=if (AX t s k).2=true/\(AX t s k).1 ∉ st then st++[(AX t s k).1] else st
def Jp (t:Ab) (s:Aa) (m:Nat) (st:List Aa):List Aa:=(List.range m).foldl (J9 t s) st
theorem Jq (t:Ab) (s:Aa) (m:Nat) (st:List Aa):Jp t s (m+1) st=J9 t s (Jp t s m st) m:=by
 simp [Jp,List.range_succ]
def Rx (t:Ab):Nat->Nat->List Aa->List Aa
 | 0,_,st=>st
 | f+1,i,st=>match st[i]? with
  | some s=>Rx t f (i+1) (Jp t s t.Rules.length st)
  | none=>st
def AT (t:Ab):List Aa:=Rx t 800 0 [Bu]
structure Dh (t:Ab) (st:List Aa):Prop where
 nodup:st.Nodup
 inU:∀ s∈st,InU s
 first:st[0]? = some Bu
 origin:∀ (j:Nat) (s:Aa),st[j]? = some s->0<j->∃ (i:Nat) (s':Aa) (k:Nat),i<j/\st[i]? = some s'/\k<t.Rules.length/\AX t s' k=(s,true)
theorem Dh.len {t:Ab} {st:List Aa} (h:Dh t st):st.length<=768:=Jb6 h.nodup h.inU
theorem Dh.add {t:Ab} (ht:Dg t) {st:List Aa} (h:Dh t st) {i:Nat} {s:Aa} (hi:st[i]? = some s) {k:Nat} (hk:k<t.Rules.length):Dh t (J9 t s st k):=by
 unfold J9
 split
 ·rename_i hc
  have hil:=Am hi
  refine ⟨?_,λ x hx=>?_,?_,λ j x hj h0=>?_⟩
  ·rw [List.nodup_append]
   refine ⟨h.nodup,by simp,λ a ha b hb=>?_⟩
   simp at hb
   subst hb
   exact λ e=>hc.2 (e▸ha)
  ·simp only [List.mem_append,List.mem_singleton] at hx
   rcases hx with hx|rfl
   ·exact h.inU x hx
   ·exact Jb7 ht (h.inU s (Jjh hi)) hc.1
  ·rw [Jjn (by omega)];exact h.first
  ·rcases Nat.lt_or_ge j st.length with hlt|hge
   ·rw [Jjn hlt] at hj
    obtain ⟨i',s',k',a1,a2,a3,a4⟩:=h.origin j x hj h0
    exact ⟨i',s',k',a1,by rw [Jjn (by omega)];exact a2,a3,a4⟩
   ·rw [Jjw hge] at hj
    have:j-st.length=0:=by have:=Am hj;simp at this;omega
    rw [this] at hj
    simp at hj
    subst hj
    refine ⟨i,s,k,by omega,by rw [Jjn hil];exact hi,hk,?_⟩
    exact Prod.ext rfl hc.1
 ·exact h
theorem VI (t:Ab) (s:Aa) (st:List Aa) (k:Nat):st <+: J9 t s st k:=by
 unfold J9
 split
 ·exact List.prefix_append _ _
 ·exact List.prefix_refl _
theorem GU (t:Ab) (s:Aa) (st:List Aa):∀ m,st <+: Jp t s m st:=by
 intro m
 induction m with
 | zero=>exact List.prefix_refl _
 | succ m ih=>rw [Jq];exact ih.trans (VI _ _ _ _)
theorem NL {α:Type} {l m:List α} (h:l <+: m) {i:Nat} {x:α} (hi:l[i]? = some x):m[i]? = some x:=by
 obtain ⟨r,rfl⟩:=h
 rw [Jjn (Am hi)];exact hi
theorem Dh.exp {t:Ab} (ht:Dg t) {st:List Aa} (h:Dh t st) {i:Nat} {s:Aa} (hi:st[i]? = some s):∀ m,m<=t.Rules.length->Dh t (Jp t s m st):=by
 intro m
 induction m with
 | zero=>intro _;exact h
 | succ m ih=>
  intro hm
  rw [Jq]
  exact (ih (by omega)).add ht (NL (GU t s st m) hi) (by omega)
theorem Jb8 (t:Ab) (s:Aa) (st:List Aa):∀ m k:Nat,k<m->(AX t s k).2=true->(AX t s k).1∈Jp t s m st:=by
 intro m
 induction m with
 | zero=>intro k hk;omega
 | succ m ih=>
  intro k hk h
  rw [Jq]
  by_cases e:k=m
  ·subst e
   unfold J9
   by_cases hc:(AX t s k).1∈Jp t s k st
   ·rw [if_neg (λ hh=>hh.2 hc)];exact hc
   ·rw [if_pos ⟨h,hc⟩];simp
  ·exact (VI t s _ m).subset (ih k (by omega) h)
def MU (t:Ab) (i:Nat) (st:List Aa):Prop:=∀ (j:Nat) (s:Aa),j<i->st[j]? = some s->∀ k:Nat,k<t.Rules.length->(AX t s k).2=true->(AX t s k).1∈st
theorem Jhy {t:Ab} (ht:Dg t):∀ (f i:Nat) (st:List Aa),Dh t st->MU t i st->768<f+i->Dh t (Rx t f i st)/\∀ i',MU t i' (Rx t f i st):=by
 intro f
 induction f with
 | zero=>
  intro i st h hd hf
  have:=h.len
  refine ⟨h,λ i' j s hj hs=>?_⟩
  have hs:st[j]? = some s:=hs
  exact hd j s (by have:=Am hs;omega) hs
 | succ f ih=>
  intro i st h hd hf
  simp only [Rx]
  cases hi:st[i]? with
  | none=>
   refine ⟨h,λ i' j s hj hs=>?_⟩
   have hs:st[j]? = some s:=hs
   exact hd j s (by have:=Am hs;rw [List.getElem?_eq_none_iff] at hi;omega) hs
  | some s=>
   refine ih (i+1) _ (h.exp ht hi _ (Nat.le_refl _)) (λ j x hj hx k hk hk2=>?_) (by omega)
   by_cases e:j=i
   ·subst e
    have:=NL (GU t s st t.Rules.length) hi
    rw [this] at hx
    cases hx
    exact Jb8 t s st _ k hk hk2
   ·have hjl:j<st.length:=by have:=Am hi;omega
    have hxx:st[j]? = some st[j]:=Jjf hjl
    have:=NL (GU t s st t.Rules.length) hxx
    rw [this] at hx
    cases hx
    exact (GU t s st t.Rules.length).subset (hd j _ (by omega) hxx k hk hk2)
theorem CK {t:Ab} (ht:Dg t):Dh t (AT t)/\∀ i,MU t i (AT t):=by
 refine Jhy ht 800 0 [Bu] ⟨by simp,λ s hs=>?_,rfl,λ j s hj h0=>?_⟩ (λ j s hj=>by omega) (by omega)
 ·simp at hs;subst hs;exact ⟨by decide,by decide,by decide,by decide,by decide,by decide⟩
 ·cases j with
  | zero=>omega
  | succ j=>simp at hj
end Go.AI
end
section
namespace Go.AI
theorem Ev.whlR {σ ρ:Type} {body:Nat->σ->Option (σ⊕ρ)} {R:ρ->Prop} (I:Nat->σ->Prop) (h:∀ k x,I k x->(∃ y j,j<k/\I j y/\Ev (λ n=>body n x) (.inl y))\/∃ r,R r/\Ev (λ n=>body n x) (.inr r)):∀ (k:Nat) (x:σ),I k x->∃ r,R r/\Ev (λ n=>Go.AI.whl (body n) n x) r:=by
 have key:∀ (k:Nat) (x:σ),I k x->∃ r,R r/\∃ N c,∀ n fuel,N<=n->c<=fuel->Go.AI.whl (body n) fuel x=some r:=by
  intro k
  induction k using Nat.strongRecOn with
  | _ k ih=>
   intro x hx
   rcases h k x hx with ⟨y,j,hj,hy,N1,h1⟩|⟨r,hr,N1,h1⟩
   ·obtain ⟨r,hr,N2,c,h2⟩:=ih j hj y hy
    refine ⟨r,hr,max N1 N2,c+1,λ n fuel hn hf=>?_⟩
    cases fuel with
    | zero=>omega
    | succ fuel=>
     have e:=h1 n (by omega)
     simp only at e
     simp only [Go.AI.whl,e]
     exact h2 n fuel (by omega) (by omega)
   ·refine ⟨r,hr,N1,1,λ n fuel hn hf=>?_⟩
    cases fuel with
    | zero=>omega
    | succ fuel=>
     have e:=h1 n hn
     simp only at e
     simp only [Go.AI.whl,e]
 intro k x hx
 obtain ⟨r,hr,N,c,hh⟩:=key k x hx
 exact ⟨r,hr,max N c,λ m hm=>hh m m (by omega) (by omega)⟩
def KA (st:List Aa) (nb:List (Aa×Int)):Prop:=∀ s,C6 s nb=(st.findIdx? λ x=>decide (x=s)).map λ i=>(i:Int)
theorem Dc {st:List Aa} {s:Aa} {i:Nat} (hn:st.Nodup) (h:st[i]? = some s):(st.findIdx? λ x=>decide (x=s))=some i:=by
 have hi:=Am h
 rw [List.findIdx?_eq_some_iff_getElem]
 have he:st[i]=s:=by rw [Jjf hi] at h;exact Option.some.inj h
 refine ⟨hi,by simpa using he,λ j hj=>?_⟩
 simp only [Bool.not_eq_true,decide_eq_false_iff_not]
 intro e
 have:=(List.getElem_inj (i:=j) (j:=i) (h₀:=by omega) (h₁:=hi) hn).1 (by rw [e,he])
 omega
theorem Hq {st:List Aa} {s:Aa} (h:s ∉ st):(st.findIdx? λ x=>decide (x=s))=none:=by
 rw [List.findIdx?_eq_none_iff]
 intro y hy
 simp only [decide_eq_false_iff_not]
 exact λ e=>h (e▸hy)
theorem Ov {κ α:Type} [DecidableEq κ] (k k':κ) (v:α) (m:List (κ×α)):C6 k' (D3 k v m)=if k'=k then some v else C6 k' m:=by
 induction m with
 | nil=>simp [D3,C6]
 | cons p m ih=>
  simp only [D3]
  by_cases h:k=p.1
  ·rw [if_pos h]
   simp only [C6]
   by_cases h':k'=k
   ·simp [h']
   ·have:k'≠p.1:=λ e=>h' (e.trans h.symm)
    simp [h',this]
  ·rw [if_neg h]
   simp only [C6]
   by_cases h':k'=p.1
   ·have:k'≠k:=λ e=>h (e▸h')
    rw [if_pos h',if_neg this,if_pos h']
   ·rw [if_neg h',if_neg h',ih]
theorem KA.snoc {st:List Aa} {nb:List (Aa×Int)} (h:KA st nb) (hn:st.Nodup) {p:Aa} (hp:p ∉ st):KA (st++[p]) (D3 p (st.length:Nat) nb):=by
 intro s
 rw [Ov]
 have hnd:(st++[p]).Nodup:=by
  rw [List.nodup_append]
  exact ⟨hn,by simp,λ a ha b hb=>by simp at hb;subst hb;exact λ e=>hp (e▸ha)⟩
 by_cases e:s=p
 ·subst e
  rw [if_pos rfl,Dc hnd (i:=st.length) (by simp)]
  rfl
 ·rw [if_neg e,h s]
  by_cases hs:s∈st
  ·obtain ⟨i,hi⟩:=List.mem_iff_getElem?.1 hs
   rw [Dc hn hi,Dc hnd (i:=i) (by rw [Jjn (Am hi)];exact hi)]
  ·rw [Hq hs,Hq (by simp [hs,e])]
def HV (i m j k:Nat):Prop:=j<i\/(j=i/\k<m)
structure De (t:Ab) (st:List Aa) (fr:List (List Int)) (i m:Nat):Prop where
 len:fr.length=st.length
 cov:∀ j s k,HV i m j k->st[j]? = some s->k<t.Rules.length->(AX t s (k:Nat)).2=true->(AX t s (k:Nat)).1∈st
 sound:∀ (n:Nat) l,fr[n]? = some l->∀ x∈l,∃ (j:Nat) (s:Aa) (k:Nat) (s':Aa),x=(j:Int)/\st[j]? = some s/\k<t.Rules.length/\st[n]? = some s'/\AX t s (k:Nat)=(s',true)
 compl:∀ (n:Nat) l,fr[n]? = some l->∀ (j:Nat) (s:Aa) (k:Nat) (s':Aa),HV i m j k->st[j]? = some s->k<t.Rules.length->st[n]? = some s'->AX t s (k:Nat)=(s',true)->(j:Int)∈l
 small:∀ (n:Nat) l,fr[n]? = some l->l.length<=i*11+m
theorem De.snoc {t:Ab} {st:List Aa} {fr:List (List Int)} {i m:Nat} (h:De t st fr i m) {p:Aa} (hp:p ∉ st) (hi:i<st.length):De t (st++[p]) (fr++[[]]) i m:=by
 have hget:∀ (j:Nat) s,HV i m j 0\/j<=i->(st++[p])[j]? = some s->st[j]? = some s:=λ j s hj hs=>by
  rcases Nat.lt_or_ge j st.length with hlt|hge
  ·rwa [Jjn hlt] at hs
  ·rcases hj with (h1|⟨h1,_⟩)|h1<;>omega
 have hle:∀ {j k},HV i m j k->j<=i:=λ h=>by rcases h with h|⟨h,_⟩<;>omega
 refine ⟨by simp [h.len],λ j s k ht hs hk h2=>?_,λ n l hl x hx=>?_,λ n l hl j s k s' ht hs hk hs' he=>?_,λ n l hl=>?_⟩
 ·exact List.mem_append_left _ (h.cov j s k ht (hget j s (.inr (hle ht)) hs) hk h2)
 ·rcases Nat.lt_or_ge n fr.length with hlt|hge
  ·rw [Jjn hlt] at hl
   obtain ⟨j,s,k,s',a1,a2,a3,a4,a5⟩:=h.sound n l hl x hx
   exact ⟨j,s,k,s',a1,by rw [Jjn (Am a2)];exact a2,a3,by rw [Jjn (Am a4)];exact a4,a5⟩
  ·rw [Jjw hge] at hl
   have:n-fr.length=0:=by have:=Am hl;simp at this;omega
   rw [this] at hl;simp at hl;subst hl;simp at hx
 ·have hs0:=hget j s (.inr (hle ht)) hs
  have hmem:s'∈st:=by have:=h.cov j s k ht hs0 hk (by rw [he]);rwa [he] at this
  rcases Nat.lt_or_ge n fr.length with hlt|hge
  ·rw [Jjn hlt] at hl
   rw [Jjn (by rw [← h.len];exact hlt)] at hs'
   exact h.compl n l hl j s k s' ht hs0 hk hs' he
  ·have hn:n=st.length:=by have:=Am hs';simp at this;rw [h.len] at hge;omega
   subst hn
   simp at hs'
   subst hs'
   exact absurd hmem hp
 ·rcases Nat.lt_or_ge n fr.length with hlt|hge
  ·rw [Jjn hlt] at hl;exact h.small n l hl
  ·rw [Jjw hge] at hl
   have:n-fr.length=0:=by have:=Am hl;simp at this;omega
   rw [this] at hl;simp at hl;subst hl;simp
theorem De.put {t:Ab} {st:List Aa} {fr:List (List Int)} {i m:Nat} (h:De t st fr i m) (hnd:st.Nodup) {s p:Aa} {q:Nat} {l:List Int} (hs:st[i]? = some s) (hm:m<t.Rules.length) (hst:AX t s (m:Nat)=(p,true)) (hq:st[q]? = some p) (hl:fr[q]? = some l):De t st (fr.set q (l++[(i:Int)])) i (m+1):=by
 have htk:∀ {j k},HV i (m+1) j k->HV i m j k\/(j=i/\k=m):=λ {j k} h=>by
  unfold HV at *
  omega
 have hql:=Am hl
 refine ⟨by simp [h.len],λ j x k ht hx hk h2=>?_,λ n l' hl' x hx=>?_,λ n l' hl' j x k x' ht hx hk hx' he=>?_,λ n l' hl'=>?_⟩
 ·rcases htk ht with ht|⟨rfl,rfl⟩
  ·exact h.cov j x k ht hx hk h2
  ·rw [hs] at hx;cases hx;rw [hst];exact Jjh hq
 ·by_cases e:n=q
  ·subst e
   rw [Jjp hql] at hl'
   cases hl'
   simp only [List.mem_append,List.mem_singleton] at hx
   rcases hx with hx|rfl
   ·exact h.sound n l hl x hx
   ·exact ⟨i,s,m,p,rfl,hs,hm,hq,hst⟩
  ·rw [Jju (Ne.symm e)] at hl';exact h.sound n l' hl' x hx
 ·rcases htk ht with ht|⟨rfl,rfl⟩
  ·by_cases e:n=q
   ·subst e
    rw [Jjp hql] at hl'
    cases hl'
    exact List.mem_append_left _ (h.compl n l hl j x k x' ht hx hk hx' he)
   ·rw [Jju (Ne.symm e)] at hl';exact h.compl n l' hl' j x k x' ht hx hk hx' he
  ·rw [hs] at hx;cases hx
   rw [hst] at he;cases he
   have e:n=q:=by
    have h1:=Am hx'
    have h2:=Am hq
    rw [Jjf h1] at hx'
    rw [Jjf h2] at hq
    exact (List.getElem_inj (h₀:=h1) (h₁:=h2) hnd).1 ((Option.some.inj hx').trans (Option.some.inj hq).symm)
   subst e
   rw [Jjp hql] at hl'
   cases hl'
   simp
 ·by_cases e:n=q
  ·subst e
   rw [Jjp hql] at hl'
   cases hl'
   have:=h.small n l hl
   simp;omega
  ·rw [Jju (Ne.symm e)] at hl'
   have:=h.small n l' hl'
   omega
theorem De.skip {t:Ab} {st:List Aa} {fr:List (List Int)} {i m:Nat} (h:De t st fr i m) {s:Aa} (hs:st[i]? = some s) (hst:(AX t s (m:Nat)).2=false):De t st fr i (m+1):=by
 have htk:∀ {j k},HV i (m+1) j k->HV i m j k\/(j=i/\k=m):=λ {j k} h=>by
  unfold HV at *
  omega
 refine ⟨h.len,λ j x k ht hx hk h2=>?_,h.sound,λ n l hl j x k x' ht hx hk hx' he=>?_,λ n l hl=>by have:=h.small n l hl;omega⟩
 ·rcases htk ht with ht|⟨rfl,rfl⟩
  ·exact h.cov j x k ht hx hk h2
  ·rw [hs] at hx;cases hx;rw [hst] at h2;cases h2
 ·rcases htk ht with ht|⟨rfl,rfl⟩
  ·exact h.compl n l hl j x k x' ht hx hk hx' he
  ·rw [hs] at hx;cases hx;rw [he] at hst;cases hst
end Go.AI
end
section
namespace Go.AI
theorem Ka {α:Type} {l:List α} {i:Nat} {x:α} (h:l[i]? = some x):idx l (i:Int)=some x:=by
 unfold idx
 rw [if_pos (by omega)]
 simpa using h
theorem Fd {α:Type} {eb:Nat} {xs ys:List α} (h:(xs.length+ys.length)*eb<=70368744177664):app eb xs ys=some (xs++ys):=by
 unfold app;rw [if_pos h]
theorem VJ {t:Ab} (ht:Dg t) {i m:Nat} {s:Aa} {st:List Aa} {fr:List (List Int)} {nb:List (Aa×Int)} (hF:Dh t st) (hi:st[i]? = some s) (hN:KA st nb) (hR:De t st fr i m) (hm:m<t.Rules.length) :
  ∃ fr' nb',KA (J9 t s st m) nb'/\De t (J9 t s st m) fr' i (m+1)/\∀ n,Bw n t (i:Int) st fr nb (m:Int)=some (.inl (J9 t s st m,fr',nb',((m+1:Nat):Int))):=by
 have hil:=Am hi
 have hlen:=hF.len
 have hrl:=ht.1
 have hinc:Bj .i64 (m:Int) 1=((m+1:Nat):Int):=by rw [J8 (by omega) (by omega)];rfl
 have hcond:decide ((m:Int)<((t.Rules.length:Nat):Int))=true:=by simpa using hm
 cases hp:(AX t s (m:Nat)).2 with
 | false=>
  have ha:J9 t s st m=st:=by unfold J9;rw [if_neg (by rw [hp];simp)]
  refine ⟨fr,nb,by rw [ha];exact hN,by rw [ha];exact hR.skip hi hp,λ n=>?_⟩
  unfold Bw
  rw [if_pos hcond,Ka hi]
  simp only [Option.bind_some,PR ht.short,hp,Bool.not_false,if_true,Ct,hinc,ha]
 | true=>
  have hpe:AX t s (m:Nat)=((AX t s (m:Nat)).1,true):=Prod.ext rfl hp
  generalize hpp:(AX t s (m:Nat)).1=p at hpe
  by_cases hmem:p∈st
  ·have ha:J9 t s st m=st:=by unfold J9;rw [if_neg (by rw [hpp];exact λ hh=>hh.2 hmem)]
   obtain ⟨q,hq⟩:=List.mem_iff_getElem?.1 hmem
   have hql:=Am hq
   obtain ⟨lq,hfq⟩:∃ lq,fr[q]? = some lq:=⟨_,Jjf (by rw [hR.len];exact hql)⟩
   have hsm:=hR.small q _ hfq
   have hget:C6 p nb=some (q:Int):=by rw [hN p,Dc hF.nodup hq];rfl
   have hiv:i<768:=by omega
   refine ⟨fr.set q (lq++[(i:Int)]),nb,by rw [ha];exact hN,by rw [ha];exact hR.put hF.nodup hi hm hpe hq hfq,λ n=>?_⟩
   unfold Bw
   rw [if_pos hcond,Ka hi]
   simp only [Option.bind_some,PR ht.short,hpe,hget,Option.isSome_some,Bool.not_true,Jjq,if_false,Option.getD_some,CO]
   rw [Ka hfq]
   simp only [Option.bind_some]
   rw [Fd (by simp;omega)]
   simp only [Option.bind_some,Ct,hinc,ha,Int.toNat_natCast]
  ·have ha:J9 t s st m=st++[p]:=by unfold J9;rw [if_pos ⟨hp,by rw [hpp];exact hmem⟩,hpp]
   have hnd:(st++[p]).Nodup:=by have:=(hF.add ht hi hm).nodup;rwa [ha] at this
   have hget:C6 p nb=none:=by rw [hN p,Hq hmem];rfl
   have hR':=hR.snoc hmem hil
   have hfq:(fr++[[]])[st.length]? = some ([]:List Int):=by rw [← hR.len];simp
   refine ⟨(fr++[[]]).set st.length ([]++[(i:Int)]),D3 p (st.length:Nat) nb,by rw [ha];exact hN.snoc hF.nodup hmem,by rw [ha];exact hR'.put hnd (by rw [Jjn hil];exact hi) hm hpe (by simp) hfq,λ n=>?_⟩
   unfold Bw
   rw [if_pos hcond,Ka hi]
   simp only [Option.bind_some,PR ht.short,hpe,hget,Option.isSome_none,Bool.not_false,Bool.not_true,Jjq,if_true,if_false]
   rw [Fd (by simp;omega),Option.bind_some,Fd (by simp [hR.len];omega),Option.bind_some]
   simp only [CO]
   rw [Ka hfq]
   simp only [Option.bind_some]
   rw [Fd (by simp)]
   simp only [Option.bind_some,Ct,hinc,ha,Int.toNat_natCast]
theorem De.next {t:Ab} {st:List Aa} {fr:List (List Int)} {i:Nat} (h:De t st fr i t.Rules.length) (hr:t.Rules.length<=11):De t st fr (i+1) 0:=by
 have htk:∀ {j k},k<t.Rules.length->HV (i+1) 0 j k->HV i t.Rules.length j k:=λ {j k} hk h=>by
  unfold HV at *
  omega
 exact ⟨h.len,λ j s k ht hs hk=>h.cov j s k (htk hk ht) hs hk,h.sound,λ n l hl j s k s' ht hs hk=>h.compl n l hl j s k s' (htk hk ht) hs hk,λ n l hl=>by have:=h.small n l hl;omega⟩
theorem Jb9 {t:Ab} (ht:Dg t) {i:Nat} {s:Aa} {st:List Aa} {fr:List (List Int)} {nb:List (Aa×Int)} (hF:Dh t st) (hi:st[i]? = some s) (hN:KA st nb) (hR:De t st fr i 0) :
  ∃ r:List Aa×List (List Int)×List (Aa×Int),(r.1=Jp t s t.Rules.length st/\KA r.1 r.2.2/\De t r.1 r.2.1 (i+1) 0) /\
   Ev (λ n=>whl (λ (x:((List Aa)×(List (List Int))×(List (Aa×Int))×Int))=>Bw n t (i:Int) x.1 x.2.1 x.2.2.1 x.2.2.2) n (st,fr,nb,0)) r:=by
 refine Ev.whlR (body:=λ n x=>Bw n t (i:Int) x.1 x.2.1 x.2.2.1 x.2.2.2) (λ k x=>∃ m:Nat,m<=t.Rules.length/\k=t.Rules.length-m/\x.1=Jp t s m st/\x.2.2.2=(m:Int)/\KA x.1 x.2.2.1/\De t x.1 x.2.1 i m) ?_ t.Rules.length (st,fr,nb,0) ⟨0,by omega,by omega,rfl,rfl,hN,hR⟩
 rintro k ⟨st',fr',nb',m'⟩ ⟨m,hm,rfl,h1,h2,h3,h4⟩
 simp only at h1 h2 h3 h4
 subst h1
 subst h2
 rcases Nat.lt_or_ge m t.Rules.length with hlt|hge
 ·left
  have hi':(Jp t s m st)[i]? = some s:=NL (GU t s st m) hi
  obtain ⟨fr2,nb2,g1,g2,g3⟩:=VJ ht (hF.exp ht hi m hm) hi' h3 h4 hlt
  exact ⟨_,t.Rules.length-(m+1),by omega,⟨m+1,hlt,rfl,(Jq t s m st).symm,rfl,g1,g2⟩,Ev.all g3⟩
 ·right
  have e:m=t.Rules.length:=by omega
  subst e
  refine ⟨(Jp t s t.Rules.length st,fr',nb'),⟨rfl,h3,h4.next ht.1⟩,Ev.all λ n=>?_⟩
  unfold Bw
  rw [if_neg (by simp)]
theorem Ry {t:Ab} (ht:Dg t):∃ fr,De t (AT t) fr (AT t).length 0/\Ev (λ n=>D5 n t) (AT t,fr):=by
 have h0:Dh t [Bu]:=⟨by simp,λ s hs=>by simp at hs;subst hs;exact ⟨by decide,by decide,by decide,by decide,by decide,by decide⟩,rfl,λ j s hj h0=>by cases j with|zero=>omega|succ j=>simp at hj⟩
 have loop:∃ r:List Aa×List (List Int),(r.1=AT t/\De t r.1 r.2 r.1.length 0) /\
   Ev (λ n=>whl (λ (x:((List Aa)×(List (List Int))×(List (Aa×Int))×Int))=>Cu n t x.1 x.2.1 x.2.2.1 x.2.2.2) n ([Bu],([[]]:List (List Int)),(D3 Bu 0 []),0)) r:=by
  refine Ev.whlR (body:=λ n x=>Cu n t x.1 x.2.1 x.2.2.1 x.2.2.2) (λ k x=>∃ i:Nat,i<=x.1.length/\k=800-i/\Rx t (800-i) i x.1=AT t/\x.2.2.2=(i:Int)/\Dh t x.1/\KA x.1 x.2.2.1/\De t x.1 x.2.1 i 0) ?_ 800 _ ⟨0,by simp,by omega,rfl,rfl,h0,?_,?_⟩
  ·rintro k ⟨st,fr,nb,i'⟩ ⟨i,hil,rfl,hb,hi',hF,hN,hR⟩
   simp only at hil hb hi' hF hN hR
   subst hi'
   have hlen:=hF.len
   rcases Nat.lt_or_ge i st.length with hlt|hge
   ·left
    have hi:st[i]? = some st[i]:=Jjf hlt
    obtain ⟨r,⟨g1,g2,g3⟩,g4⟩:=Jb9 ht hF hi hN hR
    have hexp:=hF.exp ht hi _ (Nat.le_refl _)
    refine ⟨(r.1,r.2.1,r.2.2,((i+1:Nat):Int)),800-(i+1),by omega,⟨i+1,?_,rfl,?_,rfl,by rw [g1];exact hexp,g2,g3⟩,?_⟩
    ·simp only [g1]
     have:=(GU t st[i] st t.Rules.length).length_le
     omega
    ·simp only [g1]
     rw [← hb]
     have e:800-i=(800-(i+1))+1:=by omega
     rw [e]
     simp only [Rx,hi]
    ·refine (Ev.bind g4 (g:=λ _ y2=>some (.inl (y2.1,y2.2.1,y2.2.2,((i+1:Nat):Int)))) Ev.const).congr λ n=>?_
     unfold Cu
     rw [if_pos (by simpa using hlt)]
     have hinc:Bj .i64 (i:Int) 1=((i+1:Nat):Int):=by rw [J8 (by omega) (by omega)];rfl
     rw [hinc]
   ·right
    have e:i=st.length:=by omega
    subst e
    have hst:st=AT t:=by
     rw [← hb]
     have e:800-st.length=(800-(st.length+1))+1:=by omega
     rw [e]
     simp [Rx]
    refine ⟨(st,fr),⟨hst,hR⟩,Ev.all λ n=>?_⟩
    unfold Cu
    rw [if_neg (by simp)]
  ·intro s
   simp only [D3,C6]
   by_cases e:s=Bu
   ·subst e;simp
   ·have:¬ Bu=s:=λ h=>e h.symm
    simp [e,this]
  ·refine ⟨rfl,λ j s k ht=>?_,λ n l hl x hx=>?_,λ n l hl j s k s' ht=>?_,λ n l hl=>?_⟩
   ·unfold HV at ht;omega
   ·cases n with
    | zero=>simp at hl;subst hl;simp at hx
    | succ n=>simp at hl
   ·unfold HV at ht;omega
   ·cases n with
    | zero=>simp at hl;subst hl;simp
    | succ n=>simp at hl
 obtain ⟨⟨st,fr⟩,⟨g1,g2⟩,g3⟩:=loop
 simp only at g1 g2
 subst g1
 refine ⟨fr,g2,?_⟩
 have hs:∀ n,I8 n=some Bu:=λ n=>rfl
 refine (Ev.bind g3 (g:=λ _ y3=>some (y3.1,y3.2)) Ev.const).congr λ n=>?_
 unfold D5
 rw [hs,Option.bind_some]
theorem W4 {t:Ab} (ht:Dg t):Ev (λ n=>HJ n t) (AT t):=by
 obtain ⟨fr,_,h⟩:=Ry ht
 exact (Ev.bind h (g:=λ _ r=>some r.1) Ev.const).congr λ n=>rfl
end Go.AI
end
section
namespace Go.AI
def Tot {α:Type} (f:Nat->Option α) (P:α->Prop):Prop:=∃ z,P z/\Ev f z
def Rd2 {σ ρ:Type} (I:σ->Prop) (P:ρ->Prop):σ⊕ρ->Prop
 | .inl y=>I y
 | .inr r=>P r
variable {α β σ ρ:Type} {P R:α->Prop}
theorem Tot.ev {f:Nat->Option α} {z:α} (h:Tot f (λ x=>x=z)):Ev f z:=by obtain ⟨_,rfl,h⟩:=h;exact h
theorem Ev.tot {f:Nat->Option α} {z:α} (h:Ev f z) (hp:P z):Tot f P:=⟨z,hp,h⟩
theorem Tot.pure {z:α} (h:P z):Tot (λ _=>some z) P:=⟨z,h,Ev.const⟩
theorem Tot.all {f:Nat->Option α} {z:α} (h:∀ n,f n=some z) (hp:P z):Tot f P:=⟨z,hp,Ev.all h⟩
theorem Tot.mono {f:Nat->Option α} (h:Tot f R) (hp:∀ x,R x->P x):Tot f P:=by obtain ⟨z,hz,h⟩:=h;exact ⟨z,hp z hz,h⟩
theorem Tot.bind {f:Nat->Option β} {g:Nat->β->Option α} {R:β->Prop} (h:Tot f R) (k:∀ x,R x->Tot (λ n=>g n x) P):Tot (λ n=>(f n).bind (g n)) P:=by
 obtain ⟨x,hx,h⟩:=h
 obtain ⟨z,hz,h'⟩:=k x hx
 exact ⟨z,hz,Ev.bind h h'⟩
theorem Tot.bindE {f:Nat->Option β} {g:Nat->β->Option α} {x:β} (h:Ev f x) (k:Tot (λ n=>g n x) P):Tot (λ n=>(f n).bind (g n)) P:=by
 obtain ⟨z,hz,h'⟩:=k
 exact ⟨z,hz,Ev.bind h h'⟩
theorem Tot.bindC {x:Option β} {y:β} {g:Nat->β->Option α} (h:x=some y) (k:Tot (λ n=>g n y) P):Tot (λ n=>x.bind (g n)) P:=by subst h;exact k
theorem Tot.bindA {f:Nat->Option β} {y:β} {g:Nat->β->Option α} (h:∀ n,f n=some y) (k:Tot (λ n=>g n y) P):Tot (λ n=>(f n).bind (g n)) P:=Tot.bindE (Ev.all h) k
theorem Tot.ite {c:Bool} {a b:Nat->Option α} (h1:c=true->Tot a P) (h2:c=false->Tot b P):Tot (λ n=>if c=true then a n else b n) P:=by
 cases c with
 | true=>exact h1 rfl
 | false=>exact h2 rfl
theorem Tot.iteT {c:Bool} {a b:Nat->Option α} (h:c=true) (k:Tot a P):Tot (λ n=>if c=true then a n else b n) P:=by subst h;exact k
theorem Tot.iteF {c:Bool} {a b:Nat->Option α} (h:c=false) (k:Tot b P):Tot (λ n=>if c=true then a n else b n) P:=by subst h;exact k
theorem Tot.guard {c:Bool} {f:Nat->Option β} {d:β} {g:Nat->β->Option α} {R:β->Prop} (h:c=true->Tot f R) (k:∀ x,(c=true->R x)->Tot (λ n=>g n x) P):Tot (λ n=>(if c=true then f n else some d).bind (g n)) P:=by
 cases c with
 | true=>exact Tot.bind (h rfl) λ x hx=>k x λ _=>hx
 | false=>exact k d λ h=>by cases h
theorem Tot.congr {f g:Nat->Option α} (h:Tot f P) (e:∀ n,g n=f n):Tot g P:=by obtain ⟨z,hz,h⟩:=h;exact ⟨z,hz,h.congr e⟩
theorem Tot.sum {y:β⊕σ} {f:Nat->β->Option α} {g:Nat->σ->Option α} (h1:∀ b,y=.inl b->Tot (λ n=>f n b) P) (h2:∀ b,y=.inr b->Tot (λ n=>g n b) P):Tot (λ n=>match y with | .inl b=>f n b | .inr b=>g n b) P:=by
 cases y with
 | inl b=>exact h1 b rfl
 | inr b=>exact h2 b rfl
theorem Tot.whl {body:Nat->σ->Option (σ⊕ρ)} {P:ρ->Prop} (I:Nat->σ->Prop) (h:∀ k x,I k x->Tot (λ n=>body n x) (Rd2 (λ y=>∃ j,j<k/\I j y) P)):∀ (k:Nat) (x:σ),I k x->Tot (λ n=>Go.AI.whl (body n) n x) P:=by
 have key:∀ (k:Nat) (x:σ),I k x->∃ r,P r/\∃ N c,∀ n fuel,N<=n->c<=fuel->Go.AI.whl (body n) fuel x=some r:=by
  intro k
  induction k using Nat.strongRecOn with
  | _ k ih=>
   intro x hx
   obtain ⟨z,hz,N1,h1⟩:=h k x hx
   cases z with
   | inl y=>
    obtain ⟨j,hj,hy⟩:=hz
    obtain ⟨r,hr,N2,c,h2⟩:=ih j hj y hy
    refine ⟨r,hr,max N1 N2,c+1,λ n fuel hn hf=>?_⟩
    cases fuel with
    | zero=>omega
    | succ fuel=>
     have e:=h1 n (by omega)
     simp only at e
     simp only [Go.AI.whl,e]
     exact h2 n fuel (by omega) (by omega)
   | inr r=>
    refine ⟨r,hz,N1,1,λ n fuel hn hf=>?_⟩
    cases fuel with
    | zero=>omega
    | succ fuel=>
     have e:=h1 n hn
     simp only at e
     simp only [Go.AI.whl,e]
 intro k x hx
 obtain ⟨r,hr,N,c,hh⟩:=key k x hx
 exact ⟨r,hr,max N c,λ m hm=>hh m m (by omega) (by omega)⟩
theorem Tot.upto {body:Nat->σ->Option (σ⊕ρ)} {P:ρ->Prop} (N:Nat) (I:Nat->σ->Prop)
  (step:∀ i x,i<N->I i x->Tot (λ n=>body n x) (Rd2 (I (i+1)) P))
  (last:∀ x,I N x->Tot (λ n=>body n x) (Rd2 (λ _=>False) P)) (x:σ) (h0:I 0 x):Tot (λ n=>Go.AI.whl (body n) n x) P:=by
 refine Tot.whl (body:=body) (λ k x=>∃ i,i<=N/\k=N-i/\I i x) ?_ N x ⟨0,by omega,by omega,h0⟩
 rintro k x ⟨i,hi,rfl,hx⟩
 rcases Nat.lt_or_ge i N with hlt|hge
 ·refine (step i x hlt hx).mono λ z hz=>?_
  cases z with
  | inl y=>exact ⟨N-(i+1),by omega,i+1,by omega,rfl,hz⟩
  | inr r=>exact hz
 ·have:i=N:=by omega
  subst this
  refine (last x hx).mono λ z hz=>?_
  cases z with
  | inl y=>exact hz.elim
  | inr r=>exact hz
theorem Dp {l:List α} {i:Nat} {x:α} (h:l[i]? = some x):idx l (i:Int)=some x:=by
 unfold idx
 rw [if_pos (by omega)]
 simpa using h
theorem Bb {l:List α} {i:Nat} (h:i<l.length):idx l (i:Int)=some l[i]:=Dp (Jjf h)
theorem FS {eb:Nat} {xs ys:List α} (h:(xs.length+ys.length)*eb<=70368744177664):app eb xs ys=some (xs++ys):=by
 unfold app;rw [if_pos h]
theorem MV {l:List α} {i:Nat} {y:α} (h:i<l.length):put l (i:Int) y=some (l.set i y):=by
 unfold put;rw [if_pos (by omega),Int.toNat_natCast]
theorem Jca {x y:List UInt8} (h:x.length+y.length<=9223372036854775807):cat x y=some (x++y):=by
 unfold cat;rw [if_pos h]
end Go.AI
end
section
namespace Go.AI
theorem JdD (a:Int):IntKind.i64.wrap a=if decide (a % 18446744073709551616>=9223372036854775808)=true then a % 18446744073709551616-18446744073709551616 else a % 18446744073709551616:=rfl
theorem w64 {a:Int} (h:-9223372036854775808<=a) (h':a<9223372036854775808):IntKind.i64.wrap a=a:=by
 rw [JdD]
 simp only [decide_eq_true_eq]
 split<;>omega
theorem Jee {a b:Int} (h:-9223372036854775808<=a+b) (h':a+b<9223372036854775808):Bj .i64 a b=a+b:=w64 h h'
theorem JiA {a b:Int} (h:-9223372036854775808<=a-b) (h':a-b<9223372036854775808):DU .i64 a b=a-b:=w64 h h'
theorem Ee {i:Nat} (h:i<9223372036854775807):Bj .i64 (i:Int) 1=((i+1:Nat):Int):=by rw [Jee]<;>omega
theorem YM {a m:Int} (h:0<=a) (hm:0<m):CW a m=a % m/\0<=CW a m/\CW a m<m:=by
 have e:CW a m=a % m:=by unfold CW;rw [Int.tmod_eq_emod_of_nonneg h]
 rw [e];exact ⟨rfl,Int.emod_nonneg _ (by omega),Int.emod_lt_of_pos _ hm⟩
variable {α β σ ρ:Type}
theorem JiB [Inhabited α] {l:List α} {i:Int} (h:0<=i) (h':i<l.length):idx l i=some (l.getD i.toNat default):=by
 unfold idx
 rw [if_pos h,List.getD_eq_getElem?_getD,Jjf (by omega)];rfl
theorem HW [Inhabited α] {l:List α} {i:Nat} (h:i<l.length):idx l (i:Int)=some (l.getD i default):=by
 rw [JiB (by omega) (by omega),Int.toNat_natCast]
theorem Jcb {l:List α} {a b:Int} (h:0<=a) (h1:a<=b) (h2:b<=l.length):sub l a b=some ((l.take b.toNat).drop a.toNat):=by
 unfold sub;rw [if_pos ⟨h,h1,h2⟩]
theorem Gs {l:List α} {k:Nat} (h:k<=l.length):sub l 0 (k:Int)=some (l.take k):=by
 rw [Jcb (by omega) (by omega) (by omega)];simp
theorem Jcc {eb:Nat} {k:Int} {z:α} (h:0<=k) (h':k.toNat*eb<=70368744177664):mkl eb k z=some (List.replicate k.toNat z):=by
 unfold mkl;rw [if_pos ⟨h,h'⟩]
theorem LV {b:Bool} (h:b=true):D2 b=some ():=by subst h;rfl
theorem W5 {body:σ->Option (σ⊕ρ)} {r:ρ} (st:Nat->σ) (k:Nat) (step:∀ i,i<k->body (st i)=some (.inl (st (i+1)))) (last:body (st k)=some (.inr r)):∀ n,k<n->whl body n (st 0)=some r:=by
 have key:∀ (j n i:Nat),i+j=k->j<n->whl body n (st i)=some r:=by
  intro j
  induction j with
  | zero=>
   intro n i hi hn
   cases n with
   | zero=>omega
   | succ n=>
    have:i=k:=by omega
    subst this;simp only [whl,last]
  | succ j ih=>
   intro n i hi hn
   cases n with
   | zero=>omega
   | succ n=>simp only [whl,step i (by omega)];exact ih n (i+1) (by omega) (by omega)
 intro n hn
 exact key k n 0 (by omega) hn
theorem Ev.to {body:Nat->σ->Option (σ⊕ρ)} {r:ρ} (st:Nat->σ) (k:Nat) (h:∃ N,∀ n,N<=n->(∀ i,i<k->body n (st i)=some (.inl (st (i+1))))/\body n (st k)=some (.inr r)):Ev (λ n=>Go.AI.whl (body n) n (st 0)) r:=by
 obtain ⟨N,h⟩:=h
 exact ⟨max N (k+1),λ n hn=>W5 st k (h n (by omega)).1 (h n (by omega)).2 n (by omega)⟩
def Iz (N:Nat) (stop:Nat->Option ρ) (d:ρ):ρ:=((List.range N).findSome? stop).getD d
theorem YN {N:Nat} {stop:Nat->Option ρ} {d:ρ} (h:∀ i,i<N->stop i=none):Iz N stop d=d:=by
 unfold Iz
 rw [List.findSome?_eq_none_iff.2 λ i hi=>h i (List.mem_range.1 hi)];rfl
theorem YO {N:Nat} {stop:Nat->Option ρ} {d r:ρ} (k:Nat) (hk:k<N) (hr:stop k=some r) (h:∀ i,i<k->stop i=none):Iz N stop d=r:=by
 unfold Iz
 have:(List.range N).findSome? stop=some r:=by
  have e:List.range N=List.range k++(List.range (N-k)).map (k+·):=by rw [← List.range_add];congr 1;omega
  rw [e,List.findSome?_append,List.findSome?_eq_none_iff.2 λ i hi=>h i (List.mem_range.1 hi)]
  have:N-k=(N-k-1)+1:=by omega
  rw [this,List.range_succ_eq_map]
  simp [hr]
 rw [this];rfl
theorem So (N:Nat) (stop:Nat->Option ρ) (d:ρ):((∀ i,i<N->stop i=none)/\Iz N stop d=d)\/∃ k r,k<N/\stop k=some r/\(∀ i,i<k->stop i=none)/\Iz N stop d=r:=by
 by_cases h:∀ i,i<N->stop i=none
 ·exact .inl ⟨h,YN h⟩
 ·right
  have hex:∃ k,k<N/\stop k≠none:=by
   apply Classical.byContradiction
   intro hh
   exact h λ i hi=>Classical.byContradiction λ hn=>hh ⟨i,hi,hn⟩
  have key:∀ m,(∃ k,k<m/\k<N/\stop k≠none)->∃ k,k<N/\stop k≠none/\∀ i,i<k->stop i=none:=by
   intro m
   induction m with
   | zero=>rintro ⟨k,hk,_⟩;omega
   | succ m ih=>
    rintro ⟨k,hk,h1,h2⟩
    by_cases hm:∃ k,k<m/\k<N/\stop k≠none
    ·exact ih hm
    ·refine ⟨k,h1,h2,λ i hi=>Classical.byContradiction λ hn=>hm ⟨i,by omega,by omega,hn⟩⟩
  obtain ⟨k0,h1,h2⟩:=hex
  obtain ⟨k,h3,h4,h5⟩:=key (k0+1) ⟨k0,by omega,h1,h2⟩
  obtain ⟨r,hr⟩:=Option.ne_none_iff_exists'.1 h4
  exact ⟨k,r,h3,hr,h5,YO k h3 hr h5⟩
theorem YP {body:Int->Option (Int⊕ρ)} {N:Nat} (stop:Nat->Option ρ) {d:ρ} (h1:∀ i,i<N->body (i:Int)=some (match stop i with|some r=>.inr r|none=>.inl ((i+1:Nat):Int))) (h2:body (N:Int)=some (.inr d)):∀ n,N<n->whl body n 0=some (Iz N stop d):=by
 intro n hn
 rcases So N stop d with ⟨h,e⟩|⟨k,r,hk,hr,h,e⟩
 ·rw [e]
  exact W5 (λ i=>(i:Int)) N (λ i hi=>by rw [h1 i hi,h i hi]) h2 n hn
 ·rw [e]
  exact W5 (λ i=>(i:Int)) k (λ i hi=>by rw [h1 i (by omega),h i hi]) (by rw [h1 k hk,hr]) n (by omega)
theorem Ev.first {body:Nat->Int->Option (Int⊕ρ)} {N:Nat} (stop:Nat->Option ρ) {d:ρ} (h:∃ M,∀ n,M<=n->(∀ i,i<N->body n (i:Int)=some (match stop i with|some r=>.inr r|none=>.inl ((i+1:Nat):Int)))/\body n (N:Int)=some (.inr d)):Ev (λ n=>Go.AI.whl (body n) n 0) (Iz N stop d):=by
 obtain ⟨M,h⟩:=h
 exact ⟨max M (N+1),λ n hn=>YP stop (h n (by omega)).1 (h n (by omega)).2 n (by omega)⟩
theorem Tot.gF {P:α->Prop} {c:Bool} {f:Nat->Option β} {d:β} {g:Nat->β->Option α} (hc:c=false) (k:Tot (λ n=>g n d) P):Tot (λ n=>(if c=true then f n else some d).bind (g n)) P:=by
 subst hc;exact k
noncomputable def lim [Inhabited α] (f:Nat->Option α):α:=@dite α (∃ z,Ev f z) (Classical.propDecidable _) (λ h=>Classical.choose h) λ _=>default
theorem Ev.lim [Inhabited α] {f:Nat->Option α} {z:α} (h:Ev f z):lim f=z:=by
 have hex:∃ z,Ev f z:=⟨z,h⟩
 have e:AI.lim f=Classical.choose hex:=by unfold AI.lim;rw [dif_pos hex]
 rw [e]
 obtain ⟨n,hn⟩:=h
 obtain ⟨m,hm⟩:=Classical.choose_spec hex
 have h1:=hn (max n m) (by omega)
 have h2:=hm (max n m) (by omega)
 rw [h1] at h2;cases h2;rfl
theorem Tot.lim [Inhabited α] {f:Nat->Option α} {P:α->Prop} (h:Tot f P):P (lim f)/\Ev f (lim f):=by
 obtain ⟨z,hz,h⟩:=h
 rw [h.lim];exact ⟨hz,h⟩
theorem Ev.many {f:Nat->Nat->Option α} {z:Nat->α} (N:Nat) (h:∀ i,i<N->Ev (λ n=>f n i) (z i)):∃ M,∀ n,M<=n->∀ i,i<N->f n i=some (z i):=by
 induction N with
 | zero=>exact ⟨0,λ n _ i hi=>by omega⟩
 | succ N ih=>
  obtain ⟨M1,h1⟩:=ih λ i hi=>h i (by omega)
  obtain ⟨M2,h2⟩:=h N (by omega)
  exact ⟨max M1 M2,λ n hn i hi=>by
   by_cases e:i=N
   ·subst e;exact h2 n (by omega)
   ·exact h1 n (by omega) i (by omega)⟩
end Go.AI
end
section
namespace Go.AI
def scan {ρ:Type} (N:Nat) (stop:Nat->Option ρ):Unit⊕ρ:=match (List.range N).findSome? stop with
 | some r=>.inr r
 | none=>.inl ()
theorem Gt {ρ:Type} {body:Nat->Int->Option (Int⊕(Unit⊕ρ))} (N:Nat) (stop:Nat->Option ρ)
  (h:∀ i,i<N->Ev (λ n=>body n (i:Int)) (match stop i with|some r=>.inr (.inr r)|none=>.inl ((i+1:Nat):Int)))
  (h2:Ev (λ n=>body n (N:Int)) (.inr (.inl ()))):Ev (λ n=>whl (body n) n 0) (AI.scan N stop):=by
 have key:∀ (k i:Nat),i+k=N->(List.range N).findSome? stop=((List.range k).map (i+·)).findSome? stop->∃ M c,∀ n fuel,M<=n->c<=fuel->whl (body n) fuel (i:Int)=some (AI.scan N stop):=by
  intro k
  induction k with
  | zero=>
   intro i hi hf
   have:i=N:=by omega
   subst this
   obtain ⟨M,hM⟩:=h2
   refine ⟨M,1,λ n fuel hn hfu=>?_⟩
   obtain ⟨fuel,rfl⟩:∃ f,fuel=f+1:=⟨fuel-1,by omega⟩
   have e:=hM n hn
   simp only at e
   simp only [AI.whl,e]
   unfold AI.scan
   rw [hf];rfl
  | succ k ih=>
   intro i hi hf
   obtain ⟨M,hM⟩:=h i (by omega)
   have hs:(List.range (k+1)).map (i+·)=i::(List.range k).map ((i+1)+·):=by
    rw [List.range_succ_eq_map]
    simp only [List.map_cons,Nat.add_zero,List.map_map,List.cons.injEq,true_and]
    apply List.map_congr_left
    intro a _
    simp only [Function.comp];omega
   rw [hs,List.findSome?_cons] at hf
   cases hst:stop i with
   | some r=>
    rw [hst] at hf hM
    refine ⟨M,1,λ n fuel hn hfu=>?_⟩
    obtain ⟨fuel,rfl⟩:∃ f,fuel=f+1:=⟨fuel-1,by omega⟩
    have e:=hM n hn
    simp only at e
    simp only [AI.whl,e]
    unfold AI.scan
    rw [hf]
   | none=>
    rw [hst] at hf hM
    obtain ⟨M2,c,h3⟩:=ih (i+1) (by omega) hf
    refine ⟨max M M2,c+1,λ n fuel hn hfu=>?_⟩
    obtain ⟨fuel,rfl⟩:∃ f,fuel=f+1:=⟨fuel-1,by omega⟩
    have e:=hM n (by omega)
    simp only at e
    simp only [AI.whl,e]
    exact h3 n fuel (by omega) (by omega)
 obtain ⟨M,c,hh⟩:=key N 0 (by omega) (by simp)
 exact ⟨max M c,λ m hm=>hh m m (by omega) (by omega)⟩
theorem Hz {ρ:Type} {N:Nat} {stop:Nat->Option ρ} (h:∀ i,i<N->stop i=none):scan N stop=.inl ():=by
 unfold scan
 rw [List.findSome?_eq_none_iff.2 λ i hi=>h i (List.mem_range.1 hi)]
theorem HA {ρ:Type} {N:Nat} {stop:Nat->Option ρ} {i:Nat} (hi:i<N) (h:(stop i).isSome=true):∃ k r,k<N/\stop k=some r/\scan N stop=.inr r:=by
 unfold scan
 cases hf:(List.range N).findSome? stop with
 | none=>rw [List.findSome?_eq_none_iff.1 hf i (List.mem_range.2 hi)] at h;cases h
 | some r=>
  obtain ⟨k,hk,hr⟩:=List.exists_of_findSome?_eq_some hf
  exact ⟨k,r,List.mem_range.1 hk,hr,rfl⟩
def Ef (b:UInt8):Int:=(b.toNat:Int)
def HX (b:UInt8):Bool:=decide (Cv .u8 (Ef b) 127>=32)&&decide (Cv .u8 (Ef b) 127<=126)
def DM (b:UInt8):Bool:=Cv .u8 (Ef b) 127==32
theorem Jr {s:List UInt8} {i:Nat} {b:UInt8} (h:s[i]? = some b):L4 s (i:Int)=some (Ef b):=by
 rw [NK (Am h)]
 unfold S2 Ef
 rw [h];rfl
theorem Sp {i n:Nat} (h:i<n):decide ((i:Int)<((n:Nat):Int))=true:=by simpa using h
def Pd (s:List UInt8):Int×Int:=match scan s.length (λ i=>if HX (s.getD i 0) then none else some ((i:Int),(60:Int))) with
 | .inl _=>(((s.length:Nat):Int),0)
 | .inr p=>p
theorem Cq {α:Type} {l:List α} {i:Nat} {d:α} (h:i<l.length):l.getD i d=l[i]:=by
 rw [List.getD_eq_getElem?_getD,Jjf h];rfl
theorem JdE {s:List UInt8} (hl:s.length<9223372036854775807):Ev (λ n=>I6 n s) (Pd s):=by
 unfold I6 Pd
 refine Ev.bind (Gt s.length (λ i=>if HX (s.getD i 0) then none else some ((i:Int),(60:Int))) (λ i hi=>Ev.all λ n=>?_) (Ev.all λ n=>?_)) ?_
 ·unfold Fh
  have hg:s[i]? = some s[i]:=Jjf hi
  rw [if_pos (Sp hi),Jr hg,Cq hi]
  have hc:DB n (Ef s[i])=some (HX s[i]):=rfl
  simp only [Option.bind_some,hc]
  cases HX s[i] with
  | true=>simp [Ee (show i<9223372036854775807 by omega)]
  | false=>simp
 ·unfold Fh
  rw [if_neg (by simp)]
 ·generalize scan s.length _=z;cases z<;>exact Ev.const
theorem Jcd {s:List UInt8} (hl:s.length<9223372036854775807):Ev (λ n=>Nv n s) (Pd s):=by
 unfold Nv Pd
 refine Ev.bind (Gt s.length (λ i=>if HX (s.getD i 0) then none else some ((i:Int),(60:Int))) (λ i hi=>Ev.all λ n=>?_) (Ev.all λ n=>?_)) ?_
 ·unfold Il
  have hg:s[i]? = some s[i]:=Jjf hi
  rw [if_pos (Sp hi),Jr hg,Cq hi]
  have hc:IE n (Ef s[i])=some (HX s[i]):=rfl
  simp only [Option.bind_some,hc]
  cases HX s[i] with
  | true=>simp [Ee (show i<9223372036854775807 by omega)]
  | false=>simp
 ·unfold Il
  rw [if_neg (by simp)]
 ·generalize scan s.length _=z;cases z<;>exact Ev.const
theorem VK {s:List UInt8} (h:s.all HX=true):Pd s=(((s.length:Nat):Int),0):=by
 unfold Pd
 rw [Hz λ i hi=>by rw [Cq hi,List.all_eq_true.1 h _ (List.getElem_mem hi)];rfl]
theorem S3 {s:List UInt8} (h:s.all HX=false):(Pd s).2=60:=by
 rw [List.all_eq_false] at h
 obtain ⟨b,hb,hc⟩:=h
 obtain ⟨i,hi,e⟩:=List.getElem_of_mem hb
 unfold Pd
 obtain ⟨k,r,hk,hr,hs⟩:=HA (stop:=λ i=>if HX (s.getD i 0) then none else some ((i:Int),(60:Int))) hi (by
  rw [Cq hi,e];simp only [Bool.not_eq_true] at hc;rw [hc];rfl)
 rw [hs]
 simp only at hr ⊢
 split at hr
 ·cases hr
 ·cases hr;rfl
theorem YQ {s:List UInt8} (hl:s.length<9223372036854775807):Ev (λ n=>JS n s) (s.all HX):=by
 unfold JS
 refine Ev.bind (Jcd hl) ?_
 cases h:s.all HX with
 | true=>rw [VK h];exact Ev.const
 | false=>rw [S3 h];exact Ev.const
def CD (r:Au) (m:Int):Bool:=
 r.Print.all HX&&decide (r.Print.length<=4)&&decide (1<=r.Cells.length)&&decide (r.Cells.length<=4) &&
 (decide (1<=r.Left)&&decide (r.Left<=63)&&decide (1<=r.Right)&&decide (r.Right<=63)&&decide (0<=r.From)&&decide (r.From<m)&&decide (0<=r.To)&&decide (r.To<m)) &&
 r.Cells.all (λ c=>decide (c<63)) &&
 (bif r.Print.any DM then decide (r.Print.length=1)&&decide (r.Cells.length=1)&&r.Cells.any (λ c=>c==0) else !r.Cells.any (λ c=>c==0))
end Go.AI
end
