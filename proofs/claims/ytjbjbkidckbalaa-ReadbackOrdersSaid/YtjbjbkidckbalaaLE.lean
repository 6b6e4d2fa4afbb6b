/- Part 5 of 6 of the proof: lemmas about the model and the program's functions, with no condition beyond those that each states. -/
import Derived.Test.YtjbjbkidckbalaaLD
import Derived.ChangeArms
import Derived.WalkKit
import Derived.ProofKit
import Derived.OpenShut
import Derived.Carry
import Derived.WideKeyArgs
import Derived.ChangeSame
import Derived.KernelRfl
section
namespace Go.AI
open Go.Proofs
set_option maxRecDepth 10000
variable {n:Nat}
section
variable (b2_:Ae) (b4_:Ae) (b5_1_:(List Int)) (b6_:Am) (o7_:(List (Ae×Bool))) (j_1:Nat) (x_25:(List (Ae×Bool))) (x38:(List JO)) (x_26:(List (Ae×Bool))) (x_27:Int) (x_28:(List (Ae×Bool))) (x_29:(List (Ae×Bool)))
noncomputable def Zg:St:=⟨(0,.yld 0)::(1,.ptr 1 0)::(2,.ptr 2 0)::[],[some (.lp Ah [6,12] [.ptr 3 0,.ptr 4 0] 0),some (.box [.ptr 5 0]),some (.box [.d (.int .i64 b2_.At),.d (.int .i64 b2_.State)]),some (.box [.ptr 5 0]),some (.box [.d (.int .i64 b4_.At),.d (.int .i64 b4_.State)]),some (.box [.ptr 6 0,.d (.sl (b5_1_.map eU8)),.mp 7]),some (.box (Ai b6_ (.osl 8 1 0 (b6_.Accepts.length)))),some (.map true false (AA An eB o7_)),some (.arr 1 (b6_.Accepts.map eB))]⟩
noncomputable def PH:St:=⟨[],[some (.lp Ah [6,12] [.ptr 3 0,.ptr 4 0] j_1),some (.box [.ptr 5 0]),some (.box [.d (.int .i64 b2_.At),.d (.int .i64 b2_.State)]),some (.box [.ptr 5 0]),some (.box [.d (.int .i64 b4_.At),.d (.int .i64 b4_.State)]),some (.box [.ptr 6 0,.d (.sl (b5_1_.map eU8)),.mp 7]),some (.box (Ai b6_ (.osl 8 1 0 (b6_.Accepts.length)))),some (.map true false (AA An eB x_25)),some (.arr 1 (b6_.Accepts.map eB))]⟩
noncomputable def Zh:St:=⟨(0,.yld 0)::(1,.ptr 1 0)::(2,.ptr 2 0)::(16,.d (.sl (x38.map BK)))::(17,.d (.int .i64 ((x38.length:Nat):Int)))::(18,.d (.int .i64 x_27))::[],[some (.lp Ah [6,12] [.ptr 3 0,.ptr 4 0] 0),some (.box [.ptr 5 0]),some (.box [.d (.int .i64 b2_.At),.d (.int .i64 b2_.State)]),some (.box [.ptr 5 0]),some (.box [.d (.int .i64 b4_.At),.d (.int .i64 b4_.State)]),some (.box [.ptr 6 0,.d (.sl (b5_1_.map eU8)),.mp 7]),some (.box (Ai b6_ (.osl 8 1 0 (b6_.Accepts.length)))),some (.map true false (AA An eB x_26)),some (.arr 1 (b6_.Accepts.map eB))]⟩
noncomputable def Zi:St:=⟨[],[some (.lp Ah [6,12] [.ptr 3 0,.ptr 4 0] 0),some (.box [.ptr 5 0]),some (.box [.d (.int .i64 b2_.At),.d (.int .i64 b2_.State)]),some (.box [.ptr 5 0]),some (.box [.d (.int .i64 b4_.At),.d (.int .i64 b4_.State)]),some (.box [.ptr 6 0,.d (.sl (b5_1_.map eU8)),.mp 7]),some (.box (Ai b6_ (.osl 8 1 0 (b6_.Accepts.length)))),some (.map true false (AA An eB x_28)),some (.arr 1 (b6_.Accepts.map eB))]⟩
noncomputable def Zj:St:=⟨(0,.yld 0)::(1,.ptr 1 0)::(2,.ptr 2 0)::(16,.d (.sl (x38.map BK)))::(17,.d (.int .i64 ((x38.length:Nat):Int)))::(18,.d (.int .i64 x_27))::[],[some (.lp Ah [6,12] [.ptr 3 0,.ptr 4 0] 0),some (.box [.ptr 5 0]),some (.box [.d (.int .i64 b2_.At),.d (.int .i64 b2_.State)]),some (.box [.ptr 5 0]),some (.box [.d (.int .i64 b4_.At),.d (.int .i64 b4_.State)]),some (.box [.ptr 6 0,.d (.sl (b5_1_.map eU8)),.mp 7]),some (.box (Ai b6_ (.osl 8 1 0 (b6_.Accepts.length)))),some (.map true false (AA An eB x_29)),some (.arr 1 (b6_.Accepts.map eB))]⟩
noncomputable def Iw:((List (Ae×Bool))⊕(Nat×(List (Ae×Bool))))->Ex->St->Prop:=xS (xX 9 0 (λ (y:(List (Ae×Bool)))=>Zi b2_ b4_ b5_1_ b6_ y)) (xL 9 ty Try.f85 (λ (y:(Nat×(List (Ae×Bool))))=>.tup []) (λ (y:(Nat×(List (Ae×Bool))))=>[some (.lp Ah [6,12] [.ptr 3 0,.ptr 4 0] y.1),some (.box [.ptr 5 0]),some (.box [.d (.int .i64 b2_.At),.d (.int .i64 b2_.State)]),some (.box [.ptr 5 0]),some (.box [.d (.int .i64 b4_.At),.d (.int .i64 b4_.State)]),some (.box [.ptr 6 0,.d (.sl (b5_1_.map eU8)),.mp 7]),some (.box (Ai b6_ (.osl 8 1 0 (b6_.Accepts.length)))),some (.map true false (AA An eB y.2)),some (.arr 1 (b6_.Accepts.map eB))]))
noncomputable def E5:((List (Ae×Bool))×Int)->St:=(λ (x:((List (Ae×Bool))×Int))=>Zh b2_ b4_ b5_1_ b6_ x38 x.1 x.2)
variable {b2_ b4_ b5_1_ b6_ o7_ j_1 x_25 x38 x_26 x_27 x_28 x_29}
theorem Ez (x:((List (Ae×Bool))×Int)) (z:(((List (Ae×Bool))×Int)⊕((List (Ae×Bool))⊕(Nat×(List (Ae×Bool)))))) (H:Bl n b2_ b4_ b5_1_ b6_ x38 x.1 x.2=some z):WP (cxk 53 9) (AD Try.f85) [1,0,0] (AP 9 (E5 b2_ b4_ b5_1_ b6_ x38) (Iw b2_ b4_ b5_1_ b6_) z) (E5 b2_ b4_ b5_1_ b6_ x38 x):=by
 obtain ⟨x_26,x_27⟩:=x
 refine sr (ck 1 (en (sq (cn H (λ H=>?_) (λ H=>?_)))))
 ·refine sk (qz (sj (λ (x:(List (Ae×Bool)))=>Zj b2_ b4_ b5_1_ b6_ x38 x_27 x) (λ (x:(List (Ae×Bool)))=>BJ n x_27 x) z ?_ (λ hFRb_reading_fits_1_J1=>?_)))
  ·intro x_29 H
   exact rz (ck 2 (ae (by cases H;exact og (sg [0,1,2,16,17,18]))))
  refine bk 1 (sr (bx H λ x39 h117 H=>sp (AN BK h117) (ck 3 (en (sq (rx 9 27 (.refl _) (ck 8 (bx H λ l21 h118 H=>sp (R2 eU8 1 h118) (bx H λ r31 h119 H=>xs (xok _ _) (g:=true) rfl (Gq) [] ((HX h119).lent rfl) rfl (ck 2 (sp (AC eU8 x39.Cells) (ck 4 (gc 1 (r31==((x39.Cells.length:Nat):Int)) (ck 1 (gc 1 (r31==((x39.Cells.length:Nat):Int)) (ck 1 (gc 1 (r31==((x39.Cells.length:Nat):Int)) (sE (g:=(r31==((x39.Cells.length:Nat):Int))) (λ hg=>AC eU8 x39.Cells) (gc 1 (r31==((x39.Cells.length:Nat):Int)) (ck 1 (gc 2 (r31==((x39.Cells.length:Nat):Int)) (mx (gsp (r31==((x39.Cells.length:Nat):Int)) H (λ hg H=>?_) (λ hg H=>?_))))))))))))))))))))))))
  ·refine bx H λ r32 h120 H=>xy (xok _ _) hg (DE (λ hh=>hh) (DE (λ hh=>hh) (DE (λ hh=>hh) (Gq)))) [0,3,4,5,6,7,8] (K7 h120) rfl (nx 30 29 (gc 1 (r31==((x39.Cells.length:Nat):Int)) (mx (pA (nz (qz (cnh H (λ hc59 H=>?_) (λ hc59 H=>?_))))))))
   ·exact re (qR (qr (by cases H;exact lo rfl (rl (s':=PH b2_ b4_ b5_1_ b6_ r32.1 r32.2) (sg [])))))
   ·exact sk (qN (qs (tr (TL 0 (jb1 hg hc59) (by kernel_rfl)) (sg [0,1,2,16,17,18])) (hFRb_reading_fits_1_J1 r32.2 H)))
  ·refine gsk hg (.d (.bool false)) (nx 30 29 (gc 1 (r31==((x39.Cells.length:Nat):Int)) (mx (pA (nz (qz (cn H (λ H=>?_) (λ H=>?_))))))))
   ·exact re (qR (qr (by cases H;exact lo rfl (rl (s':=PH b2_ b4_ b5_1_ b6_ 0 x_26) (sg [])))))
   ·exact sk (qN (qs (sg [0,1,2,16,17,18]) (hFRb_reading_fits_1_J1 x_26 H)))
 ·exact ex 0 (qx (by cases H;exact xo rfl (sg [])))
theorem JT {z} (H:Cg n b2_ b4_ b5_1_ b6_ o7_=some z):BW Try.prog 85 [.yld 0,.ptr 1 0,.ptr 2 0] [some (.lp Ah [6,12] [.ptr 3 0,.ptr 4 0] 0),some (.box [.ptr 5 0]),some (.box [.d (.int .i64 b2_.At),.d (.int .i64 b2_.State)]),some (.box [.ptr 5 0]),some (.box [.d (.int .i64 b4_.At),.d (.int .i64 b4_.State)]),some (.box [.ptr 6 0,.d (.sl (b5_1_.map eU8)),.mp 7]),some (.box (Ai b6_ (.osl 8 1 0 (b6_.Accepts.length)))),some (.map true false (AA An eB o7_)),some (.arr 1 (b6_.Accepts.map eB))] 9 (.tup []) [some (.lp Ah [6,12] [.ptr 3 0,.ptr 4 0] z.1),some (.box [.ptr 5 0]),some (.box [.d (.int .i64 b2_.At),.d (.int .i64 b2_.State)]),some (.box [.ptr 5 0]),some (.box [.d (.int .i64 b4_.At),.d (.int .i64 b4_.State)]),some (.box [.ptr 6 0,.d (.sl (b5_1_.map eU8)),.mp 7]),some (.box (Ai b6_ (.osl 8 1 0 (b6_.Accepts.length)))),some (.map true false (AA An eB z.2)),some (.arr 1 (b6_.Accepts.map eB))]:=by
 refine fL 53 9 (Zg b2_ b4_ b5_1_ b6_ o7_) Try.func85 (sr (ck 9 (bx H λ x38 h116 H=>sp (AN (eL BK) h116) (ck 1 (sp (AC BK x38) (ck 1 (en (bk 0 (bx H λ y35 h121 H=>?_)))))))))
 rcases y35 with y36|y37
 ·exact lX Ez h121 (sg [0,1,2,16,17,18]) rfl λ s hE29=>qH (by cases H;exact pL' (rl (s':=PH b2_ b4_ b5_1_ b6_ 0 y36) (tr (hE29) (sg []))))
 ·exact lL Ez h121 (sg [0,1,2,16,17,18]) rfl λ s hE30=>qR (by cases H;exact pL hE30)
end
section
variable (p0_:AS) (least_1:Int) (x_30:Int) (least_2:Int) (least_3:Int)
def Jd7:St:=⟨(0,.dptr (A4 p0_) 0)::[],[]⟩
def Jd8:St:=⟨(0,.dptr (A4 p0_) 0)::(3,.d (.int .i64 least_1))::(10,.d (.sl (p0_.Heads.map Ag)))::(11,.d (.int .i64 ((p0_.Heads.length:Nat):Int)))::(12,.d (.int .i64 x_30))::[],[]⟩
def Jd9:St:=⟨(3,.d (.int .i64 least_2))::[],[]⟩
def Jea:St:=⟨(0,.dptr (A4 p0_) 0)::(3,.d (.int .i64 least_3))::(10,.d (.sl (p0_.Heads.map Ag)))::(11,.d (.int .i64 ((p0_.Heads.length:Nat):Int)))::(12,.d (.int .i64 x_30))::[],[]⟩
def JU:Int->Ex->St->Prop:=xX 0 0 (λ (y:Int)=>Jd9 y)
def Fw:(Int×Int)->St:=(λ (x:(Int×Int))=>Jd8 p0_ x.1 x.2)
variable {p0_ least_1 x_30 least_2 least_3}
theorem Je (x:(Int×Int)) (z:((Int×Int)⊕Int)) (H:BD n p0_ x.1 x.2=some z):WP (cxk 38 0) (AD Try.f76) [1,1,0,1,0,0] (AP 0 (Fw p0_) (JU) z) (Fw p0_ x):=by
 obtain ⟨least_1,x_30⟩:=x
 refine sr (ck 1 (en (sq (cn H (λ H=>?_) (λ H=>?_)))))
 ·refine sk (qz (sj (λ (x:Int)=>Jea p0_ x_30 x) (λ (x:Int)=>B3 n x_30 x) z ?_ (λ hFRb_branch_least_J1=>?_)))
  ·intro least_3 H
   exact rz (ck 2 (ae (by cases H;exact og (sg [0,3,10,11,12]))))
  refine bk 1 (sr (bx H λ x40 h122 H=>sp (AN Ag h122) (ck 3 (en (sr (ck 2 (bx H λ b5 h123 H=>sp (HB h123) (ck 2 (en (sr (ck 8 (gc 2 (decide (IntKind.i64.wrap b5>=p0_.Next)) (ck 2 (gc 1 ((decide (IntKind.i64.wrap b5>=p0_.Next))&&!(decide (least_1<0))) (pG (g:=decide (IntKind.i64.wrap b5>=p0_.Next)) (v:=.d (.bool ((decide (least_1<0))||(decide (IntKind.i64.wrap b5<least_1))))) (λ hg=>Q7 (c:=.gv (decide (IntKind.i64.wrap b5>=p0_.Next)) (.d (.bool (decide (least_1<0))))) (a:=.d (.bool true)) (b:=.gv ((decide (IntKind.i64.wrap b5>=p0_.Next))&&!(decide (least_1<0))) (.d (.bool (decide (IntKind.i64.wrap b5<least_1))))) rfl rfl rfl ((λ hh=>hh) hg) trivial (λ ht=>by rw [(λ hh=>hh) hg,ht];rfl)) (pA (en (cn H (λ H=>?_) (λ H=>?_)))))))))))))))))))
  ·exact rz (ck 2 (ae (qN (qs (sg [0,3,10,11,12]) (hFRb_branch_least_J1 (IntKind.i64.wrap b5) H)))))
  ·exact sk (qN (qs (sg [0,3,10,11,12]) (hFRb_branch_least_J1 least_1 H)))
 ·exact ex 0 (qx (by cases H;exact xo rfl (sg [3])))
theorem Gx {z} (H:Ch n p0_=some z):AU Try.prog 76 [.dptr (A4 p0_) 0] (.d (.int .i64 z)):=by
 exact fO 38 (Jd7 p0_) Try.func76 (sr (ck 1 (en (sr (ck 1 (en (sq (sr (ck 4 (sp (AC Ag p0_.Heads) (ck 1 (en (bk 0 (bx H λ y38 h124 H=>lX Je h124 (sg [0,3,10,11,12]) rfl λ s hE31=>qH (qs (hE31) (sr (ck 2 (en (re (by cases H;exact pr rd))))))))))))))))))))
end
section
variable (p0_:Aa) (p1_:(List Int)) (x_32:Am) (x_33:(List (Ae×Bool))) (x_34:Int) (r33:Am) (r34:((List (Bool×(List Int)))×Int)) (reached_15:(List (Bool×(List Int)))) (r_1:(List (Ae×Bool))) (i_2:Int) (r_2:(List (Ae×Bool))) (x42:(Bool×(List Int))) (r_3:(List (Ae×Bool))) (x_35:Int) (r_4:(List (Ae×Bool))) (r_5:(List (Ae×Bool))) (x43:Int) (r_6:(List (Ae×Bool)))
def Zk:St:=⟨(0,.agg [.d (.int .i64 p0_.Modes),.d (.int .u8 p0_.Accept),.d (.sl (p0_.Rules.map Aq))])::(1,.d (.sl (p1_.map eU8)))::[],[]⟩
def Zl:St:=⟨(4,.ptr 0 0)::(5,.d (.int .i64 x_34))::[],[some (.box [.ptr 1 0,.d (.sl (p1_.map eU8)),.mp 2]),some (.box (Ai x_32 (.osl 3 1 0 (x_32.Accepts.length)))),some (.map true false (AA An eB x_33)),some (.arr 1 (x_32.Accepts.map eB))]⟩
def Zm:St:=⟨(1,.d (.sl (p1_.map eU8)))::(6,.ptr 0 0)::(7,.osl 1 1 0 (reached_15.length))::(8,.d (.int .i64 r34.2))::(9,.d (.int .i64 i_2))::[],[some (.box [.ptr 2 0]),some (.narr 1 (reached_15.map (eTg 1 Au))),some (.box [.ptr 3 0,.d (.sl (p1_.map eU8)),.mp 4]),some (.box (Ai r33 (.osl 5 1 0 (r33.Accepts.length)))),some (.map true false (AA An eB r_1)),some (.arr 1 (r33.Accepts.map eB))]⟩
def Zn:St:=⟨(6,.ptr 0 0)::(8,.d (.int .i64 r34.2))::[],[some (.box [.ptr 1 0]),some (.box [.ptr 2 0,.d (.sl (p1_.map eU8)),.mp 3]),some (.box (Ai r33 (.osl 4 1 0 (r33.Accepts.length)))),some (.map true false (AA An eB r_2)),some (.arr 1 (r33.Accepts.map eB))]⟩
def Zo:St:=⟨(1,.d (.sl (p1_.map eU8)))::(6,.ptr 0 0)::(7,.osl 1 1 0 (List.length (List.set reached_15 i_2.toNat (true,x42.2))))::(8,.d (.int .i64 r34.2))::(9,.d (.int .i64 i_2))::(39,.d (.sl (x42.2.map Au)))::(40,.d (.int .i64 ((x42.2.length:Nat):Int)))::(41,.d (.int .i64 x_35))::[],[some (.box [.ptr 2 0]),some (.narr 1 (List.map (eTg 1 Au) (List.set reached_15 i_2.toNat (true,x42.2)))),some (.box [.ptr 3 0,.d (.sl (p1_.map eU8)),.mp 4]),some (.box (Ai r33 (.osl 5 1 0 (r33.Accepts.length)))),some (.map true false (AA An eB r_3)),some (.arr 1 (r33.Accepts.map eB))]⟩
def Zp:St:=⟨(1,.d (.sl (p1_.map eU8)))::(6,.ptr 0 0)::(7,.osl 1 1 0 (List.length (List.set reached_15 i_2.toNat (true,x42.2))))::(8,.d (.int .i64 r34.2))::(9,.d (.int .i64 i_2))::[],[some (.box [.ptr 2 0]),some (.narr 1 (List.map (eTg 1 Au) (List.set reached_15 i_2.toNat (true,x42.2)))),some (.box [.ptr 3 0,.d (.sl (p1_.map eU8)),.mp 4]),some (.box (Ai r33 (.osl 5 1 0 (r33.Accepts.length)))),some (.map true false (AA An eB r_4)),some (.arr 1 (r33.Accepts.map eB))]⟩
def Zq:St:=⟨(1,.d (.sl (p1_.map eU8)))::(6,.ptr 0 0)::(7,.osl 1 1 0 (List.length (List.set reached_15 i_2.toNat (true,x42.2))))::(8,.d (.int .i64 r34.2))::(9,.d (.int .i64 i_2))::(39,.d (.sl (x42.2.map Au)))::(40,.d (.int .i64 ((x42.2.length:Nat):Int)))::(41,.d (.int .i64 x_35))::[],[some (.box [.ptr 2 0]),some (.narr 1 (List.map (eTg 1 Au) (List.set reached_15 i_2.toNat (true,x42.2)))),some (.box [.ptr 3 0,.d (.sl (p1_.map eU8)),.mp 4]),some (.box (Ai r33 (.osl 5 1 0 (r33.Accepts.length)))),some (.map true false (AA An eB r_5)),some (.arr 1 (r33.Accepts.map eB))]⟩
def Zr:St:=⟨(1,.d (.sl (p1_.map eU8)))::(6,.ptr 0 0)::(7,.osl 1 1 0 (List.length (List.set reached_15 i_2.toNat (true,x42.2))))::(8,.d (.int .i64 r34.2))::(9,.d (.int .i64 i_2))::(12,.ptr 2 0)::(39,.d (.sl (x42.2.map Au)))::(40,.d (.int .i64 ((x42.2.length:Nat):Int)))::(41,.d (.int .i64 x_35))::[],[some (.box [.ptr 3 0]),some (.narr 1 (List.map (eTg 1 Au) (List.set reached_15 i_2.toNat (true,x42.2)))),some (.box [.d (.int .i64 i_2),.d (.int .i64 x43)]),some (.box [.ptr 4 0,.d (.sl (p1_.map eU8)),.mp 5]),some (.box (Ai r33 (.osl 6 1 0 (r33.Accepts.length)))),some (.map true false (AA An eB r_6)),some (.arr 1 (r33.Accepts.map eB))]⟩
def K8:(List (Ae×Bool))->Ex->St->Prop:=xX 0 2 (λ (y:(List (Ae×Bool)))=>Zp p1_ r33 r34 reached_15 i_2 x42 y)
def Gy:((List (Ae×Bool))×Int)->St:=(λ (x:((List (Ae×Bool))×Int))=>Zo p1_ r33 r34 reached_15 i_2 x42 x.1 x.2)
def K9:(List (Ae×Bool))->Ex->St->Prop:=xX 0 0 (λ (y:(List (Ae×Bool)))=>Zn p1_ r33 r34 y)
def Gz:((List (Bool×(List Int)))×(List (Ae×Bool))×Int)->St:=(λ (x:((List (Bool×(List Int)))×(List (Ae×Bool))×Int))=>Zm p1_ r33 r34 x.1 x.2.1 x.2.2)
variable {p0_ p1_ x_32 x_33 x_34 r33 r34 reached_15 r_1 i_2 r_2 x42 r_3 x_35 r_4 r_5 x43 r_6}
theorem Kw (x:((List (Ae×Bool))×Int)) (z:(((List (Ae×Bool))×Int)⊕(List (Ae×Bool)))) (H:BI n p1_ r33 r34 reached_15 i_2 x42 x.1 x.2=some z):WP (cxk 88 0) (AD Try.f60) [1,1,1,0,1,0,0,1,0,0,1,0,0] (AP 0 (Gy p1_ r33 r34 reached_15 i_2 x42) (K8 p1_ r33 r34 reached_15 i_2 x42) z) (Gy p1_ r33 r34 reached_15 i_2 x42 x):=by
 obtain ⟨r_3,x_35⟩:=x
 refine sr (ck 1 (en (sq (cn H (λ H=>?_) (λ H=>?_)))))
 ·refine sk (qz (sj (λ (x:(List (Ae×Bool)))=>Zq p1_ r33 r34 reached_15 i_2 x42 x_35 x) (λ (x:(List (Ae×Bool)))=>C0 n x_35 x) z ?_ (λ hFRb_newReading_J1=>?_)))
  ·intro r_5 H
   exact rz (ck 2 (ae (by cases H;exact og (gP [1,6,7,8,9,39,40,41] [0,1,2,3,4,5] (po1 (pn1 (eTg 1 Au) (List.set reached_15 i_2.toNat (true,x42.2)) (po1 (po1 (po1 (po1 (Pl.z)))))))))))
  refine bk 3 (sr (bx H λ x43 h133 H=>sp (AN Au h133) (ck 2 (en (sr (ck 5 (en (sj (λ (x:(List (Ae×Bool)))=>Zr p1_ r33 r34 reached_15 i_2 x42 x_35 x43 x) (λ (x:(List (Ae×Bool)))=>B1 n p1_ r33 i_2 x_35 x43 x) z ?_ (λ hFRb_newReading_J2=>?_)))))))))
  ·intro r_6 H
   refine sr (ck 2 (bx H λ r35 h134 H=>lt [3,4,5,6] (Es h134) (en (bk 4 (bx H λ r36 h135 H=>rf [.exit 4] [6,12] [9,7,8,0,2,3,4,5,6] r36.1 (JT h135) rfl (jn H (λ H=>?_) (λ H=>?_)))))))
   ·exact qN (qN (qs (gP [1,6,7,8,9,39,40,41] [0,1,3,4,5,6] (po1 (pn1 (eTg 1 Au) (List.set reached_15 i_2.toNat (true,x42.2)) (po1 (po1 (po1 (po1 (Pl.z)))))))) (hFRb_newReading_J1 r36.2 H)))
   ·refine jx 0 4 H (λ H=>?_) (λ H=>?_)
    ·exact qH (qN (qs (gP [1,6,7,8,9,39,40,41] [0,1,3,4,5,6] (po1 (pn1 (eTg 1 Au) (List.set reached_15 i_2.toNat (true,x42.2)) (po1 (po1 (po1 (po1 (Pl.z)))))))) (hFRb_newReading_J1 r36.2 H)))
    ·cases H
  refine sr (ck 2 (sp (AC eU8 p1_) (ck 3 (gc 6 (i_2==((p1_.length:Nat):Int)) (ck 1 (bx H λ x44 h136 H=>sE (λ hg=>Bo 5 1 (F7 h136 hg)) (sE (g:=(i_2==((p1_.length:Nat):Int))) (λ hg=>DP eB 5 0 (ty 4) (F7 h136 hg)) (pA (en (cn H (λ H=>?_) (λ H=>?_)))))))))))
  ·exact rz (ck 5 (sp (I8 (enc:=eB) (encK:=An) (k:=4) (e1:=λ x=>.bool x) (m:=r_3) (l:=[.d (.int .i64 i_2),.d (.int .i64 x43)]) (key:=({ At:=i_2,State:=x43 }:Ae)) (y:=true) (v:=.d (.bool true)) (vz:=[.bool false]) Ki) (ae (qs (gP [1,6,7,8,9,12,39,40,41] [0,1,6,2,3,4,5] (po1 (pn1 (eTg 1 Au) (List.set reached_15 i_2.toNat (true,x42.2)) (po1 (po1 (po1 (po1 (po1 (Pl.z))))))))) (hFRb_newReading_J2 (DN ({ At:=i_2,State:=x43 }:Ae) true r_3) H)))))
  ·exact sk (qs (gP [1,6,7,8,9,12,39,40,41] [0,1,6,2,3,4,5] (po1 (pn1 (eTg 1 Au) (List.set reached_15 i_2.toNat (true,x42.2)) (po1 (po1 (po1 (po1 (po1 (Pl.z))))))))) (hFRb_newReading_J2 r_3 H))
 ·exact ex 2 (qx (by cases H;exact xo rfl (gP [1,6,7,8,9] [0,1,2,3,4,5] (po1 (pn1 (eTg 1 Au) (List.set reached_15 i_2.toNat (true,x42.2)) (po1 (po1 (po1 (po1 (Pl.z))))))))))
theorem Kx (x:((List (Bool×(List Int)))×(List (Ae×Bool))×Int)) (z:(((List (Bool×(List Int)))×(List (Ae×Bool))×Int)⊕(List (Ae×Bool)))) (H:B2 n p1_ r33 r34 x.1 x.2.1 x.2.2=some z):WP (cxk 88 0) (AD Try.f60) [1,1,1,0,1,0,0] (AP 0 (Gz p1_ r33 r34) (K9 p1_ r33 r34) z) (Gz p1_ r33 r34 x):=by
 obtain ⟨reached_15,r_1,i_2⟩:=x
 refine sq (sr (ck 2 (en (cn H (λ H=>?_) (λ H=>?_)))))
 ·exact sk (qz (sq (bk 1 (sq (bx H λ x42 h132 H=>rg (VT (enc:=Au) (xss:=reached_15) (sz:=1) (isz:=1) 1 (by kernel_rfl) h132) (ck 2 (sp (Bo 1 1 h132) (sp (Pv (encN:=(eTg 1 Au)) (row:=[.d (.sl (x42.2.map Au))]) (k:=1) (sz:=1) (off:=0) (t:=ty 33) (v:=.d (.sl (x42.2.map Au))) h132) (sp (AC Au x42.2) (ck 1 (en (bk 2 (bx H λ y40 h137 H=>lX Kw h137 (tr (tr (tr (scl (encN:=(eTg 1 Au)) (xss:=reached_15) i_2 [.d (.sl (x42.2.map Au))] 1 1 (true,x42.2)) (sn 7 1 1 (lsS reached_15 i_2.toNat (true,x42.2)))) (sn 36 1 1 (lsS reached_15 i_2.toNat (true,x42.2)))) (gP [1,6,7,8,9,39,40,41] [0,1,2,3,4,5] (po1 (pn1 (eTg 1 Au) (List.set reached_15 i_2.toNat (true,x42.2)) (po1 (po1 (po1 (po1 (Pl.z))))))))) rfl λ s hE33=>qH (qN (qs (hE33) (rz (ck 3 (ae (by cases H;exact og (gP [1,6,7,8,9] [0,1,2,3,4,5] (po1 (pn1 (eTg 1 Au) (List.set reached_15 i_2.toNat (true,x42.2)) (po1 (po1 (po1 (po1 (Pl.z)))))))))))))))))))))))))))
 ·exact ex 0 (qx (by cases H;exact xo rfl (sg [6,8])))
theorem HJ {z} (H:CG n p0_ p1_=some z):BW Try.prog 60 [.agg (Be p0_),.d (.sl (p1_.map eU8))] [] 0 (.tup [.ptr 0 0,.d (.int .i64 z.2.2)]) [some (.box [.ptr 1 0,.d (.sl (p1_.map eU8)),.mp 2]),some (.box (Ai z.1 (.osl 3 1 0 (z.1.Accepts.length)))),some (.map true false (AA An eB z.2.1)),some (.arr 1 (z.1.Accepts.map eB))]:=by
 exact fL 88 0 (Zk p0_ p1_) Try.func60 (sr (ck 3 (en (sr (ck 1 (bx H λ r33 h130 H=>lt [] (JE h130) (ck 6 (en (sr (ck 5 (bx H λ r34 h131 H=>lt [1,2] (Hb h131) (tb (f:=G0 (DG [1,2] 6 2)) [some (.box (Be p0_)),some (.box (Ai r33 (.osl 2 1 0 (r33.Accepts.length)))),some (.arr 1 (r33.Accepts.map eB)),some (.map true false (AA An eB [])),some (.box [.ptr 1 0,.d (.sl (p1_.map eU8)),.mp 3]),some (.box [.ptr 4 0]),some (.narr 1 (r34.1.map (eTg 1 Au)))] (po1 (po1 (po1 (po1 (po1 (po1 (pn1 (eTg 1 Au) r34.1 (Pl.z)))))))) (ck 5 (en (sq (sr (ck 1 (sp (AC eU8 p1_) (ck 1 (en (bk 0 (bx H λ y41 h138 H=>lX Kx h138 (gP [1,6,7,8,9] [5,6,4,1,3,2] (po1 (pn1 (eTg 1 Au) r34.1 (po1 (po1 (po1 (po1 (Pl.z)))))))) rfl λ s hE34=>qH (qs (hE34) (sr (ck 4 (en (re (by cases H;exact pL (rl (s':=Zl p1_ r33 y41 r34.2) (sg [4,5]))))))))))))))))))))))))))))))
end
section
variable (b0_1_:(List Int)) (b1_:Am) (o2_:(List (Ae×Bool)))
def Zs:St:=⟨(0,.ptr 0 0)::[],[some (.box [.ptr 1 0,.d (.sl (b0_1_.map eU8)),.mp 2]),some (.box (Ai b1_ (.osl 3 1 0 (b1_.Accepts.length)))),some (.map true false (AA An eB o2_)),some (.arr 1 (b1_.Accepts.map eB))]⟩
def Zt:St:=⟨(2,.clo 74 [.ptr 4 0])::[],[some (.box [.ptr 1 0,.d (.sl (b0_1_.map eU8)),.mp 2]),some (.box (Ai b1_ (.osl 3 1 0 (b1_.Accepts.length)))),some (.map true false (AA An eB o2_)),some (.arr 1 (b1_.Accepts.map eB)),some (.box [.ptr 0 0])]⟩
variable {b0_1_ b1_ o2_}
theorem Gf {z} (H:C1 n b0_1_ b1_ o2_=some z):BW Try.prog 61 [.ptr 0 0] [some (.box [.ptr 1 0,.d (.sl (b0_1_.map eU8)),.mp 2]),some (.box (Ai b1_ (.osl 3 1 0 (b1_.Accepts.length)))),some (.map true false (AA An eB o2_)),some (.arr 1 (b1_.Accepts.map eB))] 4 (.clo 74 [.ptr 4 0]) [some (.box [.ptr 1 0,.d (.sl (b0_1_.map eU8)),.mp 2]),some (.box (Ai b1_ (.osl 3 1 0 (b1_.Accepts.length)))),some (.map true false (AA An eB o2_)),some (.arr 1 (b1_.Accepts.map eB)),some (.box [.ptr 0 0])]:=by
 exact fL 4 4 (Zs b0_1_ b1_ o2_) Try.func61 (sr (ck 2 (en (sr (xm (xok _ _) (ck 1 (en (re (by cases H;exact pL (rl (s':=Zt b0_1_ b1_ o2_) (sg [2])))))))))))
end
section
variable (p0_:Ac) (o3_:(List (Ac×Bool))) (o4_:(List Ac)) (o5_:(List Ac)) (x_36:(List (Ac×Bool))) (x_37:(List Ac)) (x_38:(List Ac))
def Zu:St:=⟨(0,.agg [.d (.int .i64 p0_.Spot.At),.d (.int .i64 p0_.Spot.State),.d (.str p0_.Rest)])::(1,.ptr 0 0)::(2,.ptr 1 0)::(3,.ptr 2 0)::[],[some (.box [.mp 3]),some (.box [.osl 4 3 0 (o4_.length)]),some (.box [.osl 5 3 0 (o5_.length)]),some (.map true false (AA Ag eB o3_)),some (.arr 3 (o4_.map Ag)),some (.arr 3 (o5_.map Ag))]⟩
def PI:St:=⟨[],[some (.box [.mp 3]),some (.box [.osl 6 3 0 (x_37.length)]),some (.box [.osl 7 3 0 (x_38.length)]),some (.map true false (AA Ag eB x_36)),none,none,some (.arr 3 (x_37.map Ag)),some (.arr 3 (x_38.map Ag))]⟩
variable {p0_ o3_ o4_ o5_ x_36 x_37 x_38}
theorem C9 {z} (H:AY n p0_ o3_ o4_ o5_=some z):BW Try.prog 86 [.agg (YT p0_),.ptr 0 0,.ptr 1 0,.ptr 2 0] [some (.box [.mp 3]),some (.box [.osl 4 3 0 (o4_.length)]),some (.box [.osl 5 3 0 (o5_.length)]),some (.map true false (AA Ag eB o3_)),some (.arr 3 (o4_.map Ag)),some (.arr 3 (o5_.map Ag))] 6 (.tup []) [some (.box [.mp 3]),some (.box [.osl 6 3 0 (z.2.1.length)]),some (.box [.osl 7 3 0 (z.2.2.length)]),some (.map true false (AA Ag eB z.1)),none,none,some (.arr 3 (z.2.1.map Ag)),some (.arr 3 (z.2.2.map Ag))]:=by
 refine fL 21 6 (Zu p0_ o3_ o4_ o5_) Try.func86 (sr (ck 1 (en (sq (sr (ck 2 (sp (Fh (enc:=eB) (encK:=Ag) (k:=3) (e1:=λ x=>.bool x) (m:=o3_) (l:=[.d (.int .i64 p0_.Spot.At),.d (.int .i64 p0_.Spot.State),.d (.str p0_.Rest)]) (key:=p0_) (z:=false) (vz:=[.bool false]) YU false) (en (cn H (λ H=>?_) (λ H=>?_))))))))))
 ·exact re (qr (by cases H;exact pL (rl (s':=PI o3_ o4_ o5_) (tr (tr (BM (k:=4) (sz:=3) 1 0 (o4_.map Ag) (o4_.length) (by kernel_rfl) Bf leM rfl) (BM (k:=5) (sz:=3) 2 0 (o5_.map Ag) (o5_.length) (by kernel_rfl) Bf leM rfl)) (sg [])))))
 ·refine sk (qz (sr (ck 2 (sp (I8 (enc:=eB) (encK:=Ag) (k:=3) (e1:=λ x=>.bool x) (m:=o3_) (l:=[.d (.int .i64 p0_.Spot.At),.d (.int .i64 p0_.Spot.State),.d (.str p0_.Rest)]) (key:=p0_) (y:=true) (v:=.d (.bool true)) (vz:=[.bool false]) YU) (en (sr (ck 3 (en (cn H (λ H=>?_) (λ H=>?_))))))))))
  ·exact rz (ck 3 (bx H λ l23 h139 H=>sp (BH Ag 4 3 h139) (ck 1 (ae (by cases H;exact pL' (rl (s':=PI (DN p0_ true o3_) l23 o5_) (tr (BM (k:=5) (sz:=3) 2 0 (o5_.map Ag) (o5_.length) (by kernel_rfl) Bf leM rfl) (sg []))))))))
  ·exact rz (ck 3 (bx H λ l24 h140 H=>sp (BH Ag 5 3 h140) (ck 1 (ae (by cases H;exact pL' (rl (s':=PI (DN p0_ true o3_) o4_ l24) (tr (BM (k:=4) (sz:=3) 1 0 (o4_.map Ag) (o4_.length) (by kernel_rfl) Bf leM rfl) (sg []))))))))
end
noncomputable def Zv (p1_:(List UInt8)) (p2_:Ae) (b3_1_:(List Int)) (b7_:Am) (o8_:(List (Ae×Bool))) (o9_:(List (Ac×Bool))) (o10_:(List Ac)) (o11_:(List Ac)):St:=⟨(77,.agg [.d (.int .i64 p2_.At),.d (.int .i64 p2_.State)])::(76,.d (.str p1_))::(2,.ptr 1 0)::(9,.ptr 2 0)::[],[some (.lp Ak [2,9] [.ptr 1 0,.ptr 2 0] 0),some (.box [.ptr 3 0]),some (.box [.clo 86 [.ptr 4 0,.ptr 5 0,.ptr 6 0]]),some (.box [.ptr 7 0,.d (.sl (b3_1_.map eU8)),.mp 8]),some (.box [.mp 9]),some (.box [.osl 10 3 0 (o10_.length)]),some (.box [.osl 11 3 0 (o11_.length)]),some (.box (Ai b7_ (.osl 12 1 0 (b7_.Accepts.length)))),some (.map true false (AA An eB o8_)),some (.map true false (AA Ag eB o9_)),some (.arr 3 (o10_.map Ag)),some (.arr 3 (o11_.map Ag)),some (.arr 1 (b7_.Accepts.map eB))]⟩
noncomputable def TR (b3_1_:(List Int)) (b7_:Am) (o8_:(List (Ae×Bool))) (x_39:(List (Ac×Bool))) (x_40:(List Ac)) (x_41:(List Ac)):St:=⟨[],[some (.lp Ak [2,9] [.ptr 1 0,.ptr 2 0] 1),some (.box [.ptr 3 0]),some (.box [.clo 86 [.ptr 4 0,.ptr 5 0,.ptr 6 0]]),some (.box [.ptr 7 0,.d (.sl (b3_1_.map eU8)),.mp 8]),some (.box [.mp 9]),some (.box [.osl 13 3 0 (x_40.length)]),some (.box [.osl 14 3 0 (x_41.length)]),some (.box (Ai b7_ (.osl 15 1 0 (b7_.Accepts.length)))),some (.map true false (AA An eB o8_)),some (.map true false (AA Ag eB x_39)),none,none,none,some (.arr 3 (x_40.map Ag)),some (.arr 3 (x_41.map Ag)),some (.arr 1 (b7_.Accepts.map eB))]⟩
section
variable (p1_:(List UInt8)) (p2_:Ae) (b3_1_:(List Int)) (b7_:Am) (o8_:(List (Ae×Bool))) (o9_:(List (Ac×Bool))) (o10_:(List Ac)) (o11_:(List Ac))
variable {p1_ p2_ b3_1_ b7_ o8_ o9_ o10_ o11_}
theorem Ix {z} (H:BS n p1_ p2_ b3_1_ b7_ o8_ o9_ o10_ o11_=some z):ND Try.prog [.d (.str p1_),.agg [.d (.int .i64 p2_.At),.d (.int .i64 p2_.State)]] [some (.lp Ak [2,9] [.ptr 1 0,.ptr 2 0] 0),some (.box [.ptr 3 0]),some (.box [.clo 86 [.ptr 4 0,.ptr 5 0,.ptr 6 0]]),some (.box [.ptr 7 0,.d (.sl (b3_1_.map eU8)),.mp 8]),some (.box [.mp 9]),some (.box [.osl 10 3 0 (o10_.length)]),some (.box [.osl 11 3 0 (o11_.length)]),some (.box (Ai b7_ (.osl 12 1 0 (b7_.Accepts.length)))),some (.map true false (AA An eB o8_)),some (.map true false (AA Ag eB o9_)),some (.arr 3 (o10_.map Ag)),some (.arr 3 (o11_.map Ag)),some (.arr 1 (b7_.Accepts.map eB))] 13 0 [some (.lp Ak [2,9] [.ptr 1 0,.ptr 2 0] 0),some (.box [.ptr 3 0]),some (.box [.clo 86 [.ptr 4 0,.ptr 5 0,.ptr 6 0]]),some (.box [.ptr 7 0,.d (.sl (b3_1_.map eU8)),.mp 8]),some (.box [.mp 9]),some (.box [.osl 13 3 0 (z.2.1.length)]),some (.box [.osl 14 3 0 (z.2.2.length)]),some (.box (Ai b7_ (.osl 15 1 0 (b7_.Accepts.length)))),some (.map true false (AA An eB o8_)),some (.map true false (AA Ag eB z.1)),none,none,none,some (.arr 3 (z.2.1.map Ag)),some (.arr 3 (z.2.2.map Ag)),some (.arr 1 (b7_.Accepts.map eB))]:=by
 refine fk (C:=AD Try.f75) (p:=[1,1,1,1,1,1,0,0,0,1,0,1,1,1,1,0]) 92 [76,77] [] (ts:=[2,9]) (vs:=[.ptr 1 0,.ptr 2 0]) (Zv p1_ p2_ b3_1_ b7_ o8_ o9_ o10_ o11_) follows (VU 92 13) (sr (ck 1 (en (rz (ck 2 (ae (aq (js:=[]) (bk 5 (sr (ck 5 (sp (Fh (enc:=eB) (encK:=An) (k:=8) (e1:=λ x=>.bool x) (m:=o8_) (l:=[.d (.int .i64 p2_.At),.d (.int .i64 p2_.State)]) (key:=p2_) (z:=false) (vz:=[.bool false]) Ki false) (en (cn H (λ H=>?_) (λ H=>?_))))))))))))))
 ·exact rz (ck 4 (bx H λ r37 h141 H=>xc (JgG _ _) [4,5,6,9,10,11] (C9 h141) (ae (qN (by cases H;exact rq (s':=TR b3_1_ b7_ o8_ r37.1 r37.2.1 r37.2.2) (tr (BM (k:=12) (sz:=1) 7 1 (b7_.Accepts.map eB) (b7_.Accepts.length) (by kernel_rfl) Bf leM rfl) (sg [])))))))
 ·exact sk (qN (by cases H;exact rq (s':=TR b3_1_ b7_ o8_ o9_ o10_ o11_) (tr (tr (tr (BM (k:=10) (sz:=3) 5 0 (o10_.map Ag) (o10_.length) (by kernel_rfl) Bf leM rfl) (BM (k:=11) (sz:=3) 6 0 (o11_.map Ag) (o11_.length) (by kernel_rfl) Bf leM rfl)) (BM (k:=12) (sz:=1) 7 1 (b7_.Accepts.map eB) (b7_.Accepts.length) (by kernel_rfl) Bf leM rfl)) (sg []))))
end
section
variable (b2_:Ae) (b5_1_:(List Int)) (b9_:Am) (o10_:(List (Ae×Bool))) (o11_:(List (Ac×Bool))) (o12_:(List Ac)) (o13_:(List Ac)) (x_42:(List (Ac×Bool))) (x_43:(List Ac)) (x_44:(List Ac)) (x45:(List JO)) (x_45:(List (Ac×Bool))) (x_46:(List Ac)) (x_47:(List Ac)) (x_48:Int) (x_49:(List (Ac×Bool))) (x_50:(List Ac)) (x_51:(List Ac)) (x_52:(List (Ac×Bool))) (x_53:(List Ac)) (x_54:(List Ac))
noncomputable def Zw:St:=⟨(0,.yld 0)::(1,.ptr 1 0)::(2,.ptr 2 0)::[],[some (.lp Ak [2,9] [.ptr 3 0,.ptr 4 0] 0),some (.box [.ptr 5 0]),some (.box [.d (.int .i64 b2_.At),.d (.int .i64 b2_.State)]),some (.box [.ptr 5 0]),some (.box [.clo 86 [.ptr 6 0,.ptr 7 0,.ptr 8 0]]),some (.box [.ptr 9 0,.d (.sl (b5_1_.map eU8)),.mp 10]),some (.box [.mp 11]),some (.box [.osl 12 3 0 (o12_.length)]),some (.box [.osl 13 3 0 (o13_.length)]),some (.box (Ai b9_ (.osl 14 1 0 (b9_.Accepts.length)))),some (.map true false (AA An eB o10_)),some (.map true false (AA Ag eB o11_)),some (.arr 3 (o12_.map Ag)),some (.arr 3 (o13_.map Ag)),some (.arr 1 (b9_.Accepts.map eB))]⟩
noncomputable def PJ:St:=⟨[],[some (.lp Ak [2,9] [.ptr 3 0,.ptr 4 0] 0),some (.box [.ptr 5 0]),some (.box [.d (.int .i64 b2_.At),.d (.int .i64 b2_.State)]),some (.box [.ptr 5 0]),some (.box [.clo 86 [.ptr 6 0,.ptr 7 0,.ptr 8 0]]),some (.box [.ptr 9 0,.d (.sl (b5_1_.map eU8)),.mp 10]),some (.box [.mp 11]),some (.box [.osl 15 3 0 (x_43.length)]),some (.box [.osl 16 3 0 (x_44.length)]),some (.box (Ai b9_ (.osl 17 1 0 (b9_.Accepts.length)))),some (.map true false (AA An eB o10_)),some (.map true false (AA Ag eB x_42)),none,none,none,some (.arr 3 (x_43.map Ag)),some (.arr 3 (x_44.map Ag)),some (.arr 1 (b9_.Accepts.map eB))]⟩
noncomputable def Zx:St:=⟨(0,.yld 0)::(1,.ptr 1 0)::(2,.ptr 2 0)::(16,.d (.sl (x45.map BK)))::(17,.d (.int .i64 ((x45.length:Nat):Int)))::(18,.d (.int .i64 x_48))::[],[some (.lp Ak [2,9] [.ptr 3 0,.ptr 4 0] 0),some (.box [.ptr 5 0]),some (.box [.d (.int .i64 b2_.At),.d (.int .i64 b2_.State)]),some (.box [.ptr 5 0]),some (.box [.clo 86 [.ptr 6 0,.ptr 7 0,.ptr 8 0]]),some (.box [.ptr 9 0,.d (.sl (b5_1_.map eU8)),.mp 10]),some (.box [.mp 11]),some (.box [.osl 15 3 0 (x_46.length)]),some (.box [.osl 16 3 0 (x_47.length)]),some (.box (Ai b9_ (.osl 17 1 0 (b9_.Accepts.length)))),some (.map true false (AA An eB o10_)),some (.map true false (AA Ag eB x_45)),none,none,none,some (.arr 3 (x_46.map Ag)),some (.arr 3 (x_47.map Ag)),some (.arr 1 (b9_.Accepts.map eB))]⟩
noncomputable def Zy:St:=⟨[],[some (.lp Ak [2,9] [.ptr 3 0,.ptr 4 0] 0),some (.box [.ptr 5 0]),some (.box [.d (.int .i64 b2_.At),.d (.int .i64 b2_.State)]),some (.box [.ptr 5 0]),some (.box [.clo 86 [.ptr 6 0,.ptr 7 0,.ptr 8 0]]),some (.box [.ptr 9 0,.d (.sl (b5_1_.map eU8)),.mp 10]),some (.box [.mp 11]),some (.box [.osl 15 3 0 (x_50.length)]),some (.box [.osl 16 3 0 (x_51.length)]),some (.box (Ai b9_ (.osl 17 1 0 (b9_.Accepts.length)))),some (.map true false (AA An eB o10_)),some (.map true false (AA Ag eB x_49)),none,none,none,some (.arr 3 (x_50.map Ag)),some (.arr 3 (x_51.map Ag)),some (.arr 1 (b9_.Accepts.map eB))]⟩
noncomputable def Zz:St:=⟨(0,.yld 0)::(1,.ptr 1 0)::(2,.ptr 2 0)::(16,.d (.sl (x45.map BK)))::(17,.d (.int .i64 ((x45.length:Nat):Int)))::(18,.d (.int .i64 x_48))::[],[some (.lp Ak [2,9] [.ptr 3 0,.ptr 4 0] 0),some (.box [.ptr 5 0]),some (.box [.d (.int .i64 b2_.At),.d (.int .i64 b2_.State)]),some (.box [.ptr 5 0]),some (.box [.clo 86 [.ptr 6 0,.ptr 7 0,.ptr 8 0]]),some (.box [.ptr 9 0,.d (.sl (b5_1_.map eU8)),.mp 10]),some (.box [.mp 11]),some (.box [.osl 15 3 0 (x_53.length)]),some (.box [.osl 16 3 0 (x_54.length)]),some (.box (Ai b9_ (.osl 17 1 0 (b9_.Accepts.length)))),some (.map true false (AA An eB o10_)),some (.map true false (AA Ag eB x_52)),none,none,none,some (.arr 3 (x_53.map Ag)),some (.arr 3 (x_54.map Ag)),some (.arr 1 (b9_.Accepts.map eB))]⟩
noncomputable def HY:(((List (Ac×Bool))×(List Ac)×(List Ac))⊕((List (Ac×Bool))×(List Ac)×(List Ac)))->Ex->St->Prop:=xS (xX 15 0 (λ (y:((List (Ac×Bool))×(List Ac)×(List Ac)))=>Zy b2_ b5_1_ b9_ o10_ y.1 y.2.1 y.2.2)) (xL 15 ty Try.f85 (λ (y:((List (Ac×Bool))×(List Ac)×(List Ac)))=>.tup []) (λ (y:((List (Ac×Bool))×(List Ac)×(List Ac)))=>[some (.lp Ak [2,9] [.ptr 3 0,.ptr 4 0] 0),some (.box [.ptr 5 0]),some (.box [.d (.int .i64 b2_.At),.d (.int .i64 b2_.State)]),some (.box [.ptr 5 0]),some (.box [.clo 86 [.ptr 6 0,.ptr 7 0,.ptr 8 0]]),some (.box [.ptr 9 0,.d (.sl (b5_1_.map eU8)),.mp 10]),some (.box [.mp 11]),some (.box [.osl 15 3 0 (y.2.1.length)]),some (.box [.osl 16 3 0 (y.2.2.length)]),some (.box (Ai b9_ (.osl 17 1 0 (b9_.Accepts.length)))),some (.map true false (AA An eB o10_)),some (.map true false (AA Ag eB y.1)),none,none,none,some (.arr 3 (y.2.1.map Ag)),some (.arr 3 (y.2.2.map Ag)),some (.arr 1 (b9_.Accepts.map eB))]))
noncomputable def EA:((List (Ac×Bool))×(List Ac)×(List Ac)×Int)->St:=(λ (x:((List (Ac×Bool))×(List Ac)×(List Ac)×Int))=>Zx b2_ b5_1_ b9_ o10_ x45 x.1 x.2.1 x.2.2.1 x.2.2.2)
variable {b2_ b5_1_ b9_ o10_ o11_ o12_ o13_ x_42 x_43 x_44 x45 x_45 x_46 x_47 x_48 x_49 x_50 x_51 x_52 x_53 x_54}
theorem Eg (x:((List (Ac×Bool))×(List Ac)×(List Ac)×Int)) (z:(((List (Ac×Bool))×(List Ac)×(List Ac)×Int)⊕(((List (Ac×Bool))×(List Ac)×(List Ac))⊕((List (Ac×Bool))×(List Ac)×(List Ac))))) (H:Bg n b2_ b5_1_ b9_ o10_ x45 x.1 x.2.1 x.2.2.1 x.2.2.2=some z):WP (cxk 53 15) (AD Try.f85) [1,0,0] (AP 15 (EA b2_ b5_1_ b9_ o10_ x45) (HY b2_ b5_1_ b9_ o10_) z) (EA b2_ b5_1_ b9_ o10_ x45 x):=by
 obtain ⟨x_45,x_46,x_47,x_48⟩:=x
 refine sr (ck 1 (en (sq (cn H (λ H=>?_) (λ H=>?_)))))
 ·refine sk (qz (sj (λ (x:((List (Ac×Bool))×(List Ac)×(List Ac)))=>Zz b2_ b5_1_ b9_ o10_ x45 x_48 x.1 x.2.1 x.2.2) (λ (x:((List (Ac×Bool))×(List Ac)×(List Ac)))=>Bv n x_48 x.1 x.2.1 x.2.2) z ?_ (λ hFRb_reading_fits_1x_J1=>?_)))
  ·rintro ⟨x_52,x_53,x_54⟩ H
   exact rz (ck 2 (ae (by cases H;exact og (sg [0,1,2,16,17,18]))))
  refine bk 1 (sr (bx H λ x46 h143 H=>sp (AN BK h143) (ck 3 (en (sq (rx 9 27 (.refl _) (ck 8 (bx H λ l25 h144 H=>sp (R2 eU8 1 h144) (bx H λ r38 h145 H=>xs (xok _ _) (g:=true) rfl (Gq) [] ((HX h145).lent rfl) rfl (ck 2 (sp (AC eU8 x46.Cells) (ck 4 (gc 1 (r38==((x46.Cells.length:Nat):Int)) (ck 1 (gc 1 (r38==((x46.Cells.length:Nat):Int)) (ck 1 (gc 1 (r38==((x46.Cells.length:Nat):Int)) (sE (g:=(r38==((x46.Cells.length:Nat):Int))) (λ hg=>AC eU8 x46.Cells) (gc 1 (r38==((x46.Cells.length:Nat):Int)) (ck 1 (gc 2 (r38==((x46.Cells.length:Nat):Int)) (mx (gsp (r38==((x46.Cells.length:Nat):Int)) H (λ hg H=>?_) (λ hg H=>?_))))))))))))))))))))))))
  ·refine bx H λ r39 h146 H=>xy (xok _ _) hg (DE (λ hh=>hh) (DE (λ hh=>hh) (DE (λ hh=>hh) (Gq)))) [0,3,4,5,6,7,8,9,10,11,15,16,17] (Ix h146) rfl (nx 30 29 (gc 1 (r38==((x46.Cells.length:Nat):Int)) (mx (pA (nz (qz (cn H (λ H=>?_) (λ H=>?_))))))))
   ·exact re (qR (qr (by cases H;exact lo rfl (rl (s':=PJ b2_ b5_1_ b9_ o10_ r39.1 r39.2.1 r39.2.2) (sg [])))))
   ·exact sk (qN (qs (sg [0,1,2,16,17,18]) (hFRb_reading_fits_1x_J1 (r39.1,r39.2.1,r39.2.2) H)))
  ·refine gsk hg (.d (.bool false)) (nx 30 29 (gc 1 (r38==((x46.Cells.length:Nat):Int)) (mx (pA (nz (qz (cn H (λ H=>?_) (λ H=>?_))))))))
   ·exact re (qR (qr (by cases H;exact lo rfl (rl (s':=PJ b2_ b5_1_ b9_ o10_ x_45 x_46 x_47) (sg [])))))
   ·exact sk (qN (qs (sg [0,1,2,16,17,18]) (hFRb_reading_fits_1x_J1 (x_45,x_46,x_47) H)))
 ·exact ex 0 (qx (by cases H;exact xo rfl (sg [])))
theorem Fm {z} (H:BE n b2_ b5_1_ b9_ o10_ o11_ o12_ o13_=some z):BW Try.prog 85 [.yld 0,.ptr 1 0,.ptr 2 0] [some (.lp Ak [2,9] [.ptr 3 0,.ptr 4 0] 0),some (.box [.ptr 5 0]),some (.box [.d (.int .i64 b2_.At),.d (.int .i64 b2_.State)]),some (.box [.ptr 5 0]),some (.box [.clo 86 [.ptr 6 0,.ptr 7 0,.ptr 8 0]]),some (.box [.ptr 9 0,.d (.sl (b5_1_.map eU8)),.mp 10]),some (.box [.mp 11]),some (.box [.osl 12 3 0 (o12_.length)]),some (.box [.osl 13 3 0 (o13_.length)]),some (.box (Ai b9_ (.osl 14 1 0 (b9_.Accepts.length)))),some (.map true false (AA An eB o10_)),some (.map true false (AA Ag eB o11_)),some (.arr 3 (o12_.map Ag)),some (.arr 3 (o13_.map Ag)),some (.arr 1 (b9_.Accepts.map eB))] 15 (.tup []) [some (.lp Ak [2,9] [.ptr 3 0,.ptr 4 0] 0),some (.box [.ptr 5 0]),some (.box [.d (.int .i64 b2_.At),.d (.int .i64 b2_.State)]),some (.box [.ptr 5 0]),some (.box [.clo 86 [.ptr 6 0,.ptr 7 0,.ptr 8 0]]),some (.box [.ptr 9 0,.d (.sl (b5_1_.map eU8)),.mp 10]),some (.box [.mp 11]),some (.box [.osl 15 3 0 (z.2.1.length)]),some (.box [.osl 16 3 0 (z.2.2.length)]),some (.box (Ai b9_ (.osl 17 1 0 (b9_.Accepts.length)))),some (.map true false (AA An eB o10_)),some (.map true false (AA Ag eB z.1)),none,none,none,some (.arr 3 (z.2.1.map Ag)),some (.arr 3 (z.2.2.map Ag)),some (.arr 1 (b9_.Accepts.map eB))]:=by
 refine fL 53 15 (Zw b2_ b5_1_ b9_ o10_ o11_ o12_ o13_) Try.func85 (sr (ck 9 (bx H λ x45 h142 H=>sp (AN (eL BK) h142) (ck 1 (sp (AC BK x45) (ck 1 (en (bk 0 (bx H λ y42 h147 H=>?_)))))))))
 rcases y42 with y43|y44
 ·exact lX Eg h147 (tr (tr (tr (BM (k:=12) (sz:=3) 7 0 (o12_.map Ag) (o12_.length) (by kernel_rfl) Bf leM rfl) (BM (k:=13) (sz:=3) 8 0 (o13_.map Ag) (o13_.length) (by kernel_rfl) Bf leM rfl)) (BM (k:=14) (sz:=1) 9 1 (b9_.Accepts.map eB) (b9_.Accepts.length) (by kernel_rfl) Bf leM rfl)) (sg [0,1,2,16,17,18])) rfl λ s hE35=>qH (by cases H;exact pL' (rl (s':=PJ b2_ b5_1_ b9_ o10_ y43.1 y43.2.1 y43.2.2) (tr (hE35) (sg []))))
 ·exact lL Eg h147 (tr (tr (tr (BM (k:=12) (sz:=3) 7 0 (o12_.map Ag) (o12_.length) (by kernel_rfl) Bf leM rfl) (BM (k:=13) (sz:=3) 8 0 (o13_.map Ag) (o13_.length) (by kernel_rfl) Bf leM rfl)) (BM (k:=14) (sz:=1) 9 1 (b9_.Accepts.map eB) (b9_.Accepts.length) (by kernel_rfl) Bf leM rfl)) (sg [0,1,2,16,17,18])) rfl λ s hE36=>qR (by cases H;exact pL hE36)
end
section
variable (o0_:(List Ac)) (x_55:(List Ac))
def ZA:St:=⟨(0,.osl 0 3 0 (o0_.length))::[],[some (.arr 3 (o0_.map Ag))]⟩
def ZB:St:=⟨(2,.osl 1 3 0 (x_55.length))::[],[none,some (.arr 3 (x_55.map Ag))]⟩
variable {o0_ x_55}
theorem NG {z} (H:Ir n o0_=some z):BW Try.prog 87 [.osl 0 3 0 (o0_.length)] [some (.arr 3 (o0_.map Ag))] 1 (.osl 1 3 0 (z.length)) [none,some (.arr 3 (z.map Ag))]:=by
 exact fL 9 1 (ZA o0_) Try.func87 (sr (ck 1 (en (sr (ck 5 (bx H λ l26 h148 H=>sp (JbJ 0 3 h148) (ck 1 (en (re (by cases H;exact pL (rl (s':=ZB z) (tr (LA (k:=0) (sz:=3) 2 (z.map Ag) (z.length) (by kernel_rfl) (FS h148) (HT (enc:=Ag) h148) (FT h148)) (sg [2])))))))))))))
end
section
variable (p1_:(List Ac)) (b0_1_:(List Int)) (b1_:Am) (o2_:(List (Ae×Bool))) (x_56:(List Ac)) (x_57:Bool) (open_8:(List Ac)) (found_1:(List Ac)) (add_13:(List (Ac×Bool))) (x_58:Int) (open_9:(List Ac)) (found_2:(List Ac)) (add_14:(List (Ac×Bool))) (open_10:(List Ac)) (found_3:(List Ac)) (add_15:(List (Ac×Bool))) (open_11:(List Ac)) (found_4:(List Ac)) (add_16:(List (Ac×Bool))) (ends_1:Bool) (found_5:(List Ac)) (ends_2:Bool) (x48:Ac) (l27:(List Ac)) (ends_3:Bool)
def ZC:St:=⟨(0,.ptr 0 0)::(1,.d (.sl (p1_.map Ag)))::[],[some (.box [.ptr 1 0,.d (.sl (b0_1_.map eU8)),.mp 2]),some (.box (Ai b1_ (.osl 3 1 0 (b1_.Accepts.length)))),some (.map true false (AA An eB o2_)),some (.arr 1 (b1_.Accepts.map eB))]⟩
def ZD:St:=⟨(4,.d (.sl (x_56.map Ag)))::(5,.d (.bool x_57))::[],[some (.box [.ptr 1 0,.d (.sl (b0_1_.map eU8)),.mp 2]),some (.box (Ai b1_ (.osl 4 1 0 (b1_.Accepts.length)))),some (.map true false (AA An eB o2_)),none,some (.arr 1 (b1_.Accepts.map eB))]⟩
def ZE:St:=⟨(2,.ptr 4 0)::(7,.ptr 5 0)::(8,.ptr 6 0)::(9,.ptr 7 0)::(10,.d (.bool false))::(18,.d (.sl (p1_.map Ag)))::(19,.d (.int .i64 ((p1_.length:Nat):Int)))::(20,.d (.int .i64 x_58))::[],[some (.box [.ptr 1 0,.d (.sl (b0_1_.map eU8)),.mp 2]),some (.box (Ai b1_ (.osl 3 1 0 (b1_.Accepts.length)))),some (.map true false (AA An eB o2_)),some (.arr 1 (b1_.Accepts.map eB)),some (.box [.ptr 0 0]),some (.box [.osl 8 3 0 (open_8.length)]),some (.box [.osl 9 3 0 (found_1.length)]),some (.box [.clo 86 [.ptr 10 0,.ptr 5 0,.ptr 6 0]]),some (.arr 3 (open_8.map Ag)),some (.arr 3 (found_1.map Ag)),some (.box [.mp 11]),some (.map true false (AA Ag eB add_13))]⟩
def ZF:St:=⟨(2,.ptr 4 0)::(7,.ptr 5 0)::(8,.ptr 6 0)::(9,.ptr 7 0)::(10,.d (.bool false))::[],[some (.box [.ptr 1 0,.d (.sl (b0_1_.map eU8)),.mp 2]),some (.box (Ai b1_ (.osl 3 1 0 (b1_.Accepts.length)))),some (.map true false (AA An eB o2_)),some (.arr 1 (b1_.Accepts.map eB)),some (.box [.ptr 0 0]),some (.box [.osl 8 3 0 (open_9.length)]),some (.box [.osl 9 3 0 (found_2.length)]),some (.box [.clo 86 [.ptr 10 0,.ptr 5 0,.ptr 6 0]]),some (.arr 3 (open_9.map Ag)),some (.arr 3 (found_2.map Ag)),some (.box [.mp 11]),some (.map true false (AA Ag eB add_14))]⟩
def ZG:St:=⟨(2,.ptr 4 0)::(7,.ptr 5 0)::(8,.ptr 6 0)::(9,.ptr 7 0)::(10,.d (.bool false))::(18,.d (.sl (p1_.map Ag)))::(19,.d (.int .i64 ((p1_.length:Nat):Int)))::(20,.d (.int .i64 x_58))::[],[some (.box [.ptr 1 0,.d (.sl (b0_1_.map eU8)),.mp 2]),some (.box (Ai b1_ (.osl 3 1 0 (b1_.Accepts.length)))),some (.map true false (AA An eB o2_)),some (.arr 1 (b1_.Accepts.map eB)),some (.box [.ptr 0 0]),some (.box [.osl 8 3 0 (open_10.length)]),some (.box [.osl 9 3 0 (found_3.length)]),some (.box [.clo 86 [.ptr 10 0,.ptr 5 0,.ptr 6 0]]),some (.arr 3 (open_10.map Ag)),some (.arr 3 (found_3.map Ag)),some (.box [.mp 11]),some (.map true false (AA Ag eB add_15))]⟩
def Iy:((List Ac)×(List Ac)×(List (Ac×Bool)))->Ex->St->Prop:=xX 4 0 (λ (y:((List Ac)×(List Ac)×(List (Ac×Bool))))=>ZF b0_1_ b1_ o2_ y.1 y.2.1 y.2.2)
def E6:((List Ac)×(List Ac)×(List (Ac×Bool))×Int)->St:=(λ (x:((List Ac)×(List Ac)×(List (Ac×Bool))×Int))=>ZE p1_ b0_1_ b1_ o2_ x.1 x.2.1 x.2.2.1 x.2.2.2)
def ZH:St:=⟨(2,.ptr 4 0)::(7,.ptr 5 0)::(8,.ptr 6 0)::(9,.ptr 7 0)::(10,.d (.bool ends_1))::[],[some (.box [.ptr 1 0,.d (.sl (b0_1_.map eU8)),.mp 2]),some (.box (Ai b1_ (.osl 8 1 0 (b1_.Accepts.length)))),some (.map true false (AA An eB o2_)),none,some (.box [.ptr 0 0]),some (.box [.osl 9 3 0 (open_11.length)]),some (.box [.osl 10 3 0 (found_4.length)]),some (.box [.clo 86 [.ptr 11 0,.ptr 5 0,.ptr 6 0]]),some (.arr 1 (b1_.Accepts.map eB)),some (.arr 3 (open_11.map Ag)),some (.arr 3 (found_4.map Ag)),some (.box [.mp 12]),some (.map true false (AA Ag eB add_16))]⟩
def ZI:St:=⟨(8,.ptr 4 0)::(10,.d (.bool ends_2))::[],[some (.box [.ptr 1 0,.d (.sl (b0_1_.map eU8)),.mp 2]),some (.box (Ai b1_ (.osl 5 1 0 (b1_.Accepts.length)))),some (.map true false (AA An eB o2_)),none,some (.box [.osl 6 3 0 (found_5.length)]),some (.arr 1 (b1_.Accepts.map eB)),some (.arr 3 (found_5.map Ag))]⟩
def ZJ:St:=⟨(2,.ptr 4 0)::(7,.ptr 5 0)::(8,.ptr 6 0)::(9,.ptr 7 0)::(10,.d (.bool ends_3))::(13,.ptr 8 0)::[],[some (.box [.ptr 1 0,.d (.sl (b0_1_.map eU8)),.mp 2]),some (.box (Ai b1_ (.osl 9 1 0 (b1_.Accepts.length)))),some (.map true false (AA An eB o2_)),none,some (.box [.ptr 0 0]),some (.box [.osl 10 3 0 (l27.length)]),some (.box [.osl 11 3 0 (found_4.length)]),some (.box [.clo 86 [.ptr 12 0,.ptr 5 0,.ptr 6 0]]),some (.box (YT x48)),some (.arr 1 (b1_.Accepts.map eB)),some (.arr 3 (l27.map Ag)),some (.arr 3 (found_4.map Ag)),some (.box [.mp 13]),some (.map true false (AA Ag eB add_16))]⟩
def Iz:((List Ac)×Bool)->Ex->St->Prop:=xX 4 2 (λ (y:((List Ac)×Bool))=>ZI b0_1_ b1_ o2_ y.1 y.2)
def E7:((List Ac)×(List Ac)×(List (Ac×Bool))×Bool)->St:=(λ (x:((List Ac)×(List Ac)×(List (Ac×Bool))×Bool))=>ZH b0_1_ b1_ o2_ x.1 x.2.1 x.2.2.1 x.2.2.2)
variable {p1_ b0_1_ b1_ o2_ x_56 x_57 open_8 found_1 add_13 x_58 open_9 found_2 add_14 open_10 found_3 add_15 open_11 found_4 add_16 ends_1 found_5 ends_2 x48 l27 ends_3}
theorem HZ (x:((List Ac)×(List Ac)×(List (Ac×Bool))×Int)) (z:(((List Ac)×(List Ac)×(List (Ac×Bool))×Int)⊕((List Ac)×(List Ac)×(List (Ac×Bool))))) (H:CI n p1_ b0_1_ b1_ o2_ x.1 x.2.1 x.2.2.1 x.2.2.2=some z):WP (cxk 92 4) (AD Try.f75) [1,1,1,1,1,0,1,0,0] (AP 4 (E6 p1_ b0_1_ b1_ o2_) (Iy b0_1_ b1_ o2_) z) (E6 p1_ b0_1_ b1_ o2_ x):=by
 obtain ⟨open_8,found_1,add_13,x_58⟩:=x
 refine sr (ck 1 (en (sq (cn H (λ H=>?_) (λ H=>?_)))))
 ·refine sk (qz (sj (λ (x:((List Ac)×(List Ac)×(List (Ac×Bool))))=>ZG p1_ b0_1_ b1_ o2_ x_58 x.1 x.2.1 x.2.2) (λ (x:((List Ac)×(List Ac)×(List (Ac×Bool))))=>Cc n x_58 x.1 x.2.1 x.2.2) z ?_ (λ hFRb_reading_spread_J1=>?_)))
  ·rintro ⟨open_10,found_3,add_15⟩ H
   exact rz (ck 2 (ae (by cases H;exact og (sg [2,7,8,9,10,18,19,20]))))
  refine bk 1 (sr (bx H λ x47 h149 H=>sp (AN Ag h149) (ck 3 (en (sr (ck 6 (sp (Fh (enc:=eB) (encK:=An) (k:=2) (e1:=λ x=>.bool x) (m:=o2_) (l:=[.d (.int .i64 x47.Spot.At),.d (.int .i64 x47.Spot.State)]) (key:=x47.Spot) (z:=false) (vz:=[.bool false]) Ki false) (en (cn H (λ H=>?_) (λ H=>?_))))))))))
  ·exact rz (ck 2 (bx H λ r40 h150 H=>xc (xok _ _) [10,5,6,11,8,9] (C9 h150) (ae (qN (qs (sg [2,7,8,9,10,18,19,20]) (hFRb_reading_spread_J1 (r40.2.1,r40.2.2,r40.1) H))))))
  ·exact sk (qN (qs (sg [2,7,8,9,10,18,19,20]) (hFRb_reading_spread_J1 (open_8,found_1,add_13) H)))
 ·exact ex 0 (qx (by cases H;exact xo rfl (sg [2,7,8,9,10])))
theorem H1 (x:((List Ac)×(List Ac)×(List (Ac×Bool))×Bool)) (z:(((List Ac)×(List Ac)×(List (Ac×Bool))×Bool)⊕((List Ac)×Bool))) (H:CJ n b0_1_ b1_ o2_ x.1 x.2.1 x.2.2.1 x.2.2.2=some z):WP (cxk 92 4) (AD Try.f75) [1,1,1,1,1,1,0,0,0] (AP 4 (E7 b0_1_ b1_ o2_) (Iz b0_1_ b1_ o2_) z) (E7 b0_1_ b1_ o2_ x):=by
 obtain ⟨open_11,found_4,add_16,ends_1⟩:=x
 refine sq (sr (ck 3 (en (cn H (λ H=>?_) (λ H=>?_)))))
 ·refine sk (qz (bk 3 (sr (ck 4 (bx H λ x48 h152 H=>sp (Bo 9 3 h152) (sp (DP Ag 9 0 (ty 128) h152) (ck 2 (en (sr (ck 4 (bx H λ l27 h153 H=>sp (HU 9 3 h153) (ck 1 (en (sj (λ (x:Bool)=>ZJ b0_1_ b1_ o2_ found_4 add_16 x48 l27 x) (λ (x:Bool)=>Cd n b0_1_ b1_ o2_ found_4 add_16 x48 l27 x) z ?_ (λ hFRb_reading_spread_J2=>?_)))))))))))))))
  ·intro ends_3 H
   refine sr (ck 3 (bx H λ r41 h154 H=>lt [0,1,2,9] (Es h154) (en (bk 4 (bx H λ r42 h155 H=>rf [] [2,9] [16,14,15,4,7,0,12,5,6,1,2,13,10,11,9] 0 (Fm h155) rfl (jn H (λ H=>?_) (λ H=>?_)))))))
   ·exact qN (qN (by cases H;exact og (sg [2,7,8,9,10])))
   ·cases H
  refine sq (rg (BM (k:=9) (sz:=3) 5 0 (l27.map Ag) (l27.length) (by kernel_rfl) (FS h153) (HT (enc:=Ag) h153) (FT h153)) (ck 7 (sp (AC eU8 b0_1_) (ck 3 (gc 6 (x48.Spot.At==((b0_1_.length:Nat):Int)) (ck 1 (gc 2 (x48.Spot.At==((b0_1_.length:Nat):Int)) (bx H λ x49 h156 H=>sE (λ hg=>Bo 8 1 (F7 h156 hg)) (sE (g:=(x48.Spot.At==((b0_1_.length:Nat):Int))) (λ hg=>DP eB 8 0 (ty 4) (F7 h156 hg)) (pA (en (cn H (λ H=>?_) (λ H=>?_)))))))))))))
  ·exact rz (ck 1 (ae (qs (sg [2,7,8,9,10,13]) (hFRb_reading_spread_J2 true H))))
  ·exact sk (qs (sg [2,7,8,9,10,13]) (hFRb_reading_spread_J2 ends_1 H))
 ·exact ex 2 (qx (by cases H;exact xo rfl (sg [8,10])))
theorem Fx {z} (H:BP n p1_ b0_1_ b1_ o2_=some z):BW Try.prog 75 [.ptr 0 0,.d (.sl (p1_.map Ag))] [some (.box [.ptr 1 0,.d (.sl (b0_1_.map eU8)),.mp 2]),some (.box (Ai b1_ (.osl 3 1 0 (b1_.Accepts.length)))),some (.map true false (AA An eB o2_)),some (.arr 1 (b1_.Accepts.map eB))] 4 (.tup [.d (.sl (z.1.map Ag)),.d (.bool z.2)]) [some (.box [.ptr 1 0,.d (.sl (b0_1_.map eU8)),.mp 2]),some (.box (Ai b1_ (.osl 4 1 0 (b1_.Accepts.length)))),some (.map true false (AA An eB o2_)),none,some (.arr 1 (b1_.Accepts.map eB))]:=by
 exact fL 92 4 (ZC p1_ b0_1_ b1_ o2_) Try.func75 (sr (ck 3 (en (sr (ck 3 (en (sr (ck 2 (en (sr (xm (xok _ _) (ck 2 (en (sr (ck 1 (en (sq (sr (ck 1 (sp (AC Ag p1_) (ck 1 (en (bk 0 (bx H λ y45 h151 H=>lX HZ h151 (tr (tr (CX 7 0 3 (by kernel_rfl)) (CX 8 0 3 (by kernel_rfl))) (sg [2,7,8,9,10,18,19,20])) rfl λ s hE37=>qH (qs (hE37) (sq (bk 2 (bx H λ y46 h157 H=>lX H1 h157 (tr (BM (k:=3) (sz:=1) 1 1 (b1_.Accepts.map eB) (b1_.Accepts.length) (by kernel_rfl) Bf leM rfl) (sg [2,7,8,9,10])) rfl λ s hE38=>qH (qs (hE38) (sr (ck 1 (bx H λ r43 h158 H=>lt [6] (NG h158) (ck 3 (en (re (by cases H;exact pL (rl (s':=ZD b0_1_ b1_ o2_ r43 y46.2) (tr (fz (enc:=Ag) (xs:=r43) 4 7 3) (sg [4,5])))))))))))))))))))))))))))))))))))))))
end
noncomputable def ZK (p1_:(List UInt8)) (b1_0_:(List Int)) (b2_0_:(List UInt8)) (b3_0_:Int) (b4_0_:Int):St:=⟨(21,.d (.str p1_))::(3,.ptr 1 0)::(4,.ptr 2 0)::(5,.ptr 3 0)::(6,.ptr 4 0)::[],[some (.lp AZ [3,4,5,6] [.ptr 1 0,.ptr 2 0,.ptr 3 0,.ptr 4 0] 0),some (.box [.d (.sl (b1_0_.map eU8))]),some (.box [.d (.str b2_0_)]),some (.box [.d (.int .i64 b3_0_)]),some (.box [.d (.int .i64 b4_0_)])]⟩
noncomputable def ZL (p1_:(List UInt8)) (b1_0_:(List Int)):St:=⟨[],[some (.lp AZ [3,4,5,6] [.ptr 1 0,.ptr 2 0,.ptr 3 0,.ptr 4 0] 1),some (.box [.d (.sl (b1_0_.map eU8))]),some (.box [.d (.str p1_)]),some (.box [.d (.int .i64 ((b1_0_.length:Nat):Int))]),some (.box [.d (.int .i64 0)])]⟩
section
variable (p1_:(List UInt8)) (b1_0_:(List Int)) (b2_0_:(List UInt8)) (b3_0_:Int) (b4_0_:Int)
variable {p1_ b1_0_ b2_0_ b3_0_ b4_0_}
theorem Lj {z} (H:G7 n p1_ b1_0_ b2_0_ b3_0_ b4_0_=some z):ND Try.prog [.d (.str p1_)] [some (.lp AZ [3,4,5,6] [.ptr 1 0,.ptr 2 0,.ptr 3 0,.ptr 4 0] 0),some (.box [.d (.sl (b1_0_.map eU8))]),some (.box [.d (.str b2_0_)]),some (.box [.d (.int .i64 b3_0_)]),some (.box [.d (.int .i64 b4_0_)])] 5 2 [some (.lp AZ [3,4,5,6] [.ptr 1 0,.ptr 2 0,.ptr 3 0,.ptr 4 0] 2),some (.box [.d (.sl (b1_0_.map eU8))]),some (.box [.d (.str p1_)]),some (.box [.d (.int .i64 ((b1_0_.length:Nat):Int))]),some (.box [.d (.int .i64 0)])]:=by
 exact fk (C:=AD Try.f41) (p:=[1,1,1,0,1,0]) 27 [21] [.ret] (ts:=[3,4,5,6]) (vs:=[.ptr 1 0,.ptr 2 0,.ptr 3 0,.ptr 4 0]) (ZK p1_ b1_0_ b2_0_ b3_0_ b4_0_) follows (VU 27 5) (rz (ck 1 (ae (aq (js:=[.ret]) (bk 1 (sr (ck 2 (sp (AC eU8 b1_0_) (ck 3 (en (re (qR (by cases H;exact rq (s':=ZL p1_ b1_0_) (sg []))))))))))))))
end
section
variable (p0_:Int) (p1_:Int) (o0_:(List AS)) (x_59:(List Ac)) (x50:AS) (l_4:(List Ac)) (x_60:Int) (l_5:(List Ac)) (l_6:(List Ac))
def ZM:St:=⟨(0,.eptr 0 2 (0+Int.toNat p0_) 0)::(1,.d (.int .u8 p1_))::[],[some (.arr 2 (o0_.map A4))]⟩
def ZN:St:=⟨(4,.osl 1 3 0 (x_59.length))::[],[some (.arr 2 (o0_.map A4)),some (.arr 3 (x_59.map Ag))]⟩
def ZO:St:=⟨(1,.d (.int .u8 p1_))::(5,.osl 1 3 0 (l_4.length))::(11,.d (.sl (x50.Heads.map Ag)))::(12,.d (.int .i64 ((x50.Heads.length:Nat):Int)))::(13,.d (.int .i64 x_60))::[],[some (.arr 2 (o0_.map A4)),some (.arr 3 (l_4.map Ag))]⟩
def ZP:St:=⟨(5,.osl 1 3 0 (l_5.length))::[],[some (.arr 2 (o0_.map A4)),some (.arr 3 (l_5.map Ag))]⟩
def ZQ:St:=⟨(1,.d (.int .u8 p1_))::(5,.osl 1 3 0 (l_6.length))::(11,.d (.sl (x50.Heads.map Ag)))::(12,.d (.int .i64 ((x50.Heads.length:Nat):Int)))::(13,.d (.int .i64 x_60))::[],[some (.arr 2 (o0_.map A4)),some (.arr 3 (l_6.map Ag))]⟩
def IA:(List Ac)->Ex->St->Prop:=xX 1 0 (λ (y:(List Ac))=>ZP o0_ y)
def E8:((List Ac)×Int)->St:=(λ (x:((List Ac)×Int))=>ZO p1_ o0_ x50 x.1 x.2)
variable {p0_ p1_ o0_ x_59 x50 l_4 x_60 l_5 l_6}
theorem H2 (x:((List Ac)×Int)) (z:(((List Ac)×Int)⊕(List Ac))) (H:Bm n p1_ o0_ x50 x.1 x.2=some z):WP (cxk 33 1) (AD Try.f77) [1,1,0,1,0,0] (AP 1 (E8 p1_ o0_ x50) (IA o0_) z) (E8 p1_ o0_ x50 x):=by
 obtain ⟨l_4,x_60⟩:=x
 refine sr (ck 1 (en (sq (cn H (λ H=>?_) (λ H=>?_)))))
 ·refine sk (qz (sj (λ (x:(List Ac))=>ZQ p1_ o0_ x50 x_60 x) (λ (x:(List Ac))=>Ce n x_60 x) z ?_ (λ hFRb_branch_behindx_J1=>?_)))
  ·intro l_6 H
   exact rz (ck 2 (ae (by cases H;exact og (sg [1,5,11,12,13]))))
  refine bk 1 (sr (bx H λ x51 h160 H=>sp (AN Ag h160) (ck 3 (en (sr (ck 2 (bx H λ b7 h161 H=>sp (HB h161) (ck 2 (en (cn H (λ H=>?_) (λ H=>?_)))))))))))
  ·exact rz (ck 5 (bx H λ s2 h162 H=>sp (VQ h162) (ck 2 (bx H λ l28 h163 H=>sp (BH Ag 1 3 h163) (ck 1 (ae (qN (qs (sg [1,5,11,12,13]) (hFRb_branch_behindx_J1 l28 H)))))))))
  ·exact sk (qN (qs (sg [1,5,11,12,13]) (hFRb_branch_behindx_J1 l_4 H)))
 ·exact ex 0 (qx (by cases H;exact xo rfl (sg [5])))
theorem Fy {z} (H:BQ n p0_ p1_ o0_=some z):BW Try.prog 77 [.eptr 0 2 (0+Int.toNat p0_) 0,.d (.int .u8 p1_)] [some (.arr 2 (o0_.map A4))] 1 (.osl 1 3 0 (z.length)) [some (.arr 2 (o0_.map A4)),some (.arr 3 (z.map Ag))]:=by
 exact fL 33 1 (ZM p0_ p1_ o0_) Try.func77 (sr (ck 1 (en (sr (ck 1 (en (sq (sr (ck 3 (bx H λ x50 h159 H=>sp (DP A4 0 0 (ty 124) h159) (sp (AC Ag x50.Heads) (ck 1 (en (bk 0 (bx H λ y47 h164 H=>lX H2 h164 (tr (As.nilo 5 3 (by kernel_rfl)) (sg [1,5,11,12,13])) rfl λ s hE39=>qH (qs (hE39) (sr (ck 2 (en (re (by cases H;exact pL (rl (s':=ZN o0_ z) (sg [4])))))))))))))))))))))))
end
section
variable (b0_1_:(List Int)) (b2_:Am) (o1_:(List Ac)) (o3_:(List (Ae×Bool))) (x_61:(List Ac)) (x_62:Bool) (open_12:(List Ac)) (found_6:(List Ac)) (add_17:(List (Ac×Bool))) (x_63:Int) (open_13:(List Ac)) (found_7:(List Ac)) (add_18:(List (Ac×Bool))) (open_14:(List Ac)) (found_8:(List Ac)) (add_19:(List (Ac×Bool))) (open_15:(List Ac)) (found_9:(List Ac)) (add_20:(List (Ac×Bool))) (ends_4:Bool) (found_10:(List Ac)) (ends_5:Bool) (x53:Ac) (l29:(List Ac)) (ends_6:Bool)
def ZR:St:=⟨(0,.ptr 0 0)::(1,.osl 1 3 0 (o1_.length))::[],[some (.box [.ptr 2 0,.d (.sl (b0_1_.map eU8)),.mp 3]),some (.arr 3 (o1_.map Ag)),some (.box (Ai b2_ (.osl 4 1 0 (b2_.Accepts.length)))),some (.map true false (AA An eB o3_)),some (.arr 1 (b2_.Accepts.map eB))]⟩
def ZS:St:=⟨(4,.d (.sl (x_61.map Ag)))::(5,.d (.bool x_62))::[],[some (.box [.ptr 2 0,.d (.sl (b0_1_.map eU8)),.mp 3]),some (.arr 3 (o1_.map Ag)),some (.box (Ai b2_ (.osl 5 1 0 (b2_.Accepts.length)))),some (.map true false (AA An eB o3_)),none,some (.arr 1 (b2_.Accepts.map eB))]⟩
def ZT:St:=⟨(2,.ptr 5 0)::(7,.ptr 6 0)::(8,.ptr 7 0)::(9,.ptr 8 0)::(10,.d (.bool false))::(18,.osl 1 3 0 (o1_.length))::(19,.d (.int .i64 ((o1_.length:Nat):Int)))::(20,.d (.int .i64 x_63))::[],[some (.box [.ptr 2 0,.d (.sl (b0_1_.map eU8)),.mp 3]),some (.arr 3 (o1_.map Ag)),some (.box (Ai b2_ (.osl 4 1 0 (b2_.Accepts.length)))),some (.map true false (AA An eB o3_)),some (.arr 1 (b2_.Accepts.map eB)),some (.box [.ptr 0 0]),some (.box [.osl 9 3 0 (open_12.length)]),some (.box [.osl 10 3 0 (found_6.length)]),some (.box [.clo 86 [.ptr 11 0,.ptr 6 0,.ptr 7 0]]),some (.arr 3 (open_12.map Ag)),some (.arr 3 (found_6.map Ag)),some (.box [.mp 12]),some (.map true false (AA Ag eB add_17))]⟩
def ZU:St:=⟨(2,.ptr 5 0)::(7,.ptr 6 0)::(8,.ptr 7 0)::(9,.ptr 8 0)::(10,.d (.bool false))::[],[some (.box [.ptr 2 0,.d (.sl (b0_1_.map eU8)),.mp 3]),some (.arr 3 (o1_.map Ag)),some (.box (Ai b2_ (.osl 4 1 0 (b2_.Accepts.length)))),some (.map true false (AA An eB o3_)),some (.arr 1 (b2_.Accepts.map eB)),some (.box [.ptr 0 0]),some (.box [.osl 9 3 0 (open_13.length)]),some (.box [.osl 10 3 0 (found_7.length)]),some (.box [.clo 86 [.ptr 11 0,.ptr 6 0,.ptr 7 0]]),some (.arr 3 (open_13.map Ag)),some (.arr 3 (found_7.map Ag)),some (.box [.mp 12]),some (.map true false (AA Ag eB add_18))]⟩
def ZV:St:=⟨(2,.ptr 5 0)::(7,.ptr 6 0)::(8,.ptr 7 0)::(9,.ptr 8 0)::(10,.d (.bool false))::(18,.osl 1 3 0 (o1_.length))::(19,.d (.int .i64 ((o1_.length:Nat):Int)))::(20,.d (.int .i64 x_63))::[],[some (.box [.ptr 2 0,.d (.sl (b0_1_.map eU8)),.mp 3]),some (.arr 3 (o1_.map Ag)),some (.box (Ai b2_ (.osl 4 1 0 (b2_.Accepts.length)))),some (.map true false (AA An eB o3_)),some (.arr 1 (b2_.Accepts.map eB)),some (.box [.ptr 0 0]),some (.box [.osl 9 3 0 (open_14.length)]),some (.box [.osl 10 3 0 (found_8.length)]),some (.box [.clo 86 [.ptr 11 0,.ptr 6 0,.ptr 7 0]]),some (.arr 3 (open_14.map Ag)),some (.arr 3 (found_8.map Ag)),some (.box [.mp 12]),some (.map true false (AA Ag eB add_19))]⟩
def H3:((List Ac)×(List Ac)×(List (Ac×Bool)))->Ex->St->Prop:=xX 5 0 (λ (y:((List Ac)×(List Ac)×(List (Ac×Bool))))=>ZU b0_1_ b2_ o1_ o3_ y.1 y.2.1 y.2.2)
def EB:((List Ac)×(List Ac)×(List (Ac×Bool))×Int)->St:=(λ (x:((List Ac)×(List Ac)×(List (Ac×Bool))×Int))=>ZT b0_1_ b2_ o1_ o3_ x.1 x.2.1 x.2.2.1 x.2.2.2)
def ZW:St:=⟨(2,.ptr 5 0)::(7,.ptr 6 0)::(8,.ptr 7 0)::(9,.ptr 8 0)::(10,.d (.bool ends_4))::[],[some (.box [.ptr 2 0,.d (.sl (b0_1_.map eU8)),.mp 3]),some (.arr 3 (o1_.map Ag)),some (.box (Ai b2_ (.osl 9 1 0 (b2_.Accepts.length)))),some (.map true false (AA An eB o3_)),none,some (.box [.ptr 0 0]),some (.box [.osl 10 3 0 (open_15.length)]),some (.box [.osl 11 3 0 (found_9.length)]),some (.box [.clo 86 [.ptr 12 0,.ptr 6 0,.ptr 7 0]]),some (.arr 1 (b2_.Accepts.map eB)),some (.arr 3 (open_15.map Ag)),some (.arr 3 (found_9.map Ag)),some (.box [.mp 13]),some (.map true false (AA Ag eB add_20))]⟩
def ZX:St:=⟨(8,.ptr 5 0)::(10,.d (.bool ends_5))::[],[some (.box [.ptr 2 0,.d (.sl (b0_1_.map eU8)),.mp 3]),some (.arr 3 (o1_.map Ag)),some (.box (Ai b2_ (.osl 6 1 0 (b2_.Accepts.length)))),some (.map true false (AA An eB o3_)),none,some (.box [.osl 7 3 0 (found_10.length)]),some (.arr 1 (b2_.Accepts.map eB)),some (.arr 3 (found_10.map Ag))]⟩
def ZY:St:=⟨(2,.ptr 5 0)::(7,.ptr 6 0)::(8,.ptr 7 0)::(9,.ptr 8 0)::(10,.d (.bool ends_6))::(13,.ptr 9 0)::[],[some (.box [.ptr 2 0,.d (.sl (b0_1_.map eU8)),.mp 3]),some (.arr 3 (o1_.map Ag)),some (.box (Ai b2_ (.osl 10 1 0 (b2_.Accepts.length)))),some (.map true false (AA An eB o3_)),none,some (.box [.ptr 0 0]),some (.box [.osl 11 3 0 (l29.length)]),some (.box [.osl 12 3 0 (found_9.length)]),some (.box [.clo 86 [.ptr 13 0,.ptr 6 0,.ptr 7 0]]),some (.box (YT x53)),some (.arr 1 (b2_.Accepts.map eB)),some (.arr 3 (l29.map Ag)),some (.arr 3 (found_9.map Ag)),some (.box [.mp 14]),some (.map true false (AA Ag eB add_20))]⟩
def H4:((List Ac)×Bool)->Ex->St->Prop:=xX 5 2 (λ (y:((List Ac)×Bool))=>ZX b0_1_ b2_ o1_ o3_ y.1 y.2)
def EC:((List Ac)×(List Ac)×(List (Ac×Bool))×Bool)->St:=(λ (x:((List Ac)×(List Ac)×(List (Ac×Bool))×Bool))=>ZW b0_1_ b2_ o1_ o3_ x.1 x.2.1 x.2.2.1 x.2.2.2)
variable {b0_1_ b2_ o1_ o3_ x_61 x_62 open_12 found_6 add_17 x_63 open_13 found_7 add_18 open_14 found_8 add_19 open_15 found_9 add_20 ends_4 found_10 ends_5 x53 l29 ends_6}
theorem Ho (x:((List Ac)×(List Ac)×(List (Ac×Bool))×Int)) (z:(((List Ac)×(List Ac)×(List (Ac×Bool))×Int)⊕((List Ac)×(List Ac)×(List (Ac×Bool))))) (H:Bh n b0_1_ b2_ o1_ o3_ x.1 x.2.1 x.2.2.1 x.2.2.2=some z):WP (cxk 92 5) (AD Try.f75) [1,1,1,1,1,0,1,0,0] (AP 5 (EB b0_1_ b2_ o1_ o3_) (H3 b0_1_ b2_ o1_ o3_) z) (EB b0_1_ b2_ o1_ o3_ x):=by
 obtain ⟨open_12,found_6,add_17,x_63⟩:=x
 refine sr (ck 1 (en (sq (cn H (λ H=>?_) (λ H=>?_)))))
 ·refine sk (qz (sj (λ (x:((List Ac)×(List Ac)×(List (Ac×Bool))))=>ZV b0_1_ b2_ o1_ o3_ x_63 x.1 x.2.1 x.2.2) (λ (x:((List Ac)×(List Ac)×(List (Ac×Bool))))=>Bw n x_63 x.1 x.2.1 x.2.2) z ?_ (λ hFRb_reading_spreadx_J1=>?_)))
  ·rintro ⟨open_14,found_8,add_19⟩ H
   exact rz (ck 2 (ae (by cases H;exact og (sg [2,7,8,9,10,18,19,20]))))
  refine bk 1 (sr (bx H λ x52 h165 H=>sp (Bo 1 3 h165) (sp (DP Ag 1 0 (ty 128) h165) (ck 2 (en (sr (ck 6 (sp (Fh (enc:=eB) (encK:=An) (k:=3) (e1:=λ x=>.bool x) (m:=o3_) (l:=[.d (.int .i64 x52.Spot.At),.d (.int .i64 x52.Spot.State)]) (key:=x52.Spot) (z:=false) (vz:=[.bool false]) Ki false) (en (cn H (λ H=>?_) (λ H=>?_)))))))))))
  ·exact rz (ck 2 (bx H λ r44 h166 H=>xc (xok _ _) [11,6,7,12,9,10] (C9 h166) (ae (qN (qs (sg [2,7,8,9,10,18,19,20]) (hFRb_reading_spreadx_J1 (r44.2.1,r44.2.2,r44.1) H))))))
  ·exact sk (qN (qs (sg [2,7,8,9,10,18,19,20]) (hFRb_reading_spreadx_J1 (open_12,found_6,add_17) H)))
 ·exact ex 0 (qx (by cases H;exact xo rfl (sg [2,7,8,9,10])))
theorem Hp (x:((List Ac)×(List Ac)×(List (Ac×Bool))×Bool)) (z:(((List Ac)×(List Ac)×(List (Ac×Bool))×Bool)⊕((List Ac)×Bool))) (H:Bx n b0_1_ b2_ o1_ o3_ x.1 x.2.1 x.2.2.1 x.2.2.2=some z):WP (cxk 92 5) (AD Try.f75) [1,1,1,1,1,1,0,0,0] (AP 5 (EC b0_1_ b2_ o1_ o3_) (H4 b0_1_ b2_ o1_ o3_) z) (EC b0_1_ b2_ o1_ o3_ x):=by
 obtain ⟨open_15,found_9,add_20,ends_4⟩:=x
 refine sq (sr (ck 3 (en (cn H (λ H=>?_) (λ H=>?_)))))
 ·refine sk (qz (bk 3 (sr (ck 4 (bx H λ x53 h168 H=>sp (Bo 10 3 h168) (sp (DP Ag 10 0 (ty 128) h168) (ck 2 (en (sr (ck 4 (bx H λ l29 h169 H=>sp (HU 10 3 h169) (ck 1 (en (sj (λ (x:Bool)=>ZY b0_1_ b2_ o1_ o3_ found_9 add_20 x53 l29 x) (λ (x:Bool)=>Bi n b0_1_ b2_ o3_ found_9 add_20 x53 l29 x) z ?_ (λ hFRb_reading_spreadx_J2=>?_)))))))))))))))
  ·intro ends_6 H
   refine sr (ck 3 (bx H λ r45 h170 H=>lt [0,2,3,10] (Es h170) (en (bk 4 (bx H λ r46 h171 H=>rf [] [2,9] [17,15,16,5,8,0,13,6,7,2,3,14,11,12,10] 0 (Fm h171) rfl (jn H (λ H=>?_) (λ H=>?_)))))))
   ·exact qN (qN (by cases H;exact og (sg [2,7,8,9,10])))
   ·cases H
  refine sq (rg (BM (k:=10) (sz:=3) 6 0 (l29.map Ag) (l29.length) (by kernel_rfl) (FS h169) (HT (enc:=Ag) h169) (FT h169)) (ck 7 (sp (AC eU8 b0_1_) (ck 3 (gc 6 (x53.Spot.At==((b0_1_.length:Nat):Int)) (ck 1 (gc 2 (x53.Spot.At==((b0_1_.length:Nat):Int)) (bx H λ x54 h172 H=>sE (λ hg=>Bo 9 1 (F7 h172 hg)) (sE (g:=(x53.Spot.At==((b0_1_.length:Nat):Int))) (λ hg=>DP eB 9 0 (ty 4) (F7 h172 hg)) (pA (en (cn H (λ H=>?_) (λ H=>?_)))))))))))))
  ·exact rz (ck 1 (ae (qs (sg [2,7,8,9,10,13]) (hFRb_reading_spreadx_J2 true H))))
  ·exact sk (qs (sg [2,7,8,9,10,13]) (hFRb_reading_spreadx_J2 ends_4 H))
 ·exact ex 2 (qx (by cases H;exact xo rfl (sg [8,10])))
theorem Fn {z} (H:A8 n b0_1_ b2_ o1_ o3_=some z):BW Try.prog 75 [.ptr 0 0,.osl 1 3 0 (o1_.length)] [some (.box [.ptr 2 0,.d (.sl (b0_1_.map eU8)),.mp 3]),some (.arr 3 (o1_.map Ag)),some (.box (Ai b2_ (.osl 4 1 0 (b2_.Accepts.length)))),some (.map true false (AA An eB o3_)),some (.arr 1 (b2_.Accepts.map eB))] 5 (.tup [.d (.sl (z.1.map Ag)),.d (.bool z.2)]) [some (.box [.ptr 2 0,.d (.sl (b0_1_.map eU8)),.mp 3]),some (.arr 3 (o1_.map Ag)),some (.box (Ai b2_ (.osl 5 1 0 (b2_.Accepts.length)))),some (.map true false (AA An eB o3_)),none,some (.arr 1 (b2_.Accepts.map eB))]:=by
 exact fL 92 5 (ZR b0_1_ b2_ o1_ o3_) Try.func75 (sr (ck 3 (en (sr (ck 3 (en (sr (ck 2 (en (sr (xm (xok _ _) (ck 2 (en (sr (ck 1 (en (sq (sr (ck 3 (en (bk 0 (bx H λ y48 h167 H=>lX Ho h167 (tr (tr (CX 8 0 3 (by kernel_rfl)) (CX 9 0 3 (by kernel_rfl))) (sg [2,7,8,9,10,18,19,20])) rfl λ s hE40=>qH (qs (hE40) (sq (bk 2 (bx H λ y49 h173 H=>lX Hp h173 (tr (BM (k:=4) (sz:=1) 2 1 (b2_.Accepts.map eB) (b2_.Accepts.length) (by kernel_rfl) Bf leM rfl) (sg [2,7,8,9,10])) rfl λ s hE41=>qH (qs (hE41) (sr (ck 1 (bx H λ r47 h174 H=>lt [7] (NG h174) (ck 3 (en (re (by cases H;exact pL (rl (s':=ZS b0_1_ b2_ o1_ o3_ r47 y49.2) (tr (fz (enc:=Ag) (xs:=r47) 4 8 3) (sg [4,5])))))))))))))))))))))))))))))))))))))
end
section
variable (b2_0_:(List Int)) (b3_0_:(List UInt8)) (b4_0_:Int) (b5_0_:Int) (b6_1_:(List Int)) (b7_:Am) (o8_:(List (Ae×Bool))) (j_2:Nat) (x_64:(List UInt8)) (x_65:Int) (x_66:Int) (r48:((List Ac)×Bool)) (x_67:(List UInt8)) (x_68:Int) (x_69:Int) (x_70:(List UInt8)) (x_71:Int) (x_72:Int) (text_1:(List Int)) (stack_1:(List AS)) (x_73:(List UInt8)) (x_74:Int) (x_75:Int) (l32:(List AS)) (l33:(List Int)) (r51:((List Ac)×Bool)) (x_76:(List UInt8)) (x_77:Int) (x_78:Int)
noncomputable def ZZ:St:=⟨(0,.yld 0)::(1,.ptr 1 0)::[],[some (.lp AZ [3,4,5,6] [.ptr 2 0,.ptr 3 0,.ptr 4 0,.ptr 5 0] 0),some (.box [.ptr 6 0]),some (.box [.d (.sl (b2_0_.map eU8))]),some (.box [.d (.str b3_0_)]),some (.box [.d (.int .i64 b4_0_)]),some (.box [.d (.int .i64 b5_0_)]),some (.box [.ptr 7 0,.d (.sl (b6_1_.map eU8)),.mp 8]),some (.box (Ai b7_ (.osl 9 1 0 (b7_.Accepts.length)))),some (.map true false (AA An eB o8_)),some (.arr 1 (b7_.Accepts.map eB))]⟩
noncomputable def Ky:St:=⟨[],[some (.lp AZ [3,4,5,6] [.ptr 2 0,.ptr 3 0,.ptr 4 0,.ptr 5 0] j_2),some (.box [.ptr 6 0]),some (.box [.d (.sl (b2_0_.map eU8))]),some (.box [.d (.str x_64)]),some (.box [.d (.int .i64 x_65)]),some (.box [.d (.int .i64 x_66)]),some (.box [.ptr 7 0,.d (.sl (b6_1_.map eU8)),.mp 8]),some (.box (Ai b7_ (.osl 10 1 0 (b7_.Accepts.length)))),some (.map true false (AA An eB o8_)),none,some (.arr 1 (b7_.Accepts.map eB))]⟩
noncomputable def Z0:St:=⟨(0,.yld 0)::(1,.ptr 1 0)::(3,.osl 10 1 0 (List.length ([]:List Int)))::(4,.d (.sl (r48.1.map Ag)))::[],[some (.lp AZ [3,4,5,6] [.ptr 2 0,.ptr 3 0,.ptr 4 0,.ptr 5 0] 0),some (.box [.ptr 6 0]),some (.box [.d (.sl (b2_0_.map eU8))]),some (.box [.d (.str x_67)]),some (.box [.d (.int .i64 x_68)]),some (.box [.d (.int .i64 x_69)]),some (.box [.ptr 7 0,.d (.sl (b6_1_.map eU8)),.mp 8]),some (.box (Ai b7_ (.osl 11 1 0 (b7_.Accepts.length)))),some (.map true false (AA An eB o8_)),none,some (.arr 1 (List.map eU8 ([]:List Int))),some (.arr 1 (b7_.Accepts.map eB))]⟩
noncomputable def Z1:St:=⟨(0,.yld 0)::(1,.ptr 1 0)::(3,.osl 10 1 0 (text_1.length))::(6,.osl 11 2 0 (stack_1.length))::[],[some (.lp AZ [3,4,5,6] [.ptr 2 0,.ptr 3 0,.ptr 4 0,.ptr 5 0] 0),some (.box [.ptr 6 0]),some (.box [.d (.sl (b2_0_.map eU8))]),some (.box [.d (.str x_70)]),some (.box [.d (.int .i64 x_71)]),some (.box [.d (.int .i64 x_72)]),some (.box [.ptr 7 0,.d (.sl (b6_1_.map eU8)),.mp 8]),some (.box (Ai b7_ (.osl 12 1 0 (b7_.Accepts.length)))),some (.map true false (AA An eB o8_)),none,some (.arr 1 (text_1.map eU8)),some (.arr 2 (stack_1.map A4)),some (.arr 1 (b7_.Accepts.map eB))]⟩
noncomputable def Z2:St:=⟨[],[some (.lp AZ [3,4,5,6] [.ptr 2 0,.ptr 3 0,.ptr 4 0,.ptr 5 0] 0),some (.box [.ptr 6 0]),some (.box [.d (.sl (b2_0_.map eU8))]),some (.box [.d (.str x_73)]),some (.box [.d (.int .i64 x_74)]),some (.box [.d (.int .i64 x_75)]),some (.box [.ptr 7 0,.d (.sl (b6_1_.map eU8)),.mp 8]),some (.box (Ai b7_ (.osl 10 1 0 (b7_.Accepts.length)))),some (.map true false (AA An eB o8_)),none,some (.arr 1 (b7_.Accepts.map eB))]⟩
noncomputable def Z3:St:=⟨(0,.yld 0)::(1,.ptr 1 0)::(3,.osl 10 1 0 (l33.length))::(4,.d (.sl (r51.1.map Ag)))::(6,.osl 11 2 0 (l32.length))::[],[some (.lp AZ [3,4,5,6] [.ptr 2 0,.ptr 3 0,.ptr 4 0,.ptr 5 0] 0),some (.box [.ptr 6 0]),some (.box [.d (.sl (b2_0_.map eU8))]),some (.box [.d (.str x_76)]),some (.box [.d (.int .i64 x_77)]),some (.box [.d (.int .i64 x_78)]),some (.box [.ptr 7 0,.d (.sl (b6_1_.map eU8)),.mp 8]),some (.box (Ai b7_ (.osl 12 1 0 (b7_.Accepts.length)))),some (.map true false (AA An eB o8_)),none,some (.arr 1 (l33.map eU8)),some (.arr 2 (l32.map A4)),some (.arr 1 (b7_.Accepts.map eB))]⟩
noncomputable def H5:(((List UInt8)×Int×Int)⊕(Nat×(List UInt8)×Int×Int))->Ex->St->Prop:=xS (xX 10 0 (λ (y:((List UInt8)×Int×Int))=>Z2 b2_0_ b6_1_ b7_ o8_ y.1 y.2.1 y.2.2)) (xL 10 ty Try.f74 (λ (y:(Nat×(List UInt8)×Int×Int))=>.tup []) (λ (y:(Nat×(List UInt8)×Int×Int))=>[some (.lp AZ [3,4,5,6] [.ptr 2 0,.ptr 3 0,.ptr 4 0,.ptr 5 0] y.1),some (.box [.ptr 6 0]),some (.box [.d (.sl (b2_0_.map eU8))]),some (.box [.d (.str y.2.1)]),some (.box [.d (.int .i64 y.2.2.1)]),some (.box [.d (.int .i64 y.2.2.2)]),some (.box [.ptr 7 0,.d (.sl (b6_1_.map eU8)),.mp 8]),some (.box (Ai b7_ (.osl 10 1 0 (b7_.Accepts.length)))),some (.map true false (AA An eB o8_)),none,some (.arr 1 (b7_.Accepts.map eB))]))
noncomputable def ED:((List UInt8)×Int×Int×(List Int)×(List AS))->St:=(λ (x:((List UInt8)×Int×Int×(List Int)×(List AS)))=>Z1 b2_0_ b6_1_ b7_ o8_ x.1 x.2.1 x.2.2.1 x.2.2.2.1 x.2.2.2.2)
variable {b2_0_ b3_0_ b4_0_ b5_0_ b6_1_ b7_ o8_ j_2 x_64 x_65 x_66 r48 x_67 x_68 x_69 x_70 x_71 x_72 text_1 stack_1 x_73 x_74 x_75 l32 l33 r51 x_76 x_77 x_78}
theorem Eh (x:((List UInt8)×Int×Int×(List Int)×(List AS))) (z:(((List UInt8)×Int×Int×(List Int)×(List AS))⊕(((List UInt8)×Int×Int)⊕(Nat×(List UInt8)×Int×Int)))) (H:A3 n b2_0_ b6_1_ b7_ o8_ x.1 x.2.1 x.2.2.1 x.2.2.2.1 x.2.2.2.2=some z):WP (cxk 81 10) (AD Try.f74) [1,1,1,1,0,0] (AP 10 (ED b2_0_ b6_1_ b7_ o8_) (H5 b2_0_ b6_1_ b7_ o8_) z) (ED b2_0_ b6_1_ b7_ o8_ x):=by
 obtain ⟨x_70,x_71,x_72,text_1,stack_1⟩:=x
 refine sq (sr (ck 3 (en (cn H (λ H=>?_) (λ H=>?_)))))
 ·refine sk (qz (bk 1 (sr (ck 4 (bx H λ x55 h176 H=>sp (Bo 11 2 h176) (ck 1 (en (sr (ck 1 (bx H λ r49 h177 H=>cb (ks:=[11]) (obl:=[(0+Int.toNat (DD .i64 ((stack_1.length:Nat):Int) 1)+1,List.length (stack_1.map A4))]) false (leK (JfB (enc:=A4) h176) (leZ)) (Ef (Jca h176) rfl) (Gx h177) (Or.inr trivial) rfl (ck 1 (en (sq (sr (ck 2 (en (cn H (λ H=>?_) (λ H=>?_))))))))))))))))))
  ·exact sr (ck 4 (bx H λ l30 h178 H=>sp (HU 11 2 h178) (ck 1 (en (sq (rg (LA (k:=11) (sz:=2) 6 (l30.map A4) (l30.length) (by kernel_rfl) (FS h178) (HT (enc:=A4) h178) (FT h178)) (ck 5 (bx H λ l31 h179 H=>sp (HU 10 1 h179) (ck 1 (en (ex 1 (qx (qH (by cases H;exact og (tr (LA (k:=10) (sz:=1) 3 (l31.map eU8) (l31.length) (by kernel_rfl) (FS h179) (HT (enc:=eU8) h179) (FT h179)) (sg [0,1,3,6]))))))))))))))))
  ·refine sk (qz (sr (ck 5 (bx H λ l32 h180 H=>stA A4 11 1 (ty 3) h176 h180 (en (sq (rg (tr (tr (tr (sn 6 11 2 (De h180)) (sn 26 11 2 (De h180))) (sn 29 11 2 (De h180))) (sn 30 11 2 (De h180))) (ck 4 (bx H λ l33 h181 H=>sp (BH eU8 10 1 h181) (ck 1 (en (sq (rx 4 5 (.refl _) (ck 4 (bx H λ r50 h182 H=>xs (xok _ _) (g:=true) rfl (Gq) [11] (Fy h182) rfl (mx (bx H λ r51 h183 H=>lt [6,15,7,8,12] (Fn h183) (nx 11 10 (ck 4 (mx (ck 1 (nz (qz (sj (λ (x:((List UInt8)×Int×Int))=>Z3 b2_0_ b6_1_ b7_ o8_ l32 l33 r51 x.1 x.2.1 x.2.2) (λ (x:((List UInt8)×Int×Int))=>By n l32 l33 r51 x.1 x.2.1 x.2.2) z ?_ (λ hFRb_reading_texts_1_J2=>?_)))))))))))))))))))))))))
   ·rintro ⟨x_76,x_77,x_78⟩ H
    exact rz (ck 4 (bx H λ l34 h184 H=>sp (BH A4 11 2 h184) (ck 1 (ae (qN (by cases H;exact og (sg [0,1,3,6])))))))
   refine sr (ck 4 (gsp r51.2 H (λ hg H=>?_) (λ hg H=>?_)))
   ·refine bx H λ s3 h185 H=>xv (xok _ _) hg (DE (λ hh=>hh) (Gq)) 14 h185 (bx H λ r52 h186 H=>xy (xok _ _) hg (DE (λ hh=>hh) (DE (λ hh=>hh) (Gq))) [0,2,3,4,5] (Lj h186) rfl (gc 1 r51.2 (pA (en (cnh H (λ hc86 H=>?_) (λ hc86 H=>?_))))))
    ·exact re (qr (qR (by cases H;exact lo rfl (rl (s':=Ky b2_0_ b6_1_ b7_ o8_ 2 s3 ((b2_0_.length:Nat):Int) 0) (sg [])))))
    ·exact sk (qs (tr (TL 0 (jb1 hg hc86) (by kernel_rfl)) (sg [0,1,3,4,6])) (hFRb_reading_texts_1_J2 (s3,((b2_0_.length:Nat):Int),0) H))
   ·refine gsk hg (.d (.str [])) (gsk hg (.d (.bool false)) (gc 1 r51.2 (pA (en (cn H (λ H=>?_) (λ H=>?_))))))
    ·exact re (qr (qR (by cases H;exact lo rfl (rl (s':=Ky b2_0_ b6_1_ b7_ o8_ 0 x_70 x_71 x_72) (sg [])))))
    ·exact sk (qs (sg [0,1,3,4,6]) (hFRb_reading_texts_1_J2 (x_70,x_71,x_72) H))
 ·exact ex 0 (qx (by cases H;exact xo rfl (sg [])))
theorem Jf {z} (H:B4 n b2_0_ b3_0_ b4_0_ b5_0_ b6_1_ b7_ o8_=some z):BW Try.prog 74 [.yld 0,.ptr 1 0] [some (.lp AZ [3,4,5,6] [.ptr 2 0,.ptr 3 0,.ptr 4 0,.ptr 5 0] 0),some (.box [.ptr 6 0]),some (.box [.d (.sl (b2_0_.map eU8))]),some (.box [.d (.str b3_0_)]),some (.box [.d (.int .i64 b4_0_)]),some (.box [.d (.int .i64 b5_0_)]),some (.box [.ptr 7 0,.d (.sl (b6_1_.map eU8)),.mp 8]),some (.box (Ai b7_ (.osl 9 1 0 (b7_.Accepts.length)))),some (.map true false (AA An eB o8_)),some (.arr 1 (b7_.Accepts.map eB))] 10 (.tup []) [some (.lp AZ [3,4,5,6] [.ptr 2 0,.ptr 3 0,.ptr 4 0,.ptr 5 0] z.1),some (.box [.ptr 6 0]),some (.box [.d (.sl (b2_0_.map eU8))]),some (.box [.d (.str z.2.1)]),some (.box [.d (.int .i64 z.2.2.1)]),some (.box [.d (.int .i64 z.2.2.2)]),some (.box [.ptr 7 0,.d (.sl (b6_1_.map eU8)),.mp 8]),some (.box (Ai b7_ (.osl 10 1 0 (b7_.Accepts.length)))),some (.map true false (AA An eB o8_)),none,some (.arr 1 (b7_.Accepts.map eB))]:=by
 refine fL 81 10 (ZZ b2_0_ b3_0_ b4_0_ b5_0_ b6_1_ b7_ o8_) Try.func74 (sr (ck 1 (en (sr (ck 3 (sF (bx H λ r48 h175 H=>lt [6,7,8,9] (Fx h175) (ck 5 (en (sj (λ (x:((List UInt8)×Int×Int))=>Z0 b2_0_ b6_1_ b7_ o8_ r48 x.1 x.2.1 x.2.2) (λ (x:((List UInt8)×Int×Int))=>Bz n b2_0_ b6_1_ b7_ o8_ r48 x.1 x.2.1 x.2.2) z ?_ (λ hFRb_reading_texts_1_J1=>?_)))))))))))
 ·rintro ⟨x_67,x_68,x_69⟩ H
  refine sr (ck 4 (en (bk 0 (bx H λ y50 h187 H=>?_))))
  rcases y50 with y51|y52
  ·exact lX Eh h187 (sg [0,1,3,6]) rfl λ s hE42=>qH (by cases H;exact pL' (rl (s':=Ky b2_0_ b6_1_ b7_ o8_ 0 y51.1 y51.2.1 y51.2.2) (tr (hE42) (sg []))))
  ·exact lL Eh h187 (sg [0,1,3,6]) rfl λ s hE43=>qR (by cases H;exact pL hE43)
 refine sr (ck 3 (gsp r48.2 H (λ hg H=>?_) (λ hg H=>?_)))
 ·refine bx H λ r53 h188 H=>xy (xok _ _) hg (DE (λ hh=>hh) (Gq)) [0,2,3,4,5] (Lj h188) rfl (gc 1 r48.2 (pA (en (cnh H (λ hc88 H=>?_) (λ hc88 H=>?_)))))
  ·exact re (qr (by cases H;exact pL (rl (s':=Ky b2_0_ b6_1_ b7_ o8_ 2 [] ((b2_0_.length:Nat):Int) 0) (sg []))))
  ·exact sk (qs (tr (tr (TL 0 (jb1 hg hc88) (by kernel_rfl)) (As.nilo 3 1 (by kernel_rfl))) (sg [0,1,3,4])) (hFRb_reading_texts_1_J1 ([],((b2_0_.length:Nat):Int),0) H))
 ·refine gsk hg (.d (.bool false)) (gc 1 r48.2 (pA (en (cn H (λ H=>?_) (λ H=>?_)))))
  ·exact re (qr (by cases H;exact pL (rl (s':=Ky b2_0_ b6_1_ b7_ o8_ 0 b3_0_ b4_0_ b5_0_) (sg []))))
  ·exact sk (qs (tr (As.nilo 3 1 (by kernel_rfl)) (sg [0,1,3,4])) (hFRb_reading_texts_1_J1 (b3_0_,b4_0_,b5_0_) H))
end
section
variable (p0_:Aa) (p1_:(List Int))
def Jeb:St:=⟨(0,.agg [.d (.int .i64 p0_.Modes),.d (.int .u8 p0_.Accept),.d (.sl (p0_.Rules.map Aq))])::(1,.d (.sl (p1_.map eU8)))::[],[]⟩
variable {p0_ p1_}
theorem HK {z} (H:Fi n p0_ p1_=some z):AU Try.prog 41 [.agg (Be p0_),.d (.sl (p1_.map eU8))] (.tup [.d (.str z.1),.d (.int .i64 z.2.1),.d (.int .i64 z.2.2)]):=by
 refine fO 27 (Jeb p0_ p1_) Try.func41 (sr (ck 5 (en (sq (sr (ck 1 (bx H λ r54 h189 H=>ca false (Jc h189) (ck 1 (en (cn H (λ H=>?_) (λ H=>?_)))))))))))
 ·exact sr (ck 3 (en (re (qr (by cases H;exact pr rdT)))))
 ·refine sk (qz (sr (ck 2 (bx H λ r55 h190 H=>lt [] (HJ h190) (ck 5 (en (sq (sr (ck 1 (bx H λ r56 h191 H=>lt [5,6,7,8] (Gf h191) (en (bk 0 (bx H λ r57 h192 H=>rf [.ret] [3,4,5,6] [10,9,1,2,3,4,5,6,7,8] r57.1 (Jf h192) rfl (jn H (λ H=>?_) (λ H=>?_)))))))))))))))
  ·exact qN (qz (sr (ck 5 (en (re (by cases H;exact pr rdT))))))
  ·refine jr 0 H (λ H=>?_) (λ H=>?_)
   ·exact qR (qr (by cases H;exact pr rdT))
   ·cases H
end
noncomputable def Z4 (p1_:(List UInt8)) (b1_0_:Int) (b3_0_:Int) (o5_:(List (List UInt8))) (o6_:(List (List UInt8))):St:=⟨(25,.d (.str p1_))::(5,.ptr 1 0)::(6,.ptr 2 0)::(7,.ptr 3 0)::(10,.ptr 4 0)::[],[some (.lp AH [5,6,7,10] [.ptr 1 0,.ptr 2 0,.ptr 3 0,.ptr 4 0] 0),some (.box [.d (.int .i64 b1_0_)]),some (.box [.osl 5 1 0 (o5_.length)]),some (.box [.d (.int .i64 b3_0_)]),some (.box [.osl 6 1 0 (o6_.length)]),some (.arr 1 (o5_.map eS)),some (.arr 1 (o6_.map eS))]⟩
noncomputable def TT (b1_0_:Int) (x_79:Int) (x_80:(List (List UInt8))) (x_81:(List (List UInt8))):St:=⟨[],[some (.lp AH [5,6,7,10] [.ptr 1 0,.ptr 2 0,.ptr 3 0,.ptr 4 0] 1),some (.box [.d (.int .i64 b1_0_)]),some (.box [.osl 7 1 0 (x_80.length)]),some (.box [.d (.int .i64 x_79)]),some (.box [.osl 8 1 0 (x_81.length)]),none,none,some (.arr 1 (x_80.map eS)),some (.arr 1 (x_81.map eS))]⟩
section
variable (p1_:(List UInt8)) (b1_0_:Int) (b3_0_:Int) (o5_:(List (List UInt8))) (o6_:(List (List UInt8)))
variable {p1_ b1_0_ b3_0_ o5_ o6_}
theorem Kz {z} (H:DT n p1_ b1_0_ b3_0_ o5_ o6_=some z):ND Try.prog [.d (.str p1_)] [some (.lp AH [5,6,7,10] [.ptr 1 0,.ptr 2 0,.ptr 3 0,.ptr 4 0] 0),some (.box [.d (.int .i64 b1_0_)]),some (.box [.osl 5 1 0 (o5_.length)]),some (.box [.d (.int .i64 b3_0_)]),some (.box [.osl 6 1 0 (o6_.length)]),some (.arr 1 (o5_.map eS)),some (.arr 1 (o6_.map eS))] 7 z.1 [some (.lp AH [5,6,7,10] [.ptr 1 0,.ptr 2 0,.ptr 3 0,.ptr 4 0] z.1),some (.box [.d (.int .i64 b1_0_)]),some (.box [.osl 7 1 0 (z.2.2.1.length)]),some (.box [.d (.int .i64 z.2.1)]),some (.box [.osl 8 1 0 (z.2.2.2.length)]),none,none,some (.arr 1 (z.2.2.1.map eS)),some (.arr 1 (z.2.2.2.map eS))]:=by
 refine fk (C:=AD Try.f43) (p:=[1,1,1,1,1,0,1,0]) 35 [25] [.ret] (ts:=[5,6,7,10]) (vs:=[.ptr 1 0,.ptr 2 0,.ptr 3 0,.ptr 4 0]) (Z4 p1_ b1_0_ b3_0_ o5_ o6_) follows (VU 35 7) (rz (ck 1 (ae (aq (js:=[.ret]) (bk 1 (sq (sr (ck 4 (en (cn H (λ H=>?_) (λ H=>?_)))))))))))
 ·exact sr (ck 2 (en (re (qr (qR (by cases H;exact rq (s':=TT b1_0_ 2 ([]:List (List UInt8)) o6_) (tr (tr (tr (CX 2 0 1 (by kernel_rfl)) (BM (k:=6) (sz:=1) 4 0 (o6_.map eS) (o6_.length) (by kernel_rfl) Bf leM rfl)) (VO 5 rfl)) (sg []))))))))
 ·exact sk (qz (rz (ck 3 (bx H λ l35 h193 H=>sp (BH eS 6 1 h193) (ck 1 (ae (qN (by cases H;exact rq (s':=TT b1_0_ b3_0_ o5_ l35) (tr (BM (k:=5) (sz:=1) 2 0 (o5_.map eS) (o5_.length) (by kernel_rfl) Bf leM rfl) (sg []))))))))))
end
end Go.AI
end
section
namespace Go.AI
open Go.Proofs
set_option maxRecDepth 10000
variable {n:Nat}
section
variable (b2_0_:Int) (b4_0_:Int) (b6_1_:(List Int)) (b9_:Am) (o7_:(List (List UInt8))) (o8_:(List (List UInt8))) (o10_:(List (Ae×Bool))) (j_3:Nat) (x_82:Int) (x_83:(List (List UInt8))) (x_84:(List (List UInt8))) (r58:((List Ac)×Bool)) (x_85:Int) (x_86:(List (List UInt8))) (x_87:(List (List UInt8))) (x_88:Int) (text_2:(List Int)) (stack_2:(List AS)) (x_89:(List (List UInt8))) (x_90:(List (List UInt8))) (x_91:Int) (x_92:(List (List UInt8))) (x_93:(List (List UInt8))) (l38:(List AS)) (l39:(List Int)) (r61:((List Ac)×Bool)) (x_94:Int) (x_95:(List (List UInt8))) (x_96:(List (List UInt8)))
noncomputable def Z5:St:=⟨(0,.yld 0)::(1,.ptr 1 0)::[],[some (.lp AH [5,6,7,10] [.ptr 2 0,.ptr 3 0,.ptr 4 0,.ptr 5 0] 0),some (.box [.ptr 6 0]),some (.box [.d (.int .i64 b2_0_)]),some (.box [.osl 7 1 0 (o7_.length)]),some (.box [.d (.int .i64 b4_0_)]),some (.box [.osl 8 1 0 (o8_.length)]),some (.box [.ptr 9 0,.d (.sl (b6_1_.map eU8)),.mp 10]),some (.arr 1 (o7_.map eS)),some (.arr 1 (o8_.map eS)),some (.box (Ai b9_ (.osl 11 1 0 (b9_.Accepts.length)))),some (.map true false (AA An eB o10_)),some (.arr 1 (b9_.Accepts.map eB))]⟩
noncomputable def KA:St:=⟨[],[some (.lp AH [5,6,7,10] [.ptr 2 0,.ptr 3 0,.ptr 4 0,.ptr 5 0] j_3),some (.box [.ptr 6 0]),some (.box [.d (.int .i64 b2_0_)]),some (.box [.osl 12 1 0 (x_83.length)]),some (.box [.d (.int .i64 x_82)]),some (.box [.osl 13 1 0 (x_84.length)]),some (.box [.ptr 9 0,.d (.sl (b6_1_.map eU8)),.mp 10]),none,none,some (.box (Ai b9_ (.osl 14 1 0 (b9_.Accepts.length)))),some (.map true false (AA An eB o10_)),none,some (.arr 1 (x_83.map eS)),some (.arr 1 (x_84.map eS)),some (.arr 1 (b9_.Accepts.map eB))]⟩
noncomputable def Z6:St:=⟨(0,.yld 0)::(1,.ptr 1 0)::(3,.osl 12 1 0 (List.length ([]:List Int)))::(4,.d (.sl (r58.1.map Ag)))::[],[some (.lp AH [5,6,7,10] [.ptr 2 0,.ptr 3 0,.ptr 4 0,.ptr 5 0] 0),some (.box [.ptr 6 0]),some (.box [.d (.int .i64 b2_0_)]),some (.box [.osl 13 1 0 (x_86.length)]),some (.box [.d (.int .i64 x_85)]),some (.box [.osl 14 1 0 (x_87.length)]),some (.box [.ptr 9 0,.d (.sl (b6_1_.map eU8)),.mp 10]),none,none,some (.box (Ai b9_ (.osl 15 1 0 (b9_.Accepts.length)))),some (.map true false (AA An eB o10_)),none,some (.arr 1 (List.map eU8 ([]:List Int))),some (.arr 1 (x_86.map eS)),some (.arr 1 (x_87.map eS)),some (.arr 1 (b9_.Accepts.map eB))]⟩
noncomputable def Z7:St:=⟨(0,.yld 0)::(1,.ptr 1 0)::(3,.osl 12 1 0 (text_2.length))::(6,.osl 13 2 0 (stack_2.length))::[],[some (.lp AH [5,6,7,10] [.ptr 2 0,.ptr 3 0,.ptr 4 0,.ptr 5 0] 0),some (.box [.ptr 6 0]),some (.box [.d (.int .i64 b2_0_)]),some (.box [.osl 14 1 0 (x_89.length)]),some (.box [.d (.int .i64 x_88)]),some (.box [.osl 15 1 0 (x_90.length)]),some (.box [.ptr 9 0,.d (.sl (b6_1_.map eU8)),.mp 10]),none,none,some (.box (Ai b9_ (.osl 16 1 0 (b9_.Accepts.length)))),some (.map true false (AA An eB o10_)),none,some (.arr 1 (text_2.map eU8)),some (.arr 2 (stack_2.map A4)),some (.arr 1 (x_89.map eS)),some (.arr 1 (x_90.map eS)),some (.arr 1 (b9_.Accepts.map eB))]⟩
noncomputable def Z8:St:=⟨[],[some (.lp AH [5,6,7,10] [.ptr 2 0,.ptr 3 0,.ptr 4 0,.ptr 5 0] 0),some (.box [.ptr 6 0]),some (.box [.d (.int .i64 b2_0_)]),some (.box [.osl 12 1 0 (x_92.length)]),some (.box [.d (.int .i64 x_91)]),some (.box [.osl 13 1 0 (x_93.length)]),some (.box [.ptr 9 0,.d (.sl (b6_1_.map eU8)),.mp 10]),none,none,some (.box (Ai b9_ (.osl 14 1 0 (b9_.Accepts.length)))),some (.map true false (AA An eB o10_)),none,some (.arr 1 (x_92.map eS)),some (.arr 1 (x_93.map eS)),some (.arr 1 (b9_.Accepts.map eB))]⟩
noncomputable def Z9:St:=⟨(0,.yld 0)::(1,.ptr 1 0)::(3,.osl 12 1 0 (l39.length))::(4,.d (.sl (r61.1.map Ag)))::(6,.osl 13 2 0 (l38.length))::[],[some (.lp AH [5,6,7,10] [.ptr 2 0,.ptr 3 0,.ptr 4 0,.ptr 5 0] 0),some (.box [.ptr 6 0]),some (.box [.d (.int .i64 b2_0_)]),some (.box [.osl 14 1 0 (x_95.length)]),some (.box [.d (.int .i64 x_94)]),some (.box [.osl 15 1 0 (x_96.length)]),some (.box [.ptr 9 0,.d (.sl (b6_1_.map eU8)),.mp 10]),none,none,some (.box (Ai b9_ (.osl 16 1 0 (b9_.Accepts.length)))),some (.map true false (AA An eB o10_)),none,some (.arr 1 (l39.map eU8)),some (.arr 2 (l38.map A4)),some (.arr 1 (x_95.map eS)),some (.arr 1 (x_96.map eS)),some (.arr 1 (b9_.Accepts.map eB))]⟩
noncomputable def Hq:((Int×(List (List UInt8))×(List (List UInt8)))⊕(Nat×Int×(List (List UInt8))×(List (List UInt8))))->Ex->St->Prop:=xS (xX 12 0 (λ (y:(Int×(List (List UInt8))×(List (List UInt8))))=>Z8 b2_0_ b6_1_ b9_ o10_ y.1 y.2.1 y.2.2)) (xL 12 ty Try.f74 (λ (y:(Nat×Int×(List (List UInt8))×(List (List UInt8))))=>.tup []) (λ (y:(Nat×Int×(List (List UInt8))×(List (List UInt8))))=>[some (.lp AH [5,6,7,10] [.ptr 2 0,.ptr 3 0,.ptr 4 0,.ptr 5 0] y.1),some (.box [.ptr 6 0]),some (.box [.d (.int .i64 b2_0_)]),some (.box [.osl 12 1 0 (y.2.2.1.length)]),some (.box [.d (.int .i64 y.2.1)]),some (.box [.osl 13 1 0 (y.2.2.2.length)]),some (.box [.ptr 9 0,.d (.sl (b6_1_.map eU8)),.mp 10]),none,none,some (.box (Ai b9_ (.osl 14 1 0 (b9_.Accepts.length)))),some (.map true false (AA An eB o10_)),none,some (.arr 1 (y.2.2.1.map eS)),some (.arr 1 (y.2.2.2.map eS)),some (.arr 1 (b9_.Accepts.map eB))]))
noncomputable def Ei:(Int×(List Int)×(List AS)×(List (List UInt8))×(List (List UInt8)))->St:=(λ (x:(Int×(List Int)×(List AS)×(List (List UInt8))×(List (List UInt8))))=>Z7 b2_0_ b6_1_ b9_ o10_ x.1 x.2.1 x.2.2.1 x.2.2.2.1 x.2.2.2.2)
variable {b2_0_ b4_0_ b6_1_ b9_ o7_ o8_ o10_ j_3 x_82 x_83 x_84 r58 x_85 x_86 x_87 x_88 text_2 stack_2 x_89 x_90 x_91 x_92 x_93 l38 l39 r61 x_94 x_95 x_96}
theorem DV (x:(Int×(List Int)×(List AS)×(List (List UInt8))×(List (List UInt8)))) (z:((Int×(List Int)×(List AS)×(List (List UInt8))×(List (List UInt8)))⊕((Int×(List (List UInt8))×(List (List UInt8)))⊕(Nat×Int×(List (List UInt8))×(List (List UInt8)))))) (H:A2 n b2_0_ b6_1_ b9_ o10_ x.1 x.2.1 x.2.2.1 x.2.2.2.1 x.2.2.2.2=some z):WP (cxk 81 12) (AD Try.f74) [1,1,1,1,0,0] (AP 12 (Ei b2_0_ b6_1_ b9_ o10_) (Hq b2_0_ b6_1_ b9_ o10_) z) (Ei b2_0_ b6_1_ b9_ o10_ x):=by
 obtain ⟨x_88,text_2,stack_2,x_89,x_90⟩:=x
 refine sq (sr (ck 3 (en (cn H (λ H=>?_) (λ H=>?_)))))
 ·refine sk (qz (bk 1 (sr (ck 4 (bx H λ x56 h195 H=>sp (Bo 13 2 h195) (ck 1 (en (sr (ck 1 (bx H λ r59 h196 H=>cb (ks:=[13]) (obl:=[(0+Int.toNat (DD .i64 ((stack_2.length:Nat):Int) 1)+1,List.length (stack_2.map A4))]) false (leK (JfB (enc:=A4) h195) (leZ)) (Ef (Jca h195) rfl) (Gx h196) (Or.inr trivial) rfl (ck 1 (en (sq (sr (ck 2 (en (cn H (λ H=>?_) (λ H=>?_))))))))))))))))))
  ·exact sr (ck 4 (bx H λ l36 h197 H=>sp (HU 13 2 h197) (ck 1 (en (sq (rg (LA (k:=13) (sz:=2) 6 (l36.map A4) (l36.length) (by kernel_rfl) (FS h197) (HT (enc:=A4) h197) (FT h197)) (ck 5 (bx H λ l37 h198 H=>sp (HU 12 1 h198) (ck 1 (en (ex 1 (qx (qH (by cases H;exact og (tr (LA (k:=12) (sz:=1) 3 (l37.map eU8) (l37.length) (by kernel_rfl) (FS h198) (HT (enc:=eU8) h198) (FT h198)) (sg [0,1,3,6]))))))))))))))))
  ·refine sk (qz (sr (ck 5 (bx H λ l38 h199 H=>stA A4 13 1 (ty 3) h195 h199 (en (sq (rg (tr (tr (tr (sn 6 13 2 (De h199)) (sn 26 13 2 (De h199))) (sn 29 13 2 (De h199))) (sn 30 13 2 (De h199))) (ck 4 (bx H λ l39 h200 H=>sp (BH eU8 12 1 h200) (ck 1 (en (sq (rx 4 5 (.refl _) (ck 4 (bx H λ r60 h201 H=>xs (xok _ _) (g:=true) rfl (Gq) [13] (Fy h201) rfl (mx (bx H λ r61 h202 H=>lt [6,19,9,10,16] (Fn h202) (nx 11 10 (ck 4 (mx (ck 1 (nz (qz (sj (λ (x:(Int×(List (List UInt8))×(List (List UInt8))))=>Z9 b2_0_ b6_1_ b9_ o10_ l38 l39 r61 x.1 x.2.1 x.2.2) (λ (x:(Int×(List (List UInt8))×(List (List UInt8))))=>Ba n l38 l39 r61 x.1 x.2.1 x.2.2) z ?_ (λ hFRb_reading_texts_1x_J2=>?_)))))))))))))))))))))))))
   ·rintro ⟨x_94,x_95,x_96⟩ H
    exact rz (ck 4 (bx H λ l40 h203 H=>sp (BH A4 13 2 h203) (ck 1 (ae (qN (by cases H;exact og (sg [0,1,3,6])))))))
   refine sr (ck 4 (gsp r61.2 H (λ hg H=>?_) (λ hg H=>?_)))
   ·refine bx H λ s4 h204 H=>xv (xok _ _) hg (DE (λ hh=>hh) (Gq)) 18 h204 (bx H λ r62 h205 H=>xy (xok _ _) hg (DE (λ hh=>hh) (DE (λ hh=>hh) (Gq))) [0,2,3,4,5,14,15] (Kz h205) rfl (gc 1 r61.2 (pA (en (cnh H (λ hc94 H=>?_) (λ hc94 H=>?_))))))
    ·exact re (qr (qR (by cases H;exact lo rfl (rl (s':=KA b2_0_ b6_1_ b9_ o10_ r62.1 r62.2.1 r62.2.2.1 r62.2.2.2) (sg [])))))
    ·exact sk (qs (tr (TL 0 (jb1 hg hc94) (by kernel_rfl)) (sg [0,1,3,4,6])) (hFRb_reading_texts_1x_J2 (r62.2.1,r62.2.2.1,r62.2.2.2) H))
   ·refine gsk hg (.d (.str [])) (gsk hg (.d (.bool false)) (gc 1 r61.2 (pA (en (cn H (λ H=>?_) (λ H=>?_))))))
    ·exact re (qr (qR (by cases H;exact lo rfl (rl (s':=KA b2_0_ b6_1_ b9_ o10_ 0 x_88 x_89 x_90) (sg [])))))
    ·exact sk (qs (sg [0,1,3,4,6]) (hFRb_reading_texts_1x_J2 (x_88,x_89,x_90) H))
 ·exact ex 0 (qx (by cases H;exact xo rfl (sg [])))
theorem IB {z} (H:BT n b2_0_ b4_0_ b6_1_ b9_ o7_ o8_ o10_=some z):BW Try.prog 74 [.yld 0,.ptr 1 0] [some (.lp AH [5,6,7,10] [.ptr 2 0,.ptr 3 0,.ptr 4 0,.ptr 5 0] 0),some (.box [.ptr 6 0]),some (.box [.d (.int .i64 b2_0_)]),some (.box [.osl 7 1 0 (o7_.length)]),some (.box [.d (.int .i64 b4_0_)]),some (.box [.osl 8 1 0 (o8_.length)]),some (.box [.ptr 9 0,.d (.sl (b6_1_.map eU8)),.mp 10]),some (.arr 1 (o7_.map eS)),some (.arr 1 (o8_.map eS)),some (.box (Ai b9_ (.osl 11 1 0 (b9_.Accepts.length)))),some (.map true false (AA An eB o10_)),some (.arr 1 (b9_.Accepts.map eB))] 12 (.tup []) [some (.lp AH [5,6,7,10] [.ptr 2 0,.ptr 3 0,.ptr 4 0,.ptr 5 0] z.1),some (.box [.ptr 6 0]),some (.box [.d (.int .i64 b2_0_)]),some (.box [.osl 12 1 0 (z.2.2.1.length)]),some (.box [.d (.int .i64 z.2.1)]),some (.box [.osl 13 1 0 (z.2.2.2.length)]),some (.box [.ptr 9 0,.d (.sl (b6_1_.map eU8)),.mp 10]),none,none,some (.box (Ai b9_ (.osl 14 1 0 (b9_.Accepts.length)))),some (.map true false (AA An eB o10_)),none,some (.arr 1 (z.2.2.1.map eS)),some (.arr 1 (z.2.2.2.map eS)),some (.arr 1 (b9_.Accepts.map eB))]:=by
 refine fL 81 12 (Z5 b2_0_ b4_0_ b6_1_ b9_ o7_ o8_ o10_) Try.func74 (sr (ck 1 (en (sr (ck 3 (sF (bx H λ r58 h194 H=>lt [6,9,10,11] (Fx h194) (ck 5 (en (sj (λ (x:(Int×(List (List UInt8))×(List (List UInt8))))=>Z6 b2_0_ b6_1_ b9_ o10_ r58 x.1 x.2.1 x.2.2) (λ (x:(Int×(List (List UInt8))×(List (List UInt8))))=>Bb n b2_0_ b6_1_ b9_ o10_ r58 x.1 x.2.1 x.2.2) z ?_ (λ hFRb_reading_texts_1x_J1=>?_)))))))))))
 ·rintro ⟨x_85,x_86,x_87⟩ H
  refine sr (ck 4 (en (bk 0 (bx H λ y53 h206 H=>?_))))
  rcases y53 with y54|y55
  ·exact lX DV h206 (sg [0,1,3,6]) rfl λ s hE44=>qH (by cases H;exact pL' (rl (s':=KA b2_0_ b6_1_ b9_ o10_ 0 y54.1 y54.2.1 y54.2.2) (tr (hE44) (sg []))))
  ·exact lL DV h206 (sg [0,1,3,6]) rfl λ s hE45=>qR (by cases H;exact pL hE45)
 refine sr (ck 3 (gsp r58.2 H (λ hg H=>?_) (λ hg H=>?_)))
 ·refine bx H λ r63 h207 H=>xy (xok _ _) hg (DE (λ hh=>hh) (Gq)) [0,2,3,4,5,7,8] (Kz h207) rfl (gc 1 r58.2 (pA (en (cnh H (λ hc96 H=>?_) (λ hc96 H=>?_)))))
  ·exact re (qr (by cases H;exact pL (rl (s':=KA b2_0_ b6_1_ b9_ o10_ r63.1 r63.2.1 r63.2.2.1 r63.2.2.2) (sg []))))
  ·exact sk (qs (tr (tr (TL 0 (jb1 hg hc96) (by kernel_rfl)) (As.nilo 3 1 (by kernel_rfl))) (sg [0,1,3,4])) (hFRb_reading_texts_1x_J1 (r63.2.1,r63.2.2.1,r63.2.2.2) H))
 ·refine gsk hg (.d (.bool false)) (gc 1 r58.2 (pA (en (cn H (λ H=>?_) (λ H=>?_)))))
  ·exact re (qr (by cases H;exact pL (rl (s':=KA b2_0_ b6_1_ b9_ o10_ 0 b4_0_ o7_ o8_) (tr (tr (BM (k:=7) (sz:=1) 3 0 (o7_.map eS) (o7_.length) (by kernel_rfl) Bf leM rfl) (BM (k:=8) (sz:=1) 5 0 (o8_.map eS) (o8_.length) (by kernel_rfl) Bf leM rfl)) (sg [])))))
  ·exact sk (qs (tr (tr (tr (As.nilo 3 1 (by kernel_rfl)) (BM (k:=7) (sz:=1) 3 0 (o7_.map eS) (o7_.length) (by kernel_rfl) Bf leM rfl)) (BM (k:=8) (sz:=1) 5 0 (o8_.map eS) (o8_.length) (by kernel_rfl) Bf leM rfl)) (sg [0,1,3,4])) (hFRb_reading_texts_1x_J1 (b4_0_,o7_,o8_) H))
end
section
variable (p0_:Aa) (p1_:(List Int)) (p2_:Int)
def Jec:St:=⟨(0,.agg [.d (.int .i64 p0_.Modes),.d (.int .u8 p0_.Accept),.d (.sl (p0_.Rules.map Aq))])::(1,.d (.sl (p1_.map eU8)))::(2,.d (.int .i64 p2_))::[],[]⟩
variable {p0_ p1_ p2_}
theorem Fp {z} (H:Dv n p0_ p1_ p2_=some z):AU Try.prog 43 [.agg (Be p0_),.d (.sl (p1_.map eU8)),.d (.int .i64 p2_)] (.tup [.own 1 (z.1.map eS),.d (.int .i64 z.2)]):=by
 refine fO 35 (Jec p0_ p1_ p2_) Try.func43 (sr (ck 4 (en (sq (sr (ck 2 (en (cn H (λ H=>?_) (λ H=>?_)))))))))
 ·exact sr (ck 2 (en (re (qr (by cases H;exact pr (rT (vs:=[.d (.nil),.d (.int .i64 1)]) [] (t1 (ad vz) (t1 (ad vd) (t0)))))))))
 ·refine sk (qz (sq (sr (ck 1 (bx H λ r64 h208 H=>ca false (Jc h208) (ck 1 (en (cn H (λ H=>?_) (λ H=>?_)))))))))
  ·exact sr (ck 2 (en (re (qr (by cases H;exact pr (rT (vs:=[.d (.nil),.d (.int .i64 0)]) [] (t1 (ad vz) (t1 (ad vd) (t0)))))))))
  ·refine sk (qz (sr (ck 2 (bx H λ r65 h209 H=>lt [] (HJ h209) (ck 5 (en (sr (ck 1 (en (sq (sr (ck 1 (bx H λ r66 h210 H=>lt [4,5,6,7] (Gf h210) (en (bk 0 (wsh (tr (CX 2 0 1 (by kernel_rfl)) (CX 8 0 1 (by kernel_rfl))) (bx H λ r67 h211 H=>rf [.ret] [5,6,7,10] [12,9,1,2,3,8,4,10,11,5,6,7] r67.1 (IB h211) rfl (jn H (λ H=>?_) (λ H=>?_)))))))))))))))))))
   ·exact qN (qz (sr (ck 3 (en (re (by cases H;exact pr (rT (vs:=[.osl 14 1 0 (r67.2.2.2.length),.d (.int .i64 0)]) [14] (t1 (ao vo) (t1 (ad vd) (t0))))))))))
   ·refine jr 0 H (λ H=>?_) (λ H=>?_)
    ·exact qR (qr (by cases H;exact pr (rT (vs:=[.osl 13 1 0 (r67.2.2.1.length),.d (.int .i64 r67.2.1)]) [13] (t1 (ao vo) (t1 (ad vd) (t0))))))
    ·cases H
end
section
variable (p0_:(List (List UInt8))) (p1_:(List (List UInt8))) (i_3:Int)
def Jed:St:=⟨(0,.d (.sl (p0_.map eS)))::(1,.d (.sl (p1_.map eS)))::[],[]⟩
def Jee:St:=⟨(0,.d (.sl (p0_.map eS)))::(1,.d (.sl (p1_.map eS)))::(5,.d (.int .i64 i_3))::[],[]⟩
def Jef:St:=⟨[],[]⟩
def M5:(Unit⊕Bool)->Ex->St->Prop:=xS (xX 0 0 (λ (y:Unit)=>Jef)) (xR ty Try.f45 (λ (y:Bool)=>.d (.bool y)))
def IC:Int->St:=(λ (x:Int)=>Jee p0_ p1_ x)
variable {p0_ p1_ i_3}
theorem HL (x:Int) (z:(Int⊕(Unit⊕Bool))) (H:CH n p0_ p1_ x=some z):WP (cxk 26 0) (AD Try.f45) [1,1,0,1,0,0] (AP 0 (IC p0_ p1_) (M5) z) (IC p0_ p1_ x):=by
 revert H
 generalize x=i_3
 intro H
 refine sq (sr (ck 2 (sp (AC eS p0_) (ck 1 (en (cn H (λ H=>?_) (λ H=>?_)))))))
 ·refine sk (qz (sq (bk 1 (sr (ck 2 (bx H λ x57 h212 H=>sp (AN eS h212) (ck 3 (bx H λ x58 h213 H=>sp (AN eS h213) (ck 2 (en (cn H (λ H=>?_) (λ H=>?_))))))))))))
  ·exact sr (ck 1 (en (re (qR (qr (by cases H;exact ro rfl rd))))))
  ·exact sk (qN (qz (rz (ck 3 (ae (by cases H;exact og (sg [0,1,5])))))))
 ·exact ex 0 (qx (by cases H;exact xo rfl (sg [])))
theorem KB {z} (H:DU n p0_ p1_=some z):AU Try.prog 45 [.d (.sl (p0_.map eS)),.d (.sl (p1_.map eS))] (.d (.bool z)):=by
 refine fO 26 (Jed p0_ p1_) Try.func45 (sr (ck 1 (en (sq (sr (ck 1 (sp (AC eS p0_) (ck 1 (sp (AC eS p1_) (ck 1 (en (cn H (λ H=>?_) (λ H=>?_)))))))))))))
 ·exact sr (ck 1 (en (re (qr (by cases H;exact pr rd)))))
 ·refine sk (qz (sq (sr (ck 1 (en (bk 0 (bx H λ y56 h214 H=>?_)))))))
  rcases y56 with y57|y58
  ·exact lX HL h214 (sg [0,1,5]) rfl λ s hE46=>qH (qs (hE46) (sr (ck 1 (en (re (by cases H;exact pr rd))))))
  ·exact lR HL h214 (sg [0,1,5]) rfl λ s hE47=>qR (qr (by cases H;exact pr hE47))
end
section
variable (p0_:Aa) (p1_:(List Int))
def Jeg:St:=⟨(0,.agg [.d (.int .i64 p0_.Modes),.d (.int .u8 p0_.Accept),.d (.sl (p0_.Rules.map Aq))])::(1,.d (.sl (p1_.map eU8)))::[],[]⟩
variable {p0_ p1_}
theorem NH {z} (H:Kf n p0_ p1_=some z):AU Try.prog 46 [.agg (Be p0_),.d (.sl (p1_.map eU8))] (.d (.bool z)):=by
 refine fO 21 (Jeg p0_ p1_) Try.func46 (sr (ck 2 (en (sq (sr (ck 1 (bx H λ r68 h215 H=>ca false (Jc h215) (ck 1 (en (cn H (λ H=>?_) (λ H=>?_)))))))))))
 ·exact sr (ck 1 (en (re (qr (by cases H;exact pr rd)))))
 ·exact sk (qz (sr (ck 1 (bx H λ r69 h216 H=>lt [] (JE h216) (ck 1 (bx H λ r70 h217 H=>lt [1,2] (Hb h217) (tb (f:=G0 (DG [1,2] 3 2)) [some (.box (Be p0_)),some (.box (Ai r69 (.osl 2 1 0 (r69.Accepts.length)))),some (.arr 1 (r69.Accepts.map eB)),some (.narr 1 (r70.1.map (eTg 1 Au)))] (po1 (po1 (po1 (pn1 (eTg 1 Au) r70.1 (Pl.z))))) (ck 5 (en (sr (ck 2 (sp (AC eU8 p1_) (ck 2 (en (re (by cases H;exact pr rd))))))))))))))))
end
def Jeh:St:=⟨[],[]⟩
theorem Qo {z} (H:G8 n=some z):AU Try.prog 39 [] (.d (.bool z)):=by
 exact fO 119 Jeh Try.func39 (sr (ck 1 (en (sr (bx H λ r71 h218 H=>ca false (Ql h218) (ck 2 (en (sr (ck 2 (bx H λ r72 h219 H=>cb (ks:=[1]) (obl:=[(0+List.length [1,3],List.length (List.map eU8 [1,3]))]) false (leK leM (leZ)) (Ef rfl (Ef NB rfl)) (HK h219) (Or.inr ⟨trivial,⟨trivial,⟨trivial,trivial⟩⟩⟩) rfl (ck 7 (en (sr (ck 2 (bx H λ r73 h220 H=>cb (ks:=[2]) (obl:=[(0+List.length [1,5],List.length (List.map eU8 [1,5]))]) false (leK leM (leZ)) (Ef rfl (Ef NB rfl)) (HK h220) (Or.inr ⟨trivial,⟨trivial,⟨trivial,trivial⟩⟩⟩) rfl (ck 7 (en (sr (ck 1 (bx H λ r74 h221 H=>ca false (HK h221) (ck 7 (en (sr (ck 2 (bx H λ r75 h222 H=>cb (ks:=[3]) (obl:=[(0+List.length [1,1],List.length (List.map eU8 [1,1]))]) false (leK leM (leZ)) (Ef rfl (Ef NB (Ef rfl rfl))) (Fp h222) (Or.inr ⟨(JfA λ _=>rfl),⟨trivial,trivial⟩⟩) rfl (ck 5 (en (sr (ck 2 (bx H λ r76 h223 H=>cb (ks:=[4]) (obl:=[(0+List.length [1,1],List.length (List.map eU8 [1,1]))]) false (leK leM (leZ)) (Ef rfl (Ef NB (Ef rfl rfl))) (Fp h223) (Or.inr ⟨(JfA λ _=>rfl),⟨trivial,trivial⟩⟩) rfl (ck 5 (en (sr (ck 1 (bx H λ r77 h224 H=>ca false (Fp h224) (ck 5 (en (sr (ck 4 (gc 1 (r72.2.2==0) (pA (ck 2 (gc 1 ((r72.2.2==0)&&(r73.2.2==40)) (pA (ck 2 (gc 1 (((r72.2.2==0)&&(r73.2.2==40))&&(r74.2.2==0)) (pA (ck 2 (gc 1 ((((r72.2.2==0)&&(r73.2.2==40))&&(r74.2.2==0))&&(r75.2==0)) (pA (ck 2 (gc 1 (((((r72.2.2==0)&&(r73.2.2==40))&&(r74.2.2==0))&&(r75.2==0))&&(r76.2==2)) (pA (ck 1 (en (sr (ck 3 (gc 1 ((((((r72.2.2==0)&&(r73.2.2==40))&&(r74.2.2==0))&&(r75.2==0))&&(r76.2==2))&&(r77.2==1)) (pA (ck 2 (gc 1 (((((((r72.2.2==0)&&(r73.2.2==40))&&(r74.2.2==0))&&(r75.2==0))&&(r76.2==2))&&(r77.2==1))&&(r72.1==[97,98])) (pA (ck 2 (gc 1 ((((((((r72.2.2==0)&&(r73.2.2==40))&&(r74.2.2==0))&&(r75.2==0))&&(r76.2==2))&&(r77.2==1))&&(r72.1==[97,98]))&&(r72.2.1==2)) (pA (ck 2 (gc 1 (((((((((r72.2.2==0)&&(r73.2.2==40))&&(r74.2.2==0))&&(r75.2==0))&&(r76.2==2))&&(r77.2==1))&&(r72.1==[97,98]))&&(r72.2.1==2))&&(r73.1==[])) (pA (ck 2 (gc 1 ((((((((((r72.2.2==0)&&(r73.2.2==40))&&(r74.2.2==0))&&(r75.2==0))&&(r76.2==2))&&(r77.2==1))&&(r72.1==[97,98]))&&(r72.2.1==2))&&(r73.1==[]))&&(r73.2.1==1)) (pA (ck 2 (gc 1 (((((((((((r72.2.2==0)&&(r73.2.2==40))&&(r74.2.2==0))&&(r75.2==0))&&(r76.2==2))&&(r77.2==1))&&(r72.1==[97,98]))&&(r72.2.1==2))&&(r73.1==[]))&&(r73.2.1==1))&&(r74.1==[])) (pA (ck 3 (bx H λ r78 h225 H=>cG (ks:=[5]) (obl:=[(0+List.length ([[97,97],[97,98,97],[98,97,97],[98,97,98,97]]),List.length (List.map eS ([[97,97],[97,98,97],[98,97,97],[98,97,98,97]])))]) false (leK leM (leZ)) (Ef rfl (Ef NB rfl)) (λ hg=>KB (F7 h225 hg)) (Or.inr trivial) (DE (λ hh=>hh) (DE (λ hh=>hh) (Gq))) rfl (pA (ck 3 (bx H λ r79 h226 H=>cG (ks:=[6]) (obl:=[(0+List.length [7,7],List.length (List.map eU8 [7,7]))]) false (leK leM (leZ)) (Ef rfl (Ef NB rfl)) (λ hg=>NH (F7 h226 hg)) (Or.inr trivial) (DE (λ hh=>hh) (DE (λ hh=>hh) (Gq))) rfl (pA (ck 3 (bx H λ r80 h227 H=>cG (ks:=[7]) (obl:=[(0+List.length [2],List.length (List.map eU8 [2]))]) false (leK leM (leZ)) (Ef rfl (Ef NB rfl)) (λ hg=>NH (F7 h227 hg)) (Or.inr trivial) (DE (λ hh=>hh) (DE (λ hh=>hh) (Gq))) rfl (gc 1 ((((((((((((((r72.2.2==0)&&(r73.2.2==40))&&(r74.2.2==0))&&(r75.2==0))&&(r76.2==2))&&(r77.2==1))&&(r72.1==[97,98]))&&(r72.2.1==2))&&(r73.1==[]))&&(r73.2.1==1))&&(r74.1==[]))&&(r74.2.1==0))&&r78)&&r79) (pA (ck 1 (en (re (by cases H;exact pr rd))))))))))))))))))))))))))))))))))))))))))))))))))))))))))))))))))))))))))))))))))))))))
section
variable (p0_:(List UInt8)) (p1_:(List Int)) (p2_:(Fa Int))
def Jei:St:=⟨(0,.d (.str p0_))::(1,.d (.sl (p1_.map eU8)))::(2,.agg [.d (.int .i64 p2_.a0),.d (.int .i64 p2_.a1)])::[],[]⟩
variable {p0_ p1_ p2_}
theorem AF {z} (H:A0 n p0_ p1_ p2_=some z):AU Try.prog 68 [.d (.str p0_),.d (.sl (p1_.map eU8)),.agg [.d (.int .i64 p2_.a0),.d (.int .i64 p2_.a1)]] (.agg [.d (.str z.Print),.d (.sl (z.Cells.map eU8)),.d (.int .u8 z.Left),.d (.int .u8 z.Right),.d (.int .i64 z.From),.d (.int .i64 z.To)]):=by
 exact fO 14 (Jei p0_ p1_ p2_) Try.func68 (sr (ck 2 (en (sr (ck 8 (en (re (by cases H;exact pr rd))))))))
end
def Jej:St:=⟨[],[]⟩
theorem PK {z} (H:NE n=some z):AU Try.prog 66 [] (.own 6 (z.map Aq)):=by
 exact fO 16 Jej Try.func66 (sr (ck 1 (en (sr (ck 3 (en (sr (sF (ck 1 (bx H λ r81 h228 H=>ca false (AF h228) (sF (ck 1 (bx H λ r82 h229 H=>ca false (AF h229) (sF (ck 1 (bx H λ r83 h230 H=>ca false (AF h230) (sF (ck 1 (bx H λ r84 h231 H=>ca false (AF h231) (ck 2 (en (re (by cases H;exact pr (rO (v:=.osl 1 6 0 (List.length [r81,r82,r83,r84])) [1] (ao vo)))))))))))))))))))))))))
section
variable (p0_:Int) (p1_:Int) (p2_:(Fa Int))
def Jek:St:=⟨(0,.d (.int .u8 p0_))::(1,.d (.int .i64 p1_))::(2,.agg [.d (.int .i64 p2_.a0),.d (.int .i64 p2_.a1)])::[],[]⟩
variable {p0_ p1_ p2_}
theorem FM {z} (H:FV n p0_ p1_ p2_=some z):AU Try.prog 67 [.d (.int .u8 p0_),.d (.int .i64 p1_),.agg [.d (.int .i64 p2_.a0),.d (.int .i64 p2_.a1)]] (.agg [.d (.str z.Print),.d (.sl (z.Cells.map eU8)),.d (.int .u8 z.Left),.d (.int .u8 z.Right),.d (.int .i64 z.From),.d (.int .i64 z.To)]):=by
 exact fO 16 (Jek p0_ p1_ p2_) Try.func67 (sr (ck 2 (en (sr (ck 1 (sF (ck 1 (bx H λ r85 h232 H=>ca false (AF h232) (ck 2 (en (sr (ck 1 (bx H λ gd3 h233 H=>so (Ke h233) (ck 2 (en (sr (ck 2 (en (re (by cases H;exact pr rd))))))))))))))))))))
end
section
variable (p0_:Int) (l_7:(List Ap))
def Jel:St:=⟨(0,.d (.int .u8 p0_))::[],[]⟩
def Jem:St:=⟨(2,.ptr 0 0)::(3,.osl 1 6 0 (l_7.length))::[],[some (.box [.d (.int .i64 0),.d (.int .u8 0),.osl 2 6 0 (List.length ([]:List Ap))]),some (.arr 6 (l_7.map Aq)),some (.arr 6 (List.map Aq ([]:List Ap)))]⟩
variable {p0_ l_7}
theorem TU {z} (H:Is n p0_=some z):AU Try.prog 50 [.d (.int .u8 p0_)] (.agg [.d (.int .i64 z.Modes),.d (.int .u8 z.Accept),.own 6 (z.Rules.map Aq)]):=by
 refine fO 121 (Jel p0_) Try.func50 (sr (ck 1 (en (sr (bx H λ r86 h234 H=>cl [List.length r86] (PK h234) (ck 13 (en (sj (λ (x:(List Ap))=>Jem x) (λ (x:(List Ap))=>EZ n x) z ?_ (λ hFR2_Base_J1=>?_)))))))))
 ·intro l_7 H
  exact sr (ck 3 (en (re (by cases H;exact pr (rO (v:=.agg [.d (.int .i64 1),.d (.int .u8 1),.osl 1 6 0 (l_7.length)]) [1] (a1 (c1 vd (c1 vd (c1 vo (c0))))))))))
 refine sr (ck 2 (en (bk 0 (sr (ck 2 (en (cn H (λ H=>?_) (λ H=>?_))))))))
 ·exact sr (ck 2 (bx H λ r87 h235 H=>ca false (FM h235) (sF (ck 1 (bx H λ r88 h236 H=>ca false (AF h236) (sF (ck 1 (bx H λ r89 h237 H=>ca false (AF h237) (sF (ck 1 (bx H λ r90 h238 H=>ca false (AF h238) (ck 1 (bx H λ l41 h239 H=>sp (BH Aq 1 6 h239) (ck 1 (en (sr (ck 3 (en (re (qR (qr (by cases H;exact pr (rO (v:=.agg [.d (.int .i64 2),.d (.int .u8 3),.osl 7 6 0 (l41.length)]) [7] (a1 (c1 vd (c1 vd (c1 vo (c0))))))))))))))))))))))))))))
 ·refine sr (ck 2 (en (cn H (λ H=>?_) (λ H=>?_))))
  ·exact sr (ck 2 (bx H λ r91 h240 H=>ca false (FM h240) (sF (ck 1 (bx H λ r92 h241 H=>ca false (AF h241) (sF (ck 1 (bx H λ r93 h242 H=>ca false (AF h242) (ck 1 (bx H λ l42 h243 H=>sp (BH Aq 1 6 h243) (ck 1 (en (sr (ck 3 (en (re (qR (qr (by cases H;exact pr (rO (v:=.agg [.d (.int .i64 2),.d (.int .u8 1),.osl 7 6 0 (l42.length)]) [7] (a1 (c1 vd (c1 vd (c1 vo (c0)))))))))))))))))))))))))
  ·refine sr (ck 2 (en (cn H (λ H=>?_) (λ H=>?_))))
   ·exact rz (ck 1 (sF (ck 1 (bx H λ r94 h244 H=>ca false (AF h244) (sF (ck 1 (bx H λ r95 h245 H=>ca false (AF h245) (sF (ck 1 (bx H λ r96 h246 H=>ca false (AF h246) (ck 1 (bx H λ l43 h247 H=>sp (BH Aq 1 6 h247) (ck 1 (ae (qN (qs (tr (CX 0 2 6 (by kernel_rfl)) (sg [2,3])) (hFR2_Base_J1 l43 H)))))))))))))))))
   ·refine sr (ck 2 (en (cn H (λ H=>?_) (λ H=>?_))))
    ·exact rz (ck 1 (sF (ck 1 (bx H λ r97 h248 H=>ca false (AF h248) (ck 1 (bx H λ l44 h249 H=>sp (BH Aq 1 6 h249) (ck 1 (ae (qN (qs (tr (CX 0 2 6 (by kernel_rfl)) (sg [2,3])) (hFR2_Base_J1 l44 H)))))))))))
    ·refine sr (ck 2 (en (cn H (λ H=>?_) (λ H=>?_))))
     ·exact sr (sF (ck 1 (bx H λ r98 h250 H=>ca false (AF h250) (sF (ck 1 (bx H λ r99 h251 H=>ca false (AF h251) (ck 4 (en (sr (ck 4 (en (rz (ck 3 (sF (ck 1 (bx H λ r100 h252 H=>ca false (AF h252) (ck 1 (bx H λ l45 h253 H=>sp (BH Aq 1 6 h253) (ck 1 (ae (qN (qs (tr (CX 0 2 6 (by kernel_rfl)) (sg [2,3])) (hFR2_Base_J1 l45 H)))))))))))))))))))))))
     ·refine sr (ck 2 (en (cn H (λ H=>?_) (λ H=>?_))))
      ·exact sr (ck 2 (bx H λ r101 h254 H=>ca false (FM h254) (sF (ck 1 (bx H λ r102 h255 H=>ca false (AF h255) (sF (ck 1 (bx H λ r103 h256 H=>ca false (AF h256) (ck 1 (bx H λ l46 h257 H=>sp (BH Aq 1 6 h257) (ck 1 (en (sr (ck 3 (en (re (qR (qr (by cases H;exact pr (rO (v:=.agg [.d (.int .i64 2),.d (.int .u8 1),.osl 7 6 0 (l46.length)]) [7] (a1 (c1 vd (c1 vd (c1 vo (c0)))))))))))))))))))))))))
      ·refine sr (ck 2 (en (cn H (λ H=>?_) (λ H=>?_))))
       ·exact rz (ck 1 (sF (ck 1 (bx H λ r104 h258 H=>ca false (AF h258) (sF (ck 1 (bx H λ r105 h259 H=>ca false (AF h259) (sF (ck 1 (bx H λ r106 h260 H=>ca false (AF h260) (ck 1 (bx H λ l47 h261 H=>sp (BH Aq 1 6 h261) (ck 1 (ae (qN (qs (tr (CX 0 2 6 (by kernel_rfl)) (sg [2,3])) (hFR2_Base_J1 l47 H)))))))))))))))))
       ·exact sk (qN (qs (tr (CX 0 2 6 (by kernel_rfl)) (sg [2,3])) (hFR2_Base_J1 r86 H)))
end
section
variable (p0_:C8) (p1_:Int) (out_1:Ap) (i_4:Int) (out_2:Ap) (out_3:Ap) (i_5:Int) (out_4:Ap)
def Jen:St:=⟨(0,.agg [.d (.sl (p0_.P.map eU8)),.d (.sl (p0_.C.map eU8)),.d (.int .u8 p0_.L),.d (.int .u8 p0_.R),.d (.int .u8 p0_.W.a0),.d (.int .u8 p0_.W.a1)])::(1,.d (.int .i64 p1_))::[],[]⟩
def Jeo:St:=⟨(2,.ptr 0 0)::(4,.ptr 1 0)::(5,.d (.str [97,98,99,65,66,49,50,45,46]))::(7,.ptr 2 0)::(8,.d (.int .i64 i_4))::[],[some (.box (Mr p0_)),some (.box [.d (.str []),.osl 3 1 0 (List.length ([]:List Int)),.d (.int .u8 0),.d (.int .u8 0),.d (.int .i64 0),.d (.int .i64 0)]),some (.box (Om out_1 (.osl 4 1 0 (out_1.Cells.length)))),some (.arr 1 (List.map eU8 ([]:List Int))),some (.arr 1 (out_1.Cells.map eU8))]⟩
def Jep:St:=⟨(2,.ptr 0 0)::(4,.ptr 1 0)::(7,.ptr 2 0)::[],[some (.box (Mr p0_)),some (.box [.d (.str []),.osl 3 1 0 (List.length ([]:List Int)),.d (.int .u8 0),.d (.int .u8 0),.d (.int .i64 0),.d (.int .i64 0)]),some (.box (Om out_2 (.osl 4 1 0 (out_2.Cells.length)))),some (.arr 1 (List.map eU8 ([]:List Int))),some (.arr 1 (out_2.Cells.map eU8))]⟩
def Qp:Ap->Ex->St->Prop:=xX 0 0 (λ (y:Ap)=>Jep p0_ y)
def Lk:(Ap×Int)->St:=(λ (x:(Ap×Int))=>Jeo p0_ x.1 x.2)
def Jeq:St:=⟨(2,.ptr 0 0)::(4,.ptr 1 0)::(7,.ptr 2 0)::(10,.osl 3 1 0 (List.length [1,3,9,5,7,32,44,60]))::(11,.d (.int .i64 i_5))::[],[some (.box (Mr p0_)),some (.box [.d (.str []),.osl 4 1 0 (List.length ([]:List Int)),.d (.int .u8 0),.d (.int .u8 0),.d (.int .i64 0),.d (.int .i64 0)]),some (.box (Om out_3 (.osl 5 1 0 (out_3.Cells.length)))),some (.arr 1 (List.map eU8 [1,3,9,5,7,32,44,60])),some (.arr 1 (List.map eU8 ([]:List Int))),some (.arr 1 (out_3.Cells.map eU8))]⟩
def Jer:St:=⟨(4,.ptr 0 0)::(7,.ptr 1 0)::[],[some (.box [.d (.str []),.osl 2 1 0 (List.length ([]:List Int)),.d (.int .u8 0),.d (.int .u8 0),.d (.int .i64 0),.d (.int .i64 0)]),some (.box (Om out_4 (.osl 3 1 0 (out_4.Cells.length)))),some (.arr 1 (List.map eU8 ([]:List Int))),some (.arr 1 (out_4.Cells.map eU8))]⟩
def Qq:Ap->Ex->St->Prop:=xX 0 2 (λ (y:Ap)=>Jer y)
def Ll:(Ap×Int)->St:=(λ (x:(Ap×Int))=>Jeq p0_ x.1 x.2)
variable {p0_ p1_ out_1 i_4 out_2 out_3 i_5 out_4}
theorem PL (x:(Ap×Int)) (z:((Ap×Int)⊕Ap)) (H:E0 n p0_ x.1 x.2=some z):WP (cxk 101 0) (AD Try.f37) [1,1,1,0,1,0,0] (AP 0 (Lk p0_) (Qp p0_) z) (Lk p0_ x):=by
 obtain ⟨out_1,i_4⟩:=x
 refine sq (sr (ck 3 (sp (AC eU8 p0_.P) (ck 3 (gc 1 (decide (i_4<((p0_.P.length:Nat):Int))) (pA (en (cn H (λ H=>?_) (λ H=>?_)))))))))
 ·exact sk (qz (sq (bk 1 (sr (ck 3 (bx H λ x61 h266 H=>sp (AN eU8 h266) (ck 4 (en (rz (ck 6 (bx H λ s5 h267 H=>sp (VQ h267) (bx H λ s6 h268 H=>sp (Jc1 h268) (ck 2 (ae (qN (qz (rz (ck 3 (ae (by cases H;exact og (sg [2,4,5,7,8])))))))))))))))))))))
 ·exact ex 0 (qx (by cases H;exact xo rfl (sg [2,4,7])))
theorem PM (x:(Ap×Int)) (z:((Ap×Int)⊕Ap)) (H:E1 n p0_ x.1 x.2=some z):WP (cxk 101 0) (AD Try.f37) [1,1,1,1,1,1,0,1,0,0] (AP 0 (Ll p0_) (Qq) z) (Ll p0_ x):=by
 obtain ⟨out_3,i_5⟩:=x
 refine sq (sr (ck 3 (sp (AC eU8 p0_.C) (ck 3 (gc 1 (decide (i_5<((p0_.C.length:Nat):Int))) (pA (en (cn H (λ H=>?_) (λ H=>?_)))))))))
 ·exact sk (qz (sq (bk 3 (rz (ck 6 (bx H λ x63 h271 H=>sp (AN eU8 h271) (ck 2 (bx H λ x64 h272 H=>sp (Bo 3 1 h272) (sp (DP eU8 3 0 (ty 64) h272) (ck 1 (bx H λ l48 h273 H=>sp (BH eU8 5 1 h273) (ck 2 (ae (qN (qz (rz (ck 3 (ae (by cases H;exact og (sg [2,4,7,10,11]))))))))))))))))))))
 ·exact ex 2 (qx (by cases H;exact xo rfl (sg [4,7])))
theorem TV {z} (H:Mp n p0_ p1_=some z):AU Try.prog 37 [.agg (Mr p0_),.d (.int .i64 p1_)] (.agg [.d (.str z.Print),.own 1 (z.Cells.map eU8),.d (.int .u8 z.Left),.d (.int .u8 z.Right),.d (.int .i64 z.From),.d (.int .i64 z.To)]):=by
 exact fO 101 (Jen p0_ p1_) Try.func37 (sr (ck 2 (en (sr (ck 3 (en (sr (ck 4 (bx H λ x59 h262 H=>sp (Bo 2 1 h262) (sp (DP eU8 2 0 (ty 5) h262) (ck 4 (bx H λ x60 h263 H=>sp (Bo 2 1 h263) (sp (DP eU8 2 0 (ty 5) h263) (ck 5 (bx H λ gd4 h264 H=>so (Pr h264) (ck 5 (bx H λ gd5 h265 H=>so (Pr h265) (ck 3 (en (sq (sr (ck 1 (en (bk 0 (bx H λ y59 h269 H=>lX PL h269 (tr (tr (CX 1 1 1 (by kernel_rfl)) (CX 3 1 1 (by kernel_rfl))) (sg [2,4,5,7,8])) rfl λ s hE48=>qH (qs (hE48) (sr (ck 2 (en (sr (ck 5 (bx H λ x62 h270 H=>sp (Bo 5 1 h270) (sp (DP eU8 5 0 (ty 64) h270) (ck 3 (en (sq (sr (ck 1 (en (bk 2 (bx H λ y60 h274 H=>lX PM h274 (sg [2,4,7,10,11]) rfl λ s hE49=>qH (qs (hE49) (sr (ck 2 (en (re (by cases H;exact pr (rO (v:=.agg [.d (.str z.Print),.osl 3 1 0 (z.Cells.length),.d (.int .u8 z.Left),.d (.int .u8 z.Right),.d (.int .i64 z.From),.d (.int .i64 z.To)]) [3] (a1 (c1 vd (c1 vo (c1 vd (c1 vd (c1 vd (c1 vd (c0))))))))))))))))))))))))))))))))))))))))))))))))))))))))
end
section
variable (p0_:Int)
def Jes:St:=⟨(0,.d (.int .u8 p0_))::[],[]⟩
variable {p0_}
theorem M6 {z} (H:HW n p0_=some z):AU Try.prog 69 [.d (.int .u8 p0_)] (.d (.bool z)):=by
 exact fO 11 (Jes p0_) Try.func69 (sr (ck 1 (en (sr (ck 5 (gc 2 (decide (Dd .u8 p0_ 127>=32)) (pA (ck 1 (en (re (by cases H;exact pr rd)))))))))))
end
section
variable (p0_:(List UInt8)) (i_6:Int)
def Jet:St:=⟨(0,.d (.str p0_))::[],[]⟩
def Jeu:St:=⟨(0,.d (.str p0_))::(4,.d (.int .i64 i_6))::[],[]⟩
def Jev:St:=⟨(0,.d (.str p0_))::[],[]⟩
def Qr:(Unit⊕(Int×Int))->Ex->St->Prop:=xS (xX 0 0 (λ (y:Unit)=>Jev p0_)) (xR ty Try.f56 (λ (y:(Int×Int))=>.tup [.d (.int .i64 y.1),.d (.int .i64 y.2)]))
def Lm:Int->St:=(λ (x:Int)=>Jeu p0_ x)
variable {p0_ i_6}
theorem KC (x:Int) (z:(Int⊕(Unit⊕(Int×Int)))) (H:HE n p0_ x=some z):WP (cxk 19 0) (AD Try.f56) [1,0,1,0,0] (AP 0 (Lm p0_) (Qr p0_) z) (Lm p0_ x):=by
 revert H
 generalize x=i_6
 intro H
 refine sq (sr (ck 4 (en (cn H (λ H=>?_) (λ H=>?_)))))
 ·refine sk (qz (sq (bk 1 (sr (ck 2 (bx H λ b8 h275 H=>sp (HB h275) (bx H λ r107 h276 H=>ca false (M6 h276) (ck 1 (en (cn H (λ H=>?_) (λ H=>?_)))))))))))
  ·exact sr (ck 3 (en (re (qR (qr (by cases H;exact ro rfl rdT))))))
  ·exact sk (qN (qz (rz (ck 3 (ae (by cases H;exact og (sg [0,4])))))))
 ·exact ex 0 (qx (by cases H;exact xo rfl (sg [0])))
theorem TW {z} (H:Mq n p0_=some z):AU Try.prog 56 [.d (.str p0_)] (.tup [.d (.int .i64 z.1),.d (.int .i64 z.2)]):=by
 refine fO 19 (Jet p0_) Try.func56 (sr (ck 2 (en (sq (sr (ck 1 (en (bk 0 (bx H λ y61 h277 H=>?_)))))))))
 rcases y61 with y62|y63
 ·exact lX KC h277 (sg [0,4]) rfl λ s hE50=>qH (qs (hE50) (sr (ck 4 (en (re (by cases H;exact pr rdT))))))
 ·exact lR KC h277 (sg [0,4]) rfl λ s hE51=>qR (qr (by cases H;exact pr hE51))
end
section
variable (p0_:(List UInt8))
def Jew:St:=⟨(0,.d (.str p0_))::[],[]⟩
variable {p0_}
theorem Qs {z} (H:Ja n p0_=some z):AU Try.prog 36 [.d (.str p0_)] (.d (.bool z)):=by
 exact fO 12 (Jew p0_) Try.func36 (sr (ck 1 (en (sr (ck 1 (bx H λ r108 h278 H=>ca false (TW h278) (ck 5 (en (sr (ck 3 (en (re (by cases H;exact pr rd)))))))))))))
end
section
variable (p0_:Int)
def Jex:St:=⟨(0,.d (.int .u8 p0_))::[],[]⟩
variable {p0_}
theorem Sd {z} (H:MX n p0_=some z):AU Try.prog 35 [.d (.int .u8 p0_)] (.d (.bool z)):=by
 exact fO 6 (Jex p0_) Try.func35 (sr (ck 1 (en (sr (ck 4 (en (re (by cases H;exact pr rd))))))))
end
section
variable (p0_:Ap) (p1_:Int) (space_1:Bool) (i_7:Int) (space_2:Bool) (y64:Bool) (blank_1:Bool) (i_8:Int) (blank_2:Bool)
def Jey:St:=⟨(0,.agg [.d (.str p0_.Print),.d (.sl (p0_.Cells.map eU8)),.d (.int .u8 p0_.Left),.d (.int .u8 p0_.Right),.d (.int .i64 p0_.From),.d (.int .i64 p0_.To)])::(1,.d (.int .i64 p1_))::[],[]⟩
def Jez:St:=⟨(2,.ptr 0 0)::(5,.d (.bool space_1))::(6,.d (.bool false))::(7,.d (.int .i64 i_7))::[],[some (.box (Kh p0_))]⟩
def JeA:St:=⟨(2,.ptr 0 0)::(5,.d (.bool space_2))::(6,.d (.bool false))::[],[some (.box (Kh p0_))]⟩
def PN:Bool->Ex->St->Prop:=xX 0 0 (λ (y:Bool)=>JeA p0_ y)
def KD:(Bool×Int)->St:=(λ (x:(Bool×Int))=>Jez p0_ x.1 x.2)
def JeB:St:=⟨(2,.ptr 0 0)::(5,.d (.bool y64))::(6,.d (.bool blank_1))::(8,.d (.int .i64 i_8))::[],[some (.box (Kh p0_))]⟩
def JeC:St:=⟨(2,.ptr 0 0)::(5,.d (.bool y64))::(6,.d (.bool blank_2))::[],[some (.box (Kh p0_))]⟩
def PO:(Bool⊕Bool)->Ex->St->Prop:=xS (xX 0 2 (λ (y:Bool)=>JeC p0_ y64 y)) (xR ty Try.f70 (λ (y:Bool)=>.d (.bool y)))
def KE:(Bool×Int)->St:=(λ (x:(Bool×Int))=>JeB p0_ y64 x.1 x.2)
variable {p0_ p1_ space_1 i_7 space_2 y64 blank_1 i_8 blank_2}
theorem NX (x:(Bool×Int)) (z:((Bool×Int)⊕Bool)) (H:Ea n p0_ x.1 x.2=some z):WP (cxk 125 0) (AD Try.f70) [1,1,1,1,0,1,0,0] (AP 0 (KD p0_) (PN p0_) z) (KD p0_ x):=by
 obtain ⟨space_1,i_7⟩:=x
 refine sq (sr (ck 5 (en (cn H (λ H=>?_) (λ H=>?_)))))
 ·exact sk (qz (sq (bk 1 (rz (ck 3 (gc 1 (!space_1) (ck 1 (bx H λ b9 h280 H=>sE (λ hg=>HB (F7 h280 hg)) (bx H λ r110 h281 H=>cG false (leZ) rfl (λ hg=>Sd (F7 h281 hg)) (Or.inl rfl) (DE (λ hh=>hh) (Gq)) rfl (pO (ck 1 (ae (qN (qz (rz (ck 3 (ae (by cases H;exact og (sg [2,5,6,7])))))))))))))))))))
 ·exact ex 0 (qx (by cases H;exact xo rfl (sg [2,5,6])))
theorem JF (x:(Bool×Int)) (z:((Bool×Int)⊕(Bool⊕Bool))) (H:Dk n p0_ y64 x.1 x.2=some z):WP (cxk 125 0) (AD Try.f70) [1,1,1,1,1,0,1,0,0] (AP 0 (KE p0_ y64) (PO p0_ y64) z) (KE p0_ y64 x):=by
 obtain ⟨blank_1,i_8⟩:=x
 refine sq (sr (ck 3 (sp (AC eU8 p0_.Cells) (ck 1 (en (cn H (λ H=>?_) (λ H=>?_)))))))
 ·refine sk (qz (sq (bk 3 (sq (sr (ck 3 (bx H λ x65 h283 H=>sp (AN eU8 h283) (ck 2 (en (cn H (λ H=>?_) (λ H=>?_)))))))))))
  ·exact sr (ck 1 (en (re (qr (qR (qr (by cases H;exact ro rfl rd)))))))
  ·exact sk (qz (rz (ck 3 (gc 1 (!blank_1) (ck 1 (bx H λ x66 h284 H=>sE (λ hg=>AN eU8 (F7 h284 hg)) (gc 2 (!blank_1) (pO (ck 1 (ae (qN (qz (rz (ck 3 (ae (by cases H;exact og (sg [2,5,6,8])))))))))))))))))
 ·exact ex 2 (qx (by cases H;exact xo rfl (sg [2,5,6])))
theorem Se {z} (H:KY n p0_ p1_=some z):AU Try.prog 70 [.agg (Kh p0_),.d (.int .i64 p1_)] (.d (.bool z)):=by
 refine fO 125 (Jey p0_ p1_) Try.func70 (sr (ck 2 (en (sq (sr (ck 2 (bx H λ r109 h279 H=>ca false (Qs h279) (ck 3 (gc 3 (!(!r109)) (pO (ck 2 (gc 1 (!((!r109)||(decide (((p0_.Print.length:Nat):Int)>4)))) (sE (g:=(!((!r109)||(decide (((p0_.Print.length:Nat):Int)>4))))) (λ hg=>AC eU8 p0_.Cells) (gc 1 (!((!r109)||(decide (((p0_.Print.length:Nat):Int)>4)))) (pO (ck 2 (gc 1 (!(((!r109)||(decide (((p0_.Print.length:Nat):Int)>4)))||(decide (((p0_.Cells.length:Nat):Int)<1)))) (sE (g:=(!(((!r109)||(decide (((p0_.Print.length:Nat):Int)>4)))||(decide (((p0_.Cells.length:Nat):Int)<1))))) (λ hg=>AC eU8 p0_.Cells) (gc 1 (!(((!r109)||(decide (((p0_.Print.length:Nat):Int)>4)))||(decide (((p0_.Cells.length:Nat):Int)<1)))) (pO (en (cn H (λ H=>?_) (λ H=>?_)))))))))))))))))))))))
 ·exact sr (ck 1 (en (re (qr (by cases H;exact pr rd)))))
 ·refine sk (qz (sq (sr (ck 5 (gc 2 (!(decide (p0_.Left<1))) (pO (ck 2 (gc 2 (!((decide (p0_.Left<1))||(decide (p0_.Left>63)))) (pO (ck 2 (gc 2 (!(((decide (p0_.Left<1))||(decide (p0_.Left>63)))||(decide (p0_.Right<1)))) (pO (ck 2 (gc 2 (!((((decide (p0_.Left<1))||(decide (p0_.Left>63)))||(decide (p0_.Right<1)))||(decide (p0_.Right>63)))) (pO (ck 2 (gc 1 (!(((((decide (p0_.Left<1))||(decide (p0_.Left>63)))||(decide (p0_.Right<1)))||(decide (p0_.Right>63)))||(decide (p0_.From<0)))) (ck 1 (gc 1 (!(((((decide (p0_.Left<1))||(decide (p0_.Left>63)))||(decide (p0_.Right<1)))||(decide (p0_.Right>63)))||(decide (p0_.From<0)))) (pO (ck 2 (gc 2 (!((((((decide (p0_.Left<1))||(decide (p0_.Left>63)))||(decide (p0_.Right<1)))||(decide (p0_.Right>63)))||(decide (p0_.From<0)))||(decide (p0_.From>=p1_)))) (pO (ck 2 (gc 1 (!(((((((decide (p0_.Left<1))||(decide (p0_.Left>63)))||(decide (p0_.Right<1)))||(decide (p0_.Right>63)))||(decide (p0_.From<0)))||(decide (p0_.From>=p1_)))||(decide (p0_.To<0)))) (ck 1 (gc 1 (!(((((((decide (p0_.Left<1))||(decide (p0_.Left>63)))||(decide (p0_.Right<1)))||(decide (p0_.Right>63)))||(decide (p0_.From<0)))||(decide (p0_.From>=p1_)))||(decide (p0_.To<0)))) (pO (en (cn H (λ H=>?_) (λ H=>?_)))))))))))))))))))))))))))))))
  ·exact sr (ck 1 (en (re (qr (by cases H;exact pr rd)))))
  ·refine sk (qz (sr (ck 2 (en (sq (sr (ck 1 (en (bk 0 (bx H λ y64 h282 H=>lX NX h282 (sg [2,5,6,7]) rfl λ s hE52=>qH (qs (hE52) (sq (sr (ck 1 (en (bk 2 (bx H λ y65 h285 H=>?_)))))))))))))))))
   rcases y65 with y66|y67
   ·refine lX JF h285 (sg [2,5,6,8]) rfl λ s hE53=>qH (qs (hE53) (sq (sr (ck 2 (en (cn H (λ H=>?_) (λ H=>?_)))))))
    ·exact sr (ck 3 (en (re (qr (by cases H;exact pr rd)))))
    ·exact sk (qz (sr (ck 6 (gc 1 (((p0_.Print.length:Nat):Int)==1) (sE (g:=(((p0_.Print.length:Nat):Int)==1)) (λ hg=>AC eU8 p0_.Cells) (gc 1 (((p0_.Print.length:Nat):Int)==1) (pA (ck 2 (pA (ck 1 (en (re (by cases H;exact pr rd)))))))))))))
   ·exact lR JF h285 (sg [2,5,6,8]) rfl λ s hE54=>qR (qr (by cases H;exact pr hE54))
end
section
variable (p0_:(List Int)) (p1_:(List Int)) (i_9:Int)
def JeD:St:=⟨(0,.d (.sl (p0_.map eU8)))::(1,.d (.sl (p1_.map eU8)))::[],[]⟩
def JeE:St:=⟨(0,.d (.sl (p0_.map eU8)))::(1,.d (.sl (p1_.map eU8)))::(5,.d (.int .i64 i_9))::[],[]⟩
def JeF:St:=⟨[],[]⟩
def LH:(Unit⊕Bool)->Ex->St->Prop:=xS (xX 0 0 (λ (y:Unit)=>JeF)) (xR ty Try.f49 (λ (y:Bool)=>.d (.bool y)))
def Hc:Int->St:=(λ (x:Int)=>JeE p0_ p1_ x)
variable {p0_ p1_ i_9}
theorem GB (x:Int) (z:(Int⊕(Unit⊕Bool))) (H:Eb n p0_ p1_ x=some z):WP (cxk 26 0) (AD Try.f49) [1,1,0,1,0,0] (AP 0 (Hc p0_ p1_) (LH) z) (Hc p0_ p1_ x):=by
 revert H
 generalize x=i_9
 intro H
 refine sq (sr (ck 2 (sp (AC eU8 p0_) (ck 1 (en (cn H (λ H=>?_) (λ H=>?_)))))))
 ·refine sk (qz (sq (bk 1 (sr (ck 2 (bx H λ x67 h286 H=>sp (AN eU8 h286) (ck 3 (bx H λ x68 h287 H=>sp (AN eU8 h287) (ck 2 (en (cn H (λ H=>?_) (λ H=>?_))))))))))))
  ·exact sr (ck 1 (en (re (qR (qr (by cases H;exact ro rfl rd))))))
  ·exact sk (qN (qz (rz (ck 3 (ae (by cases H;exact og (sg [0,1,5])))))))
 ·exact ex 0 (qx (by cases H;exact xo rfl (sg [])))
theorem M7 {z} (H:FW n p0_ p1_=some z):AU Try.prog 49 [.d (.sl (p0_.map eU8)),.d (.sl (p1_.map eU8))] (.d (.bool z)):=by
 refine fO 26 (JeD p0_ p1_) Try.func49 (sr (ck 1 (en (sq (sr (ck 1 (sp (AC eU8 p0_) (ck 1 (sp (AC eU8 p1_) (ck 1 (en (cn H (λ H=>?_) (λ H=>?_)))))))))))))
 ·exact sr (ck 1 (en (re (qr (by cases H;exact pr rd)))))
 ·refine sk (qz (sq (sr (ck 1 (en (bk 0 (bx H λ y68 h288 H=>?_)))))))
  rcases y68 with y69|y70
  ·exact lX GB h288 (sg [0,1,5]) rfl λ s hE55=>qH (qs (hE55) (sr (ck 1 (en (re (by cases H;exact pr rd))))))
  ·exact lR GB h288 (sg [0,1,5]) rfl λ s hE56=>qR (qr (by cases H;exact pr hE56))
end
section
variable (p0_:Ap) (p1_:Ap)
def JeG:St:=⟨(0,.agg [.d (.str p0_.Print),.d (.sl (p0_.Cells.map eU8)),.d (.int .u8 p0_.Left),.d (.int .u8 p0_.Right),.d (.int .i64 p0_.From),.d (.int .i64 p0_.To)])::(1,.agg [.d (.str p1_.Print),.d (.sl (p1_.Cells.map eU8)),.d (.int .u8 p1_.Left),.d (.int .u8 p1_.Right),.d (.int .i64 p1_.From),.d (.int .i64 p1_.To)])::[],[]⟩
variable {p0_ p1_}
theorem NY {z} (H:GH n p0_ p1_=some z):AU Try.prog 71 [.agg (Kh p0_),.agg (Kh p1_)] (.d (.bool z)):=by
 exact fO 45 (JeG p0_ p1_) Try.func71 (sr (ck 3 (en (sr (ck 7 (gc 1 (p0_.Print==p1_.Print) (ck 1 (gc 1 (p0_.Print==p1_.Print) (bx H λ r111 h289 H=>cG false (leZ) rfl (λ hg=>M7 (F7 h289 hg)) (Or.inl rfl) (DE (λ hh=>hh) (DE (λ hh=>hh) (Gq))) rfl (pA (ck 2 (gc 1 ((p0_.Print==p1_.Print)&&r111) (ck 1 (gc 2 ((p0_.Print==p1_.Print)&&r111) (pA (ck 2 (gc 1 (((p0_.Print==p1_.Print)&&r111)&&(p0_.Left==p1_.Left)) (ck 1 (gc 2 (((p0_.Print==p1_.Print)&&r111)&&(p0_.Left==p1_.Left)) (pA (ck 2 (gc 1 ((((p0_.Print==p1_.Print)&&r111)&&(p0_.Left==p1_.Left))&&(p0_.Right==p1_.Right)) (ck 1 (gc 2 ((((p0_.Print==p1_.Print)&&r111)&&(p0_.Left==p1_.Left))&&(p0_.Right==p1_.Right)) (pA (ck 2 (gc 1 (((((p0_.Print==p1_.Print)&&r111)&&(p0_.Left==p1_.Left))&&(p0_.Right==p1_.Right))&&(p0_.From==p1_.From)) (ck 1 (gc 2 (((((p0_.Print==p1_.Print)&&r111)&&(p0_.Left==p1_.Left))&&(p0_.Right==p1_.Right))&&(p0_.From==p1_.From)) (pA (ck 1 (en (re (by cases H;exact pr rd))))))))))))))))))))))))))))))))))
end
section
variable (p0_:Aa) (i_10:Int) (k_2:Int)
def JeH:St:=⟨(0,.agg [.d (.int .i64 p0_.Modes),.d (.int .u8 p0_.Accept),.d (.sl (p0_.Rules.map Aq))])::[],[]⟩
def JeI:St:=⟨(1,.ptr 0 0)::(4,.d (.int .i64 i_10))::[],[some (.box (Be p0_))]⟩
def JeJ:St:=⟨[],[]⟩
def JeK:St:=⟨(1,.ptr 0 0)::(4,.d (.int .i64 i_10))::(5,.d (.int .i64 k_2))::[],[some (.box (Be p0_))]⟩
def JeL:St:=⟨(1,.ptr 0 0)::(4,.d (.int .i64 i_10))::[],[some (.box (Be p0_))]⟩
def PP:(Unit⊕(Int×Int))->Ex->St->Prop:=xS (xX 0 2 (λ (y:Unit)=>JeL p0_ i_10)) (xR ty Try.f57 (λ (y:(Int×Int))=>.tup [.d (.int .i64 y.1),.d (.int .i64 y.2)]))
def KF:Int->St:=(λ (x:Int)=>JeK p0_ i_10 x)
def PR:(Unit⊕(Int×Int))->Ex->St->Prop:=xS (xX 0 0 (λ (y:Unit)=>JeJ)) (xR ty Try.f57 (λ (y:(Int×Int))=>.tup [.d (.int .i64 y.1),.d (.int .i64 y.2)]))
def KG:Int->St:=(λ (x:Int)=>JeI p0_ x)
variable {p0_ i_10 k_2}
theorem JG (x:Int) (z:(Int⊕(Unit⊕(Int×Int)))) (H:Fj n p0_ i_10 x=some z):WP (cxk 74 0) (AD Try.f57) [1,1,0,1,0,0,1,0,0,1,1,0,0] (AP 0 (KF p0_ i_10) (PP p0_ i_10) z) (KF p0_ i_10 x):=by
 revert H
 generalize x=k_2
 intro H
 refine sq (sr (ck 3 (en (cn H (λ H=>?_) (λ H=>?_)))))
 ·refine sk (qz (sq (bk 3 (sr (ck 3 (bx H λ x70 h293 H=>sp (AN Aq h293) (ck 4 (bx H λ x71 h294 H=>sp (AN Aq h294) (ck 1 (bx H λ r113 h295 H=>ca false (NY h295) (en (cn H (λ H=>?_) (λ H=>?_)))))))))))))
  ·exact sr (ck 3 (en (re (qR (qr (by cases H;exact ro rfl rdT))))))
  ·exact sk (qN (qz (rz (ck 3 (ae (by cases H;exact og (sg [1,4,5])))))))
 ·exact ex 2 (qx (by cases H;exact xo rfl (sg [1,4])))
theorem JH (x:Int) (z:(Int⊕(Unit⊕(Int×Int)))) (H:Fk n p0_ x=some z):WP (cxk 74 0) (AD Try.f57) [1,1,0,1,0,0] (AP 0 (KG p0_) (PR) z) (KG p0_ x):=by
 revert H
 generalize x=i_10
 intro H
 refine sq (sr (ck 3 (sp (AC Aq p0_.Rules) (ck 1 (en (cn H (λ H=>?_) (λ H=>?_)))))))
 ·refine sk (qz (sq (bk 1 (sq (sr (ck 3 (bx H λ x69 h291 H=>sp (AN Aq h291) (ck 3 (bx H λ r112 h292 H=>ca false (Se h292) (ck 1 (en (cn H (λ H=>?_) (λ H=>?_)))))))))))))
  ·exact sr (ck 3 (en (re (qr (qR (qr (by cases H;exact ro rfl rdT)))))))
  ·refine sk (qz (sr (ck 1 (en (bk 2 (bx H λ y71 h296 H=>?_))))))
   rcases y71 with y72|y73
   ·exact lX JG h296 (sg [1,4,5]) rfl λ s hE57=>qH (qN (qs (hE57) (rz (ck 3 (ae (by cases H;exact og (sg [1,4])))))))
   ·exact lR JG h296 (sg [1,4,5]) rfl λ s hE58=>qR (qR (qr (by cases H;exact ro rfl hE58)))
 ·exact ex 0 (qx (by cases H;exact xo rfl (sg [])))
theorem Sf {z} (H:KZ n p0_=some z):AU Try.prog 57 [.agg (Be p0_)] (.tup [.d (.int .i64 z.1),.d (.int .i64 z.2)]):=by
 refine fO 74 (JeH p0_) Try.func57 (sr (ck 3 (en (sq (sr (ck 5 (gc 2 (!(decide (p0_.Modes<1))) (pO (ck 2 (gc 2 (!((decide (p0_.Modes<1))||(decide (p0_.Modes>8)))) (pO (ck 2 (gc 2 (!(((decide (p0_.Modes<1))||(decide (p0_.Modes>8)))||(p0_.Accept==0))) (ck 1 (gc 1 (!(((decide (p0_.Modes<1))||(decide (p0_.Modes>8)))||(p0_.Accept==0))) (bx H λ gd6 h290 H=>soG (λ hg=>Ke (F7 h290 hg)) (DE (λ hh=>hh) (Gq)) (gc 1 (!(((decide (p0_.Modes<1))||(decide (p0_.Modes>8)))||(p0_.Accept==0))) (pO (ck 2 (gc 1 (!((((decide (p0_.Modes<1))||(decide (p0_.Modes>8)))||(p0_.Accept==0))||(decide (IntKind.i64.wrap p0_.Accept>=Pf .i64 1 p0_.Modes)))) (sE (g:=(!((((decide (p0_.Modes<1))||(decide (p0_.Modes>8)))||(p0_.Accept==0))||(decide (IntKind.i64.wrap p0_.Accept>=Pf .i64 1 p0_.Modes))))) (λ hg=>AC Aq p0_.Rules) (gc 1 (!((((decide (p0_.Modes<1))||(decide (p0_.Modes>8)))||(p0_.Accept==0))||(decide (IntKind.i64.wrap p0_.Accept>=Pf .i64 1 p0_.Modes)))) (pO (ck 2 (gc 1 (!(((((decide (p0_.Modes<1))||(decide (p0_.Modes>8)))||(p0_.Accept==0))||(decide (IntKind.i64.wrap p0_.Accept>=Pf .i64 1 p0_.Modes)))||(decide (((p0_.Rules.length:Nat):Int)<1)))) (sE (g:=(!(((((decide (p0_.Modes<1))||(decide (p0_.Modes>8)))||(p0_.Accept==0))||(decide (IntKind.i64.wrap p0_.Accept>=Pf .i64 1 p0_.Modes)))||(decide (((p0_.Rules.length:Nat):Int)<1))))) (λ hg=>AC Aq p0_.Rules) (gc 1 (!(((((decide (p0_.Modes<1))||(decide (p0_.Modes>8)))||(p0_.Accept==0))||(decide (IntKind.i64.wrap p0_.Accept>=Pf .i64 1 p0_.Modes)))||(decide (((p0_.Rules.length:Nat):Int)<1)))) (pO (en (cn H (λ H=>?_) (λ H=>?_)))))))))))))))))))))))))))))))
 ·exact sr (ck 2 (en (re (qr (by cases H;exact pr rdT)))))
 ·refine sk (qz (sq (sr (ck 1 (en (bk 0 (bx H λ y74 h297 H=>?_)))))))
  rcases y74 with y75|y76
  ·exact lX JH h297 (sg [1,4]) rfl λ s hE59=>qH (qs (hE59) (sr (ck 2 (en (re (by cases H;exact pr rdT))))))
  ·exact lR JH h297 (sg [1,4]) rfl λ s hE60=>qR (qr (by cases H;exact pr hE60))
end
section
variable (p0_:Aa)
def JeM:St:=⟨(0,.agg [.d (.int .i64 p0_.Modes),.d (.int .u8 p0_.Accept),.d (.sl (p0_.Rules.map Aq))])::[],[]⟩
variable {p0_}
theorem Sg {z} (H:MY n p0_=some z):AU Try.prog 38 [.agg (Be p0_)] (.d (.bool z)):=by
 exact fO 12 (JeM p0_) Try.func38 (sr (ck 2 (en (sr (ck 1 (bx H λ r114 h298 H=>ca false (Sf h298) (ck 5 (en (sr (ck 3 (en (re (by cases H;exact pr rd)))))))))))))
end
section
variable (p0_:K6) (r115:Aa) (t_3:Aa) (i_11:Int) (t_4:Aa) (t_5:Aa) (t_6:Aa) (i_12:Int) (t_7:Aa) (t_8:Aa) (t_9:Aa)
def JeN:St:=⟨(0,.agg [.d (.int .u8 p0_.Base),.d (.int .u8 p0_.Drop),.d (.sl (p0_.More.map E4))])::[],[]⟩
def JeO:St:=⟨(1,.ptr 0 0)::(2,.ptr 1 0)::(3,.ptr 2 0)::(4,.osl 3 6 0 (r115.Rules.length))::(5,.d (.int .i64 i_11))::[],[some (.box (Vg p0_)),some (.box [.d (.int .i64 0),.d (.int .u8 0),.osl 4 6 0 (List.length ([]:List Ap))]),some (.box (Fl t_3 (.osl 5 6 0 (t_3.Rules.length)))),some (.arr 6 (r115.Rules.map Aq)),some (.arr 6 (List.map Aq ([]:List Ap))),some (.arr 6 (t_3.Rules.map Aq))]⟩
def JeP:St:=⟨(1,.ptr 0 0)::(2,.ptr 1 0)::(3,.ptr 2 0)::(4,.osl 3 6 0 (r115.Rules.length))::[],[some (.box (Vg p0_)),some (.box [.d (.int .i64 0),.d (.int .u8 0),.osl 4 6 0 (List.length ([]:List Ap))]),some (.box (Fl t_4 (.osl 5 6 0 (t_4.Rules.length)))),some (.arr 6 (r115.Rules.map Aq)),some (.arr 6 (List.map Aq ([]:List Ap))),some (.arr 6 (t_4.Rules.map Aq))]⟩
def JeQ:St:=⟨(1,.ptr 0 0)::(2,.ptr 1 0)::(3,.ptr 2 0)::(4,.osl 3 6 0 (r115.Rules.length))::(5,.d (.int .i64 i_11))::[],[some (.box (Vg p0_)),some (.box [.d (.int .i64 0),.d (.int .u8 0),.osl 4 6 0 (List.length ([]:List Ap))]),some (.box (Fl t_5 (.osl 5 6 0 (t_5.Rules.length)))),some (.arr 6 (r115.Rules.map Aq)),some (.arr 6 (List.map Aq ([]:List Ap))),some (.arr 6 (t_5.Rules.map Aq))]⟩
def Qt:Aa->Ex->St->Prop:=xX 0 0 (λ (y:Aa)=>JeP p0_ r115 y)
def Ln:(Aa×Int)->St:=(λ (x:(Aa×Int))=>JeO p0_ r115 x.1 x.2)
def JeR:St:=⟨(1,.ptr 0 0)::(2,.ptr 1 0)::(3,.ptr 2 0)::(4,.osl 3 6 0 (r115.Rules.length))::(6,.d (.int .i64 i_12))::[],[some (.box (Vg p0_)),some (.box [.d (.int .i64 0),.d (.int .u8 0),.osl 4 6 0 (List.length ([]:List Ap))]),some (.box (Fl t_6 (.osl 5 6 0 (t_6.Rules.length)))),some (.arr 6 (r115.Rules.map Aq)),some (.arr 6 (List.map Aq ([]:List Ap))),some (.arr 6 (t_6.Rules.map Aq))]⟩
def JeS:St:=⟨(2,.ptr 0 0)::(3,.ptr 1 0)::(4,.osl 2 6 0 (r115.Rules.length))::[],[some (.box [.d (.int .i64 0),.d (.int .u8 0),.osl 3 6 0 (List.length ([]:List Ap))]),some (.box (Fl t_7 (.osl 4 6 0 (t_7.Rules.length)))),some (.arr 6 (r115.Rules.map Aq)),some (.arr 6 (List.map Aq ([]:List Ap))),some (.arr 6 (t_7.Rules.map Aq))]⟩
def JeT:St:=⟨(1,.ptr 0 0)::(2,.ptr 1 0)::(3,.ptr 2 0)::(4,.osl 3 6 0 (r115.Rules.length))::(6,.d (.int .i64 i_12))::[],[some (.box (Vg p0_)),some (.box [.d (.int .i64 0),.d (.int .u8 0),.osl 4 6 0 (List.length ([]:List Ap))]),some (.box (Fl t_8 (.osl 5 6 0 (t_8.Rules.length)))),some (.arr 6 (r115.Rules.map Aq)),some (.arr 6 (List.map Aq ([]:List Ap))),some (.arr 6 (t_8.Rules.map Aq))]⟩
def Qu:Aa->Ex->St->Prop:=xX 0 2 (λ (y:Aa)=>JeS r115 y)
def Lo:(Aa×Int)->St:=(λ (x:(Aa×Int))=>JeR p0_ r115 x.1 x.2)
def JeU:St:=⟨(2,.ptr 0 0)::(3,.ptr 1 0)::[],[some (.box [.d (.int .i64 0),.d (.int .u8 0),.osl 2 6 0 (List.length ([]:List Ap))]),some (.box (Fl t_9 (.osl 3 6 0 (t_9.Rules.length)))),some (.arr 6 (List.map Aq ([]:List Ap))),some (.arr 6 (t_9.Rules.map Aq))]⟩
variable {p0_ r115 t_3 i_11 t_4 t_5 t_6 i_12 t_7 t_8 t_9}
theorem PS (x:(Aa×Int)) (z:((Aa×Int)⊕Aa)) (H:E2 n p0_ r115 x.1 x.2=some z):WP (cxk 77 0) (AD Try.f16) [1,1,1,1,0,1,0,0] (AP 0 (Ln p0_ r115) (Qt p0_ r115) z) (Ln p0_ r115 x):=by
 obtain ⟨t_3,i_11⟩:=x
 refine sq (sr (ck 4 (en (cn H (λ H=>?_) (λ H=>?_)))))
 ·refine sk (qz (sj (λ (x:Aa)=>JeQ p0_ r115 i_11 x) (λ (x:Aa)=>F8 n i_11 x) z ?_ (λ hFR2_Made_J1=>?_)))
  ·intro t_5 H
   exact rz (ck 3 (ae (by cases H;exact og (sg [1,2,3,4,5]))))
  refine bk 1 (sr (ck 3 (bx H λ gd7 h300 H=>so (Ke h300) (ck 2 (en (cn H (λ H=>?_) (λ H=>?_)))))))
  ·exact rz (ck 4 (bx H λ x72 h301 H=>sp (Bo 3 6 h301) (sp (DP Aq 3 0 (ty 55) h301) (ck 1 (bx H λ l49 h302 H=>sp (BH Aq 5 6 h302) (ck 2 (ae (qN (qs (sg [1,2,3,4,5]) (hFR2_Made_J1 ({ Modes:=t_3.Modes,Accept:=t_3.Accept,Rules:=l49 }:Aa) H))))))))))
  ·exact sk (qN (qs (sg [1,2,3,4,5]) (hFR2_Made_J1 t_3 H)))
 ·exact ex 0 (qx (by cases H;exact xo rfl (sg [1,2,3,4])))
theorem PT (x:(Aa×Int)) (z:((Aa×Int)⊕Aa)) (H:E3 n p0_ r115 x.1 x.2=some z):WP (cxk 77 0) (AD Try.f16) [1,1,1,1,1,0,1,0,0] (AP 0 (Lo p0_ r115) (Qu r115) z) (Lo p0_ r115 x):=by
 obtain ⟨t_6,i_12⟩:=x
 refine sq (sr (ck 3 (sp (AC E4 p0_.More) (ck 3 (gc 1 (decide (i_12<((p0_.More.length:Nat):Int))) (pA (en (cn H (λ H=>?_) (λ H=>?_)))))))))
 ·refine sk (qz (sj (λ (x:Aa)=>JeT p0_ r115 i_12 x) (λ (x:Aa)=>F9 n i_12 x) z ?_ (λ hFR2_Made_J2=>?_)))
  ·intro t_8 H
   exact rz (ck 3 (ae (by cases H;exact og (sg [1,2,3,4,6]))))
  refine bk 3 (sr (ck 5 (bx H λ x73 h304 H=>sp (AN E4 h304) (ck 3 (bx H λ r116 h305 H=>ca false (TV h305) (ck 1 (bx H λ l50 h306 H=>sp (BH Aq 5 6 h306) (ck 2 (en (sr (ck 1 (bx H λ r117 h307 H=>cb (ks:=[7]) (obl:=[(0+List.length l50,List.length (l50.map Aq))]) false (leK leM (leZ)) (Ef (Jgf (Ef rfl (Ef rfl (Ef NB rfl)))) rfl) (Sg h307) (Or.inr trivial) rfl (ck 1 (en (cn H (λ H=>?_) (λ H=>?_))))))))))))))))
  ·exact rz (ck 6 (bx H λ l51 h308 H=>sp (HU 7 6 h308) (ck 2 (ae (qN (qs (tr (BM (k:=7) (sz:=6) 2 2 (l51.map Aq) (l51.length) (by kernel_rfl) (FS h308) (HT (enc:=Aq) h308) (FT h308)) (sg [1,2,3,4,6])) (hFR2_Made_J2 ({ Modes:=t_6.Modes,Accept:=t_6.Accept,Rules:=l51 }:Aa) H)))))))
  ·exact sk (qN (qs (sg [1,2,3,4,6]) (hFR2_Made_J2 ({ Modes:=t_6.Modes,Accept:=t_6.Accept,Rules:=l50 }:Aa) H)))
 ·exact ex 2 (qx (by cases H;exact xo rfl (sg [2,3,4])))
theorem TX {z} (H:Kg n p0_=some z):AU Try.prog 16 [.agg (Vg p0_)] (.agg [.d (.int .i64 z.Modes),.d (.int .u8 z.Accept),.own 6 (z.Rules.map Aq)]):=by
 refine fO 77 (JeN p0_) Try.func16 (sr (ck 2 (en (sr (ck 2 (bx H λ r115 h299 H=>cl [List.length r115.Rules] (TU h299) (ck 2 (en (sr (ck 3 (en (sr (ck 3 (en (sq (sr (ck 1 (en (bk 0 (bx H λ y77 h303 H=>lX PS h303 (tr (CX 1 2 6 (by kernel_rfl)) (sg [1,2,3,4,5])) rfl λ s hE61=>qH (qs (hE61) (sq (sr (ck 1 (en (bk 2 (bx H λ y78 h309 H=>lX PT h309 (sg [1,2,3,4,6]) rfl λ s hE62=>qH (qs (hE62) (sj (λ (x:Aa)=>JeU x) (λ (x:Aa)=>Ga n x) z ?_ (λ hFR2_Made_J3=>?_))))))))))))))))))))))))))))))
 ·intro t_9 H
  exact sr (ck 2 (en (re (by cases H;exact pr (rO (v:=.agg [.d (.int .i64 z.Modes),.d (.int .u8 z.Accept),.osl 3 6 0 (z.Rules.length)]) [3] (a1 (c1 vd (c1 vd (c1 vo (c0))))))))))
 refine sr (ck 4 (en (cn H (λ H=>?_) (λ H=>?_))))
 ·exact rz (ck 3 (ae (qs (sg [2,3]) (hFR2_Made_J3 ({ Modes:=y78.Modes,Accept:=y78.Accept,Rules:=r115.Rules }:Aa) H))))
 ·exact sk (qs (sg [2,3]) (hFR2_Made_J3 y78 H))
end
section
variable (p0_:Aa) (p1_:(List Int)) (p2_:Int) (out_5:(List Int)) (i_13:Int) (out_6:(List Int)) (out_7:(List Int))
def JeV:St:=⟨(0,.agg [.d (.int .i64 p0_.Modes),.d (.int .u8 p0_.Accept),.d (.sl (p0_.Rules.map Aq))])::(1,.d (.sl (p1_.map eU8)))::(2,.d (.int .i64 p2_))::[],[]⟩
def JeW:St:=⟨(1,.d (.sl (p1_.map eU8)))::(2,.d (.int .i64 p2_))::(3,.ptr 0 0)::(7,.osl 1 1 0 (out_5.length))::(8,.d (.int .i64 i_13))::[],[some (.box (Be p0_)),some (.arr 1 (out_5.map eU8))]⟩
def JeX:St:=⟨(2,.d (.int .i64 p2_))::(7,.osl 0 1 0 (out_6.length))::[],[some (.arr 1 (out_6.map eU8))]⟩
def JeY:St:=⟨(1,.d (.sl (p1_.map eU8)))::(2,.d (.int .i64 p2_))::(3,.ptr 0 0)::(7,.osl 1 1 0 (out_7.length))::(8,.d (.int .i64 i_13))::[],[some (.box (Be p0_)),some (.arr 1 (out_7.map eU8))]⟩
def PU:(List Int)->Ex->St->Prop:=xX 0 0 (λ (y:(List Int))=>JeX p2_ y)
def KH:((List Int)×Int)->St:=(λ (x:((List Int)×Int))=>JeW p0_ p1_ p2_ x.1 x.2)
variable {p0_ p1_ p2_ out_5 i_13 out_6 out_7}
theorem NZ (x:((List Int)×Int)) (z:(((List Int)×Int)⊕(List Int))) (H:GK n p0_ p1_ p2_ x.1 x.2=some z):WP (cxk 65 0) (AD Try.f40) [1,1,0,1,0,0] (AP 0 (KH p0_ p1_ p2_) (PU p2_) z) (KH p0_ p1_ p2_ x):=by
 obtain ⟨out_5,i_13⟩:=x
 refine sq (sr (ck 2 (sp (AC eU8 p1_) (ck 3 (gc 1 (decide (i_13<((p1_.length:Nat):Int))) (ck 1 (gc 1 (decide (i_13<((p1_.length:Nat):Int))) (pA (ck 2 (gc 1 ((decide (i_13<((p1_.length:Nat):Int)))&&(decide (((out_5.length:Nat):Int)<p2_))) (sE (g:=((decide (i_13<((p1_.length:Nat):Int)))&&(decide (((out_5.length:Nat):Int)<p2_)))) (λ hg=>AC Aq p0_.Rules) (gc 1 ((decide (i_13<((p1_.length:Nat):Int)))&&(decide (((out_5.length:Nat):Int)<p2_))) (pA (en (cn H (λ H=>?_) (λ H=>?_))))))))))))))))
 ·refine sk (qz (sj (λ (x:(List Int))=>JeY p0_ p1_ p2_ i_13 x) (λ (x:(List Int))=>GI n i_13 x) z ?_ (λ hFR4_Cells_J1=>?_)))
  ·intro out_7 H
   exact rz (ck 3 (ae (by cases H;exact og (sg [1,2,3,7,8]))))
  refine bk 1 (sr (ck 4 (bx H λ x74 h310 H=>sp (AN eU8 h310) (ck 4 (sp (AC Aq p0_.Rules) (bx H λ gd8 h311 H=>so (Pr h311) (bx H λ x75 h312 H=>sp (AN Aq h312) (ck 3 (en (sr (ck 2 (bx H λ x76 h313 H=>sp (AN eU8 h313) (ck 2 (en (cn H (λ H=>?_) (λ H=>?_))))))))))))))))
  ·exact rz (ck 3 (bx H λ x77 h314 H=>sp (AN eU8 h314) (ck 3 (bx H λ l52 h315 H=>sp (BH eU8 1 1 h315) (ck 1 (ae (qN (qs (sg [1,2,3,7,8]) (hFR4_Cells_J1 l52 H)))))))))
  ·exact rz (ck 2 (bx H λ l53 h316 H=>sp (Jc0 eU8 1 1 h316) (ck 1 (ae (qN (qs (sg [1,2,3,7,8]) (hFR4_Cells_J1 l53 H)))))))
 ·exact ex 0 (qx (by cases H;exact xo rfl (sg [2,7])))
theorem Sh {z} (H:K0 n p0_ p1_ p2_=some z):AU Try.prog 40 [.agg (Be p0_),.d (.sl (p1_.map eU8)),.d (.int .i64 p2_)] (.own 1 (z.map eU8)):=by
 exact fO 65 (JeV p0_ p1_ p2_) Try.func40 (sr (ck 2 (en (sr (ck 2 (en (sq (sr (ck 1 (en (bk 0 (bx H λ y79 h317 H=>lX NZ h317 (sg [1,2,3,7,8]) rfl λ s hE63=>qH (qs (hE63) (sr (ck 5 (bx H λ l54 h318 H=>sp (HU 0 1 h318) (ck 1 (ae (qs (LA (k:=0) (sz:=1) 6 (l54.map eU8) (l54.length) (by kernel_rfl) (FS h318) (HT (enc:=eU8) h318) (FT h318)) (re (by cases H;exact pr (rO (v:=.osl 1 1 0 (z.length)) [1] (ao vo)))))))))))))))))))))))
end
section
variable (p0_:K6) (p1_:(List Int)) (p2_:Int) (r198:Bool) (r199:Aa) (r200:(List Int)) (r201:((List (List UInt8))×Int)) (i_25:Int)
def JeZ:St:=⟨(0,.agg [.d (.int .u8 p0_.Base),.d (.int .u8 p0_.Drop),.d (.sl (p0_.More.map E4))])::(1,.d (.sl (p1_.map eU8)))::(2,.d (.int .u8 p2_))::[],[]⟩
def Je0:St:=⟨(2,.d (.int .u8 p2_))::(7,.d (.bool r198))::(8,.ptr 0 0)::(9,.d (.sl (r200.map eU8)))::(10,.d (.sl (r201.1.map eS)))::(15,.d (.int .i64 i_25))::[],[some (.box (Be r199))]⟩
def Je1:St:=⟨(2,.d (.int .u8 p2_))::(7,.d (.bool r198))::(8,.ptr 0 0)::(9,.d (.sl (r200.map eU8)))::(10,.d (.sl (r201.1.map eS)))::[],[some (.box (Be r199))]⟩
def ID:(Unit⊕Bool)->Ex->St->Prop:=xS (xX 0 0 (λ (y:Unit)=>Je1 p2_ r198 r199 r200 r201)) (xR ty Try.f12 (λ (y:Bool)=>.d (.bool y)))
def E9:Int->St:=(λ (x:Int)=>Je0 p2_ r198 r199 r200 r201 x)
variable {p0_ p1_ p2_ r198 r199 r200 r201 i_25}
theorem EE (x:Int) (z:(Int⊕(Unit⊕Bool))) (H:Cf n p2_ r198 r199 r200 r201 x=some z):WP (cxk 108 0) (AD Try.f12) [1,1,1,1,1,1,1,0,1,0,0] (AP 0 (E9 p2_ r198 r199 r200 r201) (ID p2_ r198 r199 r200 r201) z) (E9 p2_ r198 r199 r200 r201 x):=by
 revert H
 generalize x=i_25
 intro H
 refine sq (sr (ck 2 (sp (AC eS r201.1) (ck 1 (en (cn H (λ H=>?_) (λ H=>?_)))))))
 ·refine sk (qz (sq (bk 1 (sr (ck 3 (bx H λ x119 h496 H=>sp (AN eS h496) (ck 3 (bx H λ x120 h497 H=>sp (AN eS h497) (ck 2 (en (cn H (λ H=>?_) (λ H=>?_))))))))))))
  ·exact sr (ck 1 (en (re (qR (qr (by cases H;exact ro rfl rd))))))
  ·exact sk (qN (qz (rz (ck 3 (ae (by cases H;exact og (sg [2,7,8,9,10,15])))))))
 ·exact ex 0 (qx (by cases H;exact xo rfl (sg [2,7,8,9,10])))
theorem JV {z} (H:Dl n p0_ p1_ p2_=some z):AU Try.prog 12 [.agg (Vg p0_),.d (.sl (p1_.map eU8)),.d (.int .u8 p2_)] (.d (.bool z)):=by
 refine fO 108 (JeZ p0_ p1_ p2_) Try.func12 (sr (ck 2 (en (sr (bx H λ r198 h490 H=>ca false (Qo h490) (ck 1 (en (sr (ck 1 (bx H λ r199 h491 H=>ca false (TX h491) (ck 2 (en (sr (ck 2 (bx H λ r200 h492 H=>ca false (Sh h492) (ck 1 (en (sr (ck 2 (bx H λ r201 h493 H=>ca false (Fp h493) (ck 5 (en (sr (ck 2 (bx H λ r202 h494 H=>ca false (HK h494) (ck 7 (en (sq (sr (ck 4 (sE (g:=(!(r201.2 != 0))) (λ hg=>AC eS r201.1) (gc 1 (!(r201.2 != 0)) (ck 1 (gc 2 (!(r201.2 != 0)) (pO (ck 2 (sE (g:=(!((r201.2 != 0)||(!((((r201.1.length:Nat):Int)==0)==(r202.2.2==40)))))) (λ hg=>AC eS r201.1) (gc 2 (!((r201.2 != 0)||(!((((r201.1.length:Nat):Int)==0)==(r202.2.2==40))))) (ck 1 (bx H λ x118 h495 H=>sE (λ hg=>AN eS (F7 h495 hg)) (gc 1 ((!((r201.2 != 0)||(!((((r201.1.length:Nat):Int)==0)==(r202.2.2==40)))))&&(decide (((r201.1.length:Nat):Int)>0))) (ck 1 (gc 1 ((!((r201.2 != 0)||(!((((r201.1.length:Nat):Int)==0)==(r202.2.2==40)))))&&(decide (((r201.1.length:Nat):Int)>0))) (pG (g:=(!((r201.2 != 0)||(!((((r201.1.length:Nat):Int)==0)==(r202.2.2==40)))))) (v:=.d (.bool ((decide (((r201.1.length:Nat):Int)>0))&&(!(x118==r202.1))))) (λ hg=>Q7 (c:=.gv (!((r201.2 != 0)||(!((((r201.1.length:Nat):Int)==0)==(r202.2.2==40))))) (.d (.bool (decide (((r201.1.length:Nat):Int)>0))))) (a:=.gv ((!((r201.2 != 0)||(!((((r201.1.length:Nat):Int)==0)==(r202.2.2==40)))))&&(decide (((r201.1.length:Nat):Int)>0))) (.d (.bool (!(x118==r202.1))))) (b:=.d (.bool false)) rfl rfl rfl ((λ hh=>hh) hg) (λ ht=>by rw [(λ hh=>hh) hg,ht];rfl) trivial) (pO (en (cn H (λ H=>?_) (λ H=>?_))))))))))))))))))))))))))))))))))))))))))))))))
 ·exact sr (ck 1 (en (re (qr (by cases H;exact pr rd)))))
 ·refine sk (qz (sq (sr (ck 1 (en (bk 0 (bx H λ y113 h498 H=>?_)))))))
  rcases y113 with y114|y115
  ·refine lX EE h498 (sg [2,7,8,9,10,15]) rfl λ s hE92=>qH (qs (hE92) (sr (ck 4 (bx H λ r203 h499 H=>ca false (Fp h499) (ck 5 (en (sq (sr (ck 1 (sp (AC eS r201.1) (ck 3 (en (cn H (λ H=>?_) (λ H=>?_))))))))))))))
   ·exact sr (ck 3 (gc 1 r198 (pA (ck 2 (sE (g:=(r198&&(r203.2==2))) (λ hg=>AC eS r203.1) (gc 1 (r198&&(r203.2==2)) (pA (ck 1 (en (re (qr (by cases H;exact pr rd))))))))))))
   ·exact sk (qz (sr (ck 3 (gc 1 r198 (pA (ck 3 (bx H λ r204 h500 H=>cG false (leZ) rfl (λ hg=>KB (F7 h500 hg)) (Or.inl rfl) (DE (λ hh=>hh) (DE (λ hh=>hh) (Gq))) rfl (pA (ck 1 (en (re (by cases H;exact pr rd))))))))))))
  ·exact lR EE h498 (sg [2,7,8,9,10,15]) rfl λ s hE93=>qR (qr (by cases H;exact pr hE93))
end
end Go.AI
end
section
namespace Go.AI
def CRd (F:Nat->Option Obj) (l:List D) (cs:List Value):Prop:=l.length=cs.length/\∀ (i:Nat) (y:D) (v:Value),l[i]? = some y->cs[i]? = some v->Bp F y v
def IE {α:Type} (P:Program) (t:TypeId) (enc:α->List D) (ok:α->Prop):Prop:=
 ∀ (H:Type) (e:TypeId×Value->H) (w:World) (base:Nat) (spare:Nat->Bool) (held:Bool) (fuel:Nat) (cs:List Value) (x:DataW H×List MemPlace),DataW.trod e P w base spare held fuel t cs=some x->∃ a:α,ok a/\CRd (λ b=>w.heap[b]?) (enc a) cs
theorem Si {F:Nat->Option Obj} {y:D} {v:Value} (h:Bp F y v):CRd F [y] [v]:=by
 refine ⟨rfl,λ i a b ha hb=>?_⟩
 cases i with
 | zero=>simp at ha hb;subst ha;subst hb;exact h
 | succ i=>simp at ha
theorem WW {P:Program} {t:TypeId} {k:IntKind} (ht:P.underlying t=some (.int k)):IE P t (λ n=>[.int k n]) (λ n=>(Lit.int k n).wf=true):=by
 intro H e w base spare held fuel cs x h
 obtain ⟨n,rfl,_,hw⟩:=DataW.trod_int ht h
 exact ⟨n,hw,Si (.int k n)⟩
theorem TY {α:Type} {Q:Nat->α->Prop}:∀ n,(∀ i,i<n->∃ a,Q i a)->∃ l:List α,l.length=n/\∀ i a,l[i]? = some a->Q i a:=by
 intro n
 induction n with
 | zero=>intro _;exact ⟨[],rfl,λ i a h=>by simp at h⟩
 | succ n ih=>
  intro h
  obtain ⟨l,hl,hq⟩:=ih λ i hi=>h i (by omega)
  obtain ⟨a,ha⟩:=h n (by omega)
  refine ⟨l++[a],by simp [hl],λ i b hb=>?_⟩
  rcases Nat.lt_or_ge i l.length with hlt|hge
  ·rw [JgV hlt] at hb;exact hq i b hb
  ·rw [Jg4 hge] at hb
   have:i-l.length=0:=by have:=Ad hb;simp at this;omega
   rw [this] at hb
   simp at hb
   subst hb
   have:i=n:=by omega
   subst this
   exact ha
theorem TZ {α β:Type} {f:α->Option β}:∀ {l:List α} {r:List β},l.mapM f=some r->r.length=l.length/\∀ (i:Nat) (a:α),l[i]? = some a->r[i]? = f a:=by
 intro l
 induction l with
 | nil=>intro r h;simp at h;subst h;exact ⟨rfl,λ i a h=>by simp at h⟩
 | cons a l ih=>
  intro r h
  rw [List.mapM_cons] at h
  simp only [Option.bind_eq_bind,Option.bind_eq_some_iff,Option.pure_def,JgW] at h
  obtain ⟨b,hb,r',hr',rfl⟩:=h
  obtain ⟨h1,h2⟩:=ih hr'
  refine ⟨by simp [h1],λ i x hx=>?_⟩
  cases i with
  | zero=>simp at hx;subst hx;simp [hb]
  | succ i=>simpa using h2 i x (by simpa using hx)
theorem NI {α:Type} {P:Program} {t e:TypeId} {enc:α->List D} {ok:α->Prop} {sz:Nat} (ht:P.underlying t=some (.slice e)) (hsz:P.cellsOf e=sz) (h1:Nat.ble 1 sz=true) (hl:∀ a,(enc a).length=sz) (he:IE P e enc ok):IE P t (eL enc) (λ l=>∀ a∈l,ok a):=by
 intro H en w base spare held fuel cs x h
 have h1:=Jg1 h1
 rcases DataW.trod_slice ht h with ⟨rfl,_⟩|⟨a,len,cap,elems,rest,n,_,rfl,_,_,hcap,_,hel,hget,_,_⟩
 ·exact ⟨[],λ a h=>by simp at h,Si (.sl0 _ _)⟩
 ·rw [hsz] at hget
  have hex:∀ i,i<len->∃ y:α,ok y/\∃ ci,w.cells? base (a.add (i*sz)) sz=some ci/\CRd (λ b=>w.heap[b]?) (enc y) ci:=λ i hi=>by
   have hg:=hget i hi
   rw [JgN (show i<elems.length by omega)] at hg
   simp only [Option.bind_eq_some_iff] at hg
   obtain ⟨ci,hc,htr⟩:=hg
   obtain ⟨y,hy,hcr⟩:=he H en w base spare held n ci _ htr
   exact ⟨y,hy,ci,hc,hcr⟩
  obtain ⟨l,hll,hq⟩:=TY len hex
  refine ⟨l,λ y hy=>?_,Si ?_⟩
  ·obtain ⟨i,hi⟩:=List.mem_iff_getElem?.1 hy
   exact (hq i y hi).1
  ·rcases Nat.eq_zero_or_pos len with h0|hpos
   ·have:l=[]:=List.length_eq_zero_iff.1 (by omega)
    subst this;subst h0
    exact .sl0 _ _
   ·
    have hcell:∀ i y,l[i]? = some y->∀ j,j<sz->∃ v,w.cell? ((a.add (i*sz)).add j)=some v/\∀ d,(enc y)[j]? = some d->Bp (λ b=>w.heap[b]?) d v:=λ i y hy j hj=>by
     obtain ⟨_,ci,hc,hcr⟩:=hq i y hy
     unfold World.cells? at hc
     split at hc
     ·obtain ⟨g1,g2⟩:=TZ hc
      have:=g2 j j (by simp [hj])
      have hjc:j<ci.length:=by rw [g1];simpa using hj
      rw [JgN hjc] at this
      exact ⟨ci[j],this.symm,λ d hd=>hcr.2 j d _ hd (JgN hjc)⟩
     ·cases hc
    have h0:l[0]? = some l[0]:=JgN (by omega)
    obtain ⟨v0,hv0,_⟩:=hcell 0 _ h0 0 (by omega)
    have ha0:(a.add (0*sz)).add 0=a:=by simp [Addr.add]
    rw [ha0] at hv0
    obtain ⟨b,off,spot⟩:=a
    unfold World.cell? at hv0
    simp only at hv0
    split at hv0
    ·rename_i c ty fr hblk
     cases spot with
     | some s=>simp at hv0
     | none=>
      have hcell':∀ i y,l[i]? = some y->∀ j d,(enc y)[j]? = some d->∃ v,c[off+i*sz+j]? = some v/\Bp (λ b=>w.heap[b]?) d v:=λ i y hy j d hd=>by
       have hj:j<sz:=by rw [← hl y];exact Ad hd
       obtain ⟨v,hv,hr⟩:=hcell i y hy j hj
       rw [Cm,Cm,J4 hblk] at hv
       exact ⟨v,hv,hr d hd⟩
      have hlen:(l.map enc).length=len:=by simp [hll]
      have:=Bp.sl (F:=λ b=>w.heap[b]?) (l.map enc) b off cap sz c ty fr (λ i j=>(c[off+i*sz+j]?).getD undef) hblk (λ e he=>by
        simp only [List.mem_map] at he
        obtain ⟨y,_,rfl⟩:=he
        exact hl y) (by omega) (λ i e hi j d hd=>by
        simp only [JgR,JgQ] at hi
        obtain ⟨y,hy,rfl⟩:=hi
        obtain ⟨v,hv,_⟩:=hcell' i y hy j d hd
        simp only [hv,Option.getD_some]) (λ i e hi j d hd=>by
        simp only [JgR,JgQ] at hi
        obtain ⟨y,hy,rfl⟩:=hi
        obtain ⟨v,hv,hr⟩:=hcell' i y hy j d hd
        simp only [hv,Option.getD_some]
        exact hr)
      rw [hlen] at this
      exact this
    ·cases hv0
theorem EF {F:Nat->Option Obj} {l m:List D} {cs:List Value} {o n:Nat} (h:CRd F l ((cs.drop o).take n)) (hn:Nat.beq l.length n=true) (h':CRd F m (cs.drop (o+n))):CRd F (l++m) (cs.drop o):=by
 have hn:=JgU hn
 have e:cs.drop o=(cs.drop o).take n++cs.drop (o+n):=by rw [← List.drop_drop,List.take_append_drop]
 rw [e]
 refine ⟨by simp only [List.length_append,h.1,h'.1],λ i y v hy hv=>?_⟩
 rcases Nat.lt_or_ge i l.length with hlt|hge
 ·rw [JgV hlt] at hy
  rw [JgV (by rw [← h.1];exact hlt)] at hv
  exact h.2 i y v hy hv
 ·rw [Jg4 hge] at hy
  rw [Jg4 (by rw [← h.1];exact hge),← h.1] at hv
  exact h'.2 _ y v hy hv
theorem Sj {F:Nat->Option Obj} {cs:List Value} {o:Nat} (h:cs.length<=o):CRd F [] (cs.drop o):=by
 rw [List.drop_eq_nil_of_le h];exact ⟨rfl,λ i y v hy=>by simp at hy⟩
theorem Vh {H:Type} {enc:TypeId×Value->H} {P:Program} {w:World} {base:Nat} {spare:Nat->Bool} {held:Bool} {fuel:Nat} {t e:TypeId} {n:Nat} {cs:List Value} {x:DataW H×List MemPlace} (ht:P.underlying t=some (.array n e)) (h:DataW.trod enc P w base spare held fuel t cs=some x) :
  ∃ m,cs.length=P.cellsOf t/\∀ i,i<n->∃ y,DataW.trod enc P w base spare held m e ((cs.drop (i*P.cellsOf e)).take (P.cellsOf e))=some y:=by
 cases fuel with
 | zero=>simp [DataW.trod] at h
 | succ m=>
  unfold DataW.trod at h
  rw [ht] at h
  split at h<;>simp_all
  obtain ⟨xs,hp,_⟩:=h.2
  refine ⟨m,λ i hi=>?_⟩
  obtain ⟨g1,g2⟩:=TZ hp
  have:=g2 i i (by simp [hi])
  have hlt:i<xs.length:=by rw [g1];simpa using hi
  rw [JgN hlt] at this
  exact ⟨_,_,this.symm⟩
end Go.AI
end
section
namespace Go.AI
open Go.ChangeShapes Go.WideShapes Go.ChangeAt Go.RowKit
variable {P:Program} {H:Type} {en:TypeId×Value->H} {W W':World} {base:Nat} {spare:Nat->Bool} {held:Bool} {t e:TypeId} {v:Value} {d:DataW H} {ps:List MemPlace} {α:Type} {enc:α->List D} {ok:α->Prop}
theorem JbL {cs:Array Value} (hv:v=.agg cs) (hd:DataW.Trod en P W base spare held t v d ps) (hr:IE P t enc ok):∃ a,ok a/\Af (λ b=>W.heap[b]?) noR (.agg ((enc a).map .d)) v:=by
 subst hv
 obtain ⟨fuel,hf⟩:=hd
 obtain ⟨a,h1,h2,h3⟩:=hr H en W base spare held fuel _ _ hf
 refine ⟨a,h1,.agg _ _ (by simpa [Value.cells] using h2) λ i x u hx hu=>?_⟩
 simp only [JgR,JgQ] at hx
 obtain ⟨y,hy,rfl⟩:=hx
 exact .d _ _ (h3 i y u hy (by simpa [Value.cells] using hu))
theorem VV {y:α->D} (hc:v.cells=#[v]) (hd:DataW.Trod en P W base spare held t v d ps) (hr:IE P t enc ok) (he:∀ a,enc a=[y a]):∃ a,ok a/\Af (λ b=>W.heap[b]?) noR (.d (y a)) v:=by
 obtain ⟨fuel,hf⟩:=hd
 obtain ⟨a,h1,h2,h3⟩:=hr H en W base spare held fuel _ _ hf
 refine ⟨a,h1,.d _ _ (h3 0 (y a) v (by rw [he];rfl) (by rw [hc];rfl))⟩
theorem Je2 {F:Nat->Option Obj} {ρ:Nat->Option Loc}:CR F ρ [] []:=⟨rfl,λ i a v h=>by simp at h⟩
theorem Sk {F:Nat->Option Obj} {ρ:Nat->Option Loc} {a:AV} {v:Value} {l:List AV} {vs:List Value} (h:Af F ρ a v) (h':CR F ρ l vs):CR F ρ (a::l) (v::vs):=by
 refine ⟨by simp [h'.1],λ i x u hx hu=>?_⟩
 cases i with
 | zero=>simp at hx hu;subst hx;subst hu;exact h
 | succ i=>exact h'.2 i x u (by simpa using hx) (by simpa using hu)
theorem fld {w:World} {fuel:Nat} {cs:List Value} {fs:Array Field} {xs:List (DataW H×List MemPlace)} (hg:∀ (i:Nat) (f:Field),fs[i]? = some f->DataW.trod en P w base spare held fuel f.type ((cs.drop f.offset).take (P.cellsOf f.type))=xs[i]?) (hxl:xs.length=fs.size) (i:Nat) {f:Field} (hf:fs[i]? = some f) (u o n:Nat) (hu:f.type=u) (ho:f.offset=o) (hn:P.cellsOf u=n) (hr:IE P u enc ok) :
  ∃ a,ok a/\CRd (λ b=>w.heap[b]?) (enc a) ((cs.drop o).take n):=by
 have:=hg i f hf
 have hi:i<xs.length:=by rw [hxl];exact Ao hf
 rw [JgN hi,hu,ho,hn] at this
 exact hr H en w base spare held fuel _ _ this
theorem Jf7 {w:World} {fuel:Nat} {cs:List Value} {m:Nat} (hg:∀ i,i<m->∃ y,DataW.trod en P w base spare held fuel e ((cs.drop (i*P.cellsOf e)).take (P.cellsOf e))=some y) (i:Nat) (hi:Nat.ble (i+1) m=true) (o n:Nat) (hn:P.cellsOf e=n) (ho:i*n=o) (hr:IE P e enc ok) :
  ∃ a,ok a/\CRd (λ b=>w.heap[b]?) (enc a) ((cs.drop o).take n):=by
 obtain ⟨y,hy⟩:=hg i (Jg1 hi)
 rw [hn,ho] at hy
 exact hr H en w base spare held fuel _ _ hy
theorem Jaa {f:FuncId} {args:List AV} {vs:Array Value} (hc:AU P f args (.d (.bool true))) (hcr:CR (λ b=>W.heap[b]?) noR args vs.toList):Calls P f vs W λ e W'=>e=.returned (.bool true)/\(∀ before:List MemPlace,W.keptBut W' (·∈before))/\∀ b,b<W.heap.size->W'.heap[b]? = W.heap[b]? := by
 refine (hc.2 (λ b=>W.heap[b]?) W vs hcr λ b o h=>h).mono λ e W' h=>?_
 obtain ⟨v,F',ρ,rfl,hS,hr,hmu⟩:=h
 have hv:v=.bool true:=by
  have:(BV true 0 (.d (.bool true))).1=.d (.bool true):=rfl
  rw [this] at hr
  exact hr.bool
 subst hv
 have hold:∀ b,b<W.heap.size->W'.heap[b]? = W.heap[b]? := λ b hb=>hS.old b (by omega)
 refine ⟨rfl,λ before=>World.keptBut_mono (λ p hp=>hp.elim) (?_:W.keptBut W' λ _=>False),hold⟩
 refine ⟨hmu.1,hmu.2.1,λ i hi=>?_⟩
 rw [hold i hi]
 cases hh:W.heap[i]? with
 | none=>rfl
 | some o=>cases o<;>first|exact ⟨rfl,rfl,rfl,λ _ _=>rfl⟩|exact .inr ⟨rfl,rfl⟩|rfl
theorem WX {f:Func} {s:ChangeSpec} {apart fresh handsOn again:Bool} {args:Array Value} {ds gs:List (DataW H)} {before pa pv:List MemPlace}
  (hW:DataW.Whole en P f.params.toList s.vars apart W args.toList ds gs before)
  (hres:∀ (b:Nat) (sp:Nat->Bool) (hd:Bool),DataW.TrodAll en P W' b sp hd f.resultTypes.toList (v.resultList f.resultTypes.size) (s.fn H (ds++gs)).results [])
  (hargs:∀ sp:Nat->Bool,(∀ p∈before,sp p.block=true)->DataW.TrodAll en P W' 0 sp true f.params.toList args.toList (s.fn H (ds++gs)).args pa)
  (hvars:∀ sp:Nat->Bool,(∀ p∈before,sp p.block=true)->DataW.TrodVars en P W' sp s.vars (s.fn H (ds++gs)).vars pv)
  (hps:before=pa++pv) (hk:W.keptBut W' (·∈before)) (hold:∀ b,b<W.heap.size->W'.heap[b]? = W.heap[b]?)
  (hok:∀ (j:Nat) (t:TypeId) (r:Value),f.resultTypes[j]? = some t->(v.resultList f.resultTypes.size)[j]? = some r->Value.okWide P W' .any 0 t r) :
  s.post en P f apart fresh handsOn again W args v W':=by
 have hin:∀ p∈before,(λ b=>decide (b<W.heap.size)) p.block=true:=λ p hp=>by simpa using hW.lt p hp
 have hlt:=hW.lt
 refine ⟨ds,gs,before,[],pa,pv,hW,hres _ _ _,hargs _ hin,hvars _ hin,World.keptBut_mono (λ p hp=>⟨hp,?_⟩) hk,λ _=>?_⟩
 ·rw [hps,List.mem_append] at hp
  exact Or.inr hp
 ·obtain ⟨_,_,_,_,_,hz,hn⟩:=hW
  refine ⟨hok,_,_,([]++pa)++pv,⟨[]++pa,pv,trodAll_append (hargs _ (λ _ _=>rfl)) (hres _ _ _),hvars _ (λ _ _=>rfl),rfl,?_,?_⟩,?_⟩
  ·intro b off hp
   have hp:MemPlace.cell b off∈before:=by rw [hps];simpa using hp
   have:=hz b off hp
   simp only [World.frozen?,hold b (hlt _ hp)] at this ⊢
   exact this
  ·intro ha
   have:=hn ha
   rw [hps] at this
   simpa using this
  ·intro p hp _
   rw [hps]
   simpa using hp
theorem Jab (hl:laidOutB P=true) (hr:P.readableRec t=true) (hrow:t<P.types.size) (h:DataW.Trod en P W 0 (λ _=>true) true t v d ps) (hb:∀ p∈ps,p.block<W.heap.size) {sp:Nat->Bool} (hs:∀ p∈ps,sp p.block=true) (hold:∀ b,b<W.heap.size->W'.heap[b]? = W.heap[b]?):DataW.Trod en P W' 0 sp true t v d ps:=by
 refine WideElems.Trod_stays hl hr hrow h (λ p hp=>?_) hs
 have:=hb p hp
 cases p with
 | cell b o=>exact World.cell?_of_block (w:=W) (hold b this)
 | map b=>exact hold b this
end Go.AI
end
section
namespace Go.AI
open Go.Proofs Go.ChangeShapes Go.WideShapes Go.ChangeAt Go.RowKit
def okI (k:IntKind) (n:Int):Prop:=(Lit.int k n).wf=true
theorem rd5:IE Try.prog 5 eU8 (okI .u8):=WW Try.underlying5
theorem Je3:IE Try.prog 50 (eL eU8) (λ l=>∀ a∈l,okI .u8 a):=NI (sz:=1) Try.underlying50 (by kernel_rfl) rfl (λ _=>rfl) rd5
theorem JgI:IE Try.prog 67 (Jf5 eU8) (λ x=>okI .u8 x.a0/\okI .u8 x.a1):=by
 intro H e w base spare held fuel cs x h
 obtain ⟨m,hcl,hg⟩:=Vh Try.underlying67 h
 have hcl:cs.length=2:=hcl.trans (by kernel_rfl)
 obtain ⟨a0,k0,c0⟩:=Jf7 hg 0 rfl 0 1 (by kernel_rfl) rfl rd5
 obtain ⟨a1,k1,c1⟩:=Jf7 hg 1 rfl 1 1 (by kernel_rfl) rfl rd5
 refine ⟨⟨a0,a1⟩,⟨k0,k1⟩,?_⟩
 have:=EF c0 rfl (EF c1 rfl (Sj (Nat.le_of_eq hcl)))
 exact this
def Jg (x:C8):Prop:=(∀ a∈x.P,okI .u8 a)/\(∀ a∈x.C,okI .u8 a)/\okI .u8 x.L/\okI .u8 x.R/\(okI .u8 x.W.a0/\okI .u8 x.W.a1)
theorem JgJ:IE Try.prog 69 E4 Jg:=by
 intro H e w base spare held fuel cs x h
 obtain ⟨xs,n,_,_,hcl,hxl,hg⟩:=DataW.trod_struct Try.underlying69 h
 have hcl:cs.length=6:=hcl.trans (by kernel_rfl)
 obtain ⟨a0,k0,c0⟩:=fld hg hxl 0 rfl 50 0 1 rfl rfl (by kernel_rfl) Je3
 obtain ⟨a1,k1,c1⟩:=fld hg hxl 1 rfl 50 1 1 rfl rfl (by kernel_rfl) Je3
 obtain ⟨a2,k2,c2⟩:=fld hg hxl 2 rfl 5 2 1 rfl rfl (by kernel_rfl) rd5
 obtain ⟨a3,k3,c3⟩:=fld hg hxl 3 rfl 5 3 1 rfl rfl (by kernel_rfl) rd5
 obtain ⟨a4,k4,c4⟩:=fld hg hxl 4 rfl 67 4 2 rfl rfl (by kernel_rfl) JgI
 refine ⟨⟨a0,a1,a2,a3,a4⟩,⟨k0,k1,k2,k3,k4⟩,?_⟩
 have:=EF c0 rfl (EF c1 rfl (EF c2 rfl (EF c3 rfl (EF c4 rfl (Sj (Nat.le_of_eq hcl))))))
 exact this
theorem JgK:IE Try.prog 22 (eL E4) (λ l=>∀ a∈l,Jg a):=NI (sz:=6) Try.underlying22 (by kernel_rfl) rfl (λ _=>rfl) JgJ
def Vi (x:K6):Prop:=okI .u8 x.Base/\okI .u8 x.Drop/\(∀ a∈x.More,Jg a)
theorem JgL:IE Try.prog 24 Jf6 Vi:=by
 intro H e w base spare held fuel cs x h
 obtain ⟨xs,n,_,_,hcl,hxl,hg⟩:=DataW.trod_struct Try.underlying24 h
 have hcl:cs.length=3:=hcl.trans (by kernel_rfl)
 obtain ⟨a0,k0,c0⟩:=fld hg hxl 0 rfl 5 0 1 rfl rfl (by kernel_rfl) rd5
 obtain ⟨a1,k1,c1⟩:=fld hg hxl 1 rfl 5 1 1 rfl rfl (by kernel_rfl) rd5
 obtain ⟨a2,k2,c2⟩:=fld hg hxl 2 rfl 22 2 1 rfl rfl (by kernel_rfl) JgK
 refine ⟨⟨a0,a1,a2⟩,⟨k0,k1,k2⟩,?_⟩
 have:=EF c0 rfl (EF c1 rfl (EF c2 rfl (Sj (Nat.le_of_eq hcl))))
 exact this
end Go.AI
end
section
namespace Go.AI
def Le {α:Type} (a b:Option α):Prop:=∀ z,a=some z->b=some z
theorem Le.refl {α:Type} (a:Option α):Le a a:=λ _ h=>h
theorem Le.bind {α β:Type} {a a':Option α} {f f':α->Option β} (h:Le a a') (hf:∀ x,Le (f x) (f' x)):Le (a.bind f) (a'.bind f'):=by
 intro z hz
 obtain ⟨x,h1,h2⟩:=bind_some hz
 rw [h x h1]
 exact hf x z h2
theorem Le.ite {α:Type} {c:Prop} [Decidable c] {a a' b b':Option α} (h:Le a a') (h':Le b b'):Le (if c then a else b) (if c then a' else b'):=by
 split
 ·exact h
 ·exact h'
theorem Le.whl {σ ρ:Type} {body body':σ->Option (σ⊕ρ)} (hb:∀ x,Le (body x) (body' x)):∀ {n m:Nat},n<=m->∀ x,Le (whl body n x) (whl body' m x):=by
 intro n
 induction n with
 | zero=>intro m _ x z hz;cases hz
 | succ n ih=>
  intro m hm x z hz
  cases m with
  | zero=>omega
  | succ m=>
   simp only [Go.AI.whl] at hz ⊢
   cases hx:body x with
   | none=>rw [hx] at hz;cases hz
   | some y=>
    rw [hb x y hx]
    rw [hx] at hz
    cases y with
    | inl y=>exact ih (by omega) y z hz
    | inr r=>exact hz
theorem Le.sum {α β γ:Type} {y:α⊕β} {f f':α->Option γ} {g g':β->Option γ} (hf:∀ a,Le (f a) (f' a)) (hg:∀ b,Le (g b) (g' b)):Le (match y with | .inl a=>f a | .inr b=>g b) (match y with | .inl a=>f' a | .inr b=>g' b):=by
 cases y with
 | inl a=>exact hf a
 | inr b=>exact hg b
def Ev {α:Type} (f:Nat->Option α) (z:α):Prop:=∃ n,∀ m,n<=m->f m=some z
theorem Ev.const {α:Type} {z:α}:Ev (λ _=>some z) z:=⟨0,λ _ _=>rfl⟩
theorem Ev.of {α:Type} {f:Nat->Option α} {z:α} (hm:∀ n m,n<=m->Le (f n) (f m)) {n:Nat} (h:f n=some z):Ev f z:=⟨n,λ m hnm=>hm n m hnm z h⟩
theorem Ev.all {α:Type} {f:Nat->Option α} {z:α} (h:∀ n,f n=some z):Ev f z:=⟨0,λ m _=>h m⟩
theorem Ev.bind {α β:Type} {f:Nat->Option α} {g:Nat->α->Option β} {x:α} {z:β} (h:Ev f x) (hg:Ev (λ n=>g n x) z):Ev (λ n=>(f n).bind (g n)) z:=by
 obtain ⟨n,hn⟩:=h
 obtain ⟨m,hm⟩:=hg
 refine ⟨max n m,λ k hk=>?_⟩
 show (f k).bind (g k)=_
 rw [hn k (by omega)]
 exact hm k (by omega)
theorem Ev.out {α:Type} {f:Nat->Option α} {z:α} (h:Ev f z):∃ n,f n=some z:=by
 obtain ⟨n,hn⟩:=h
 exact ⟨n,hn n (Nat.le_refl n)⟩
theorem Ev.congr {α:Type} {f g:Nat->Option α} {z:α} (h:Ev f z) (e:∀ n,g n=f n):Ev g z:=by
 obtain ⟨n,hn⟩:=h
 exact ⟨n,λ m hm=>by rw [e m];exact hn m hm⟩
theorem Ev.whl {σ ρ:Type} {body:Nat->σ->Option (σ⊕ρ)} {r:ρ} (I:Nat->σ->Prop) (h:∀ k x,I k x->(∃ y j,j<k/\I j y/\Ev (λ n=>body n x) (.inl y))\/Ev (λ n=>body n x) (.inr r)):∀ (k:Nat) (x:σ),I k x->Ev (λ n=>Go.AI.whl (body n) n x) r:=by
 have key:∀ (k:Nat) (x:σ),I k x->∃ N c,∀ n fuel,N<=n->c<=fuel->Go.AI.whl (body n) fuel x=some r:=by
  intro k
  induction k using Nat.strongRecOn with
  | _ k ih=>
   intro x hx
   rcases h k x hx with ⟨y,j,hj,hy,N1,h1⟩|⟨N1,h1⟩
   ·obtain ⟨N2,c,h2⟩:=ih j hj y hy
    refine ⟨max N1 N2,c+1,λ n fuel hn hf=>?_⟩
    cases fuel with
    | zero=>omega
    | succ fuel=>
     have e:=h1 n (by omega)
     simp only at e
     simp only [Go.AI.whl,e]
     exact h2 n fuel (by omega) (by omega)
   ·refine ⟨N1,1,λ n fuel hn hf=>?_⟩
    cases fuel with
    | zero=>omega
    | succ fuel=>
     have e:=h1 n hn
     simp only at e
     simp only [Go.AI.whl,e]
 intro k x hx
 obtain ⟨N,c,hh⟩:=key k x hx
 exact ⟨max N c,λ m hm=>hh m m (by omega) (by omega)⟩
end Go.AI
end
section
namespace Go.AI
theorem lr {α:Type} {x:Option α}:Le x x:=Le.refl x
theorem M8 {n m} (_:n<=m) (a b):Le (FU n a b) (FU m a b):=.ite (.bind lr λ _=>.bind lr λ _=>.bind lr λ _=>lr) lr
theorem Qv {n m} (h:n<=m):Le (I9 n) (I9 m):=.bind (Le.whl (λ _=>M8 h _ _) h _) λ _=>lr
theorem LI {n m} (_:n<=m) (a):Le (Dr n a) (Dr m a):=lr
theorem PV {n m} (h:n<=m) (a b):Le (EX n a b) (EX m a b):=.ite (.bind lr λ _=>.bind (LI h _) λ _=>.ite lr lr) lr
theorem T1 {n m} (h:n<=m) (a):Le (Io n a) (Io m a):=.bind (Le.whl (λ _=>PV h _ _) h _) λ y2=>by rcases y2 with _|_;exact lr;exact lr
theorem Jh {n m} (_:n<=m) (a):Le (EY n a) (EY m a):=.ite lr (.ite lr (.ite lr (.ite lr lr)))
theorem LJ {n m} (h:n<=m) (a b):Le (CN n a b) (CN m a b):=.ite (.bind lr λ _=>.bind (Jh h _) λ _=>.ite lr lr) lr
theorem N0 {n m} (h:n<=m) (a):Le (D6 n a) (D6 m a):=.bind (Le.whl (λ _=>LJ h _ _) h _) λ y5=>by rcases y5 with _|_;exact lr;exact lr
theorem Sl {n m} (_:n<=m) (a):Le (Ip n a) (Ip m a):=lr
theorem N3 {n m} (h:n<=m) (a b):Le (D7 n a b) (D7 m a b):=.ite (.bind lr λ _=>.bind (Sl h _) λ _=>.ite lr lr) lr
theorem Sm {n m} (h:n<=m) (a b):Le (GS n a b) (GS m a b):=.ite lr (.bind (T1 h _) λ _=>.ite lr (.ite lr (.ite lr (.bind (N0 h _) λ _=>.ite (.bind (Le.ite (lr) (lr)) λ _=>lr) (.bind (Le.whl (λ _=>N3 h _ _) h _) λ y8=>by rcases y8 with _|_;exact lr;exact lr)))))
theorem N4 {n m} (_:n<=m) (a b c):Le (D8 n a b c) (D8 m a b c):=.ite (.bind lr λ _=>.bind lr λ _=>.ite lr lr) lr
theorem Sn {n m} (h:n<=m) (a b):Le (GT n a b) (GT m a b):=.ite lr (.bind (Le.whl (λ _=>N4 h _ _ _) h _) λ y11=>by rcases y11 with _|_;exact lr;exact lr)
theorem So {n m} (h:n<=m) (a b):Le (GU n a b) (GU m a b):=.bind (Le.ite (Sn h _ _) (lr)) λ _=>lr
theorem N5 {n m} (h:n<=m) (a b c d e):Le (Df n a b c d e) (Df m a b c d e):=.ite (.bind lr λ _=>.bind (So h _ _) λ _=>.ite lr lr) lr
theorem N6 {n m} (h:n<=m) (a b):Le (Dg n a b) (Dg m a b):=.ite (.bind lr λ _=>.bind (Sm h _ _) λ _=>.ite lr (.bind lr λ _=>.bind (Le.whl (λ _=>N5 h _ _ _ _ _) h _) λ y14=>by rcases y14 with _|_;exact lr;exact lr)) lr
theorem Sp {n m} (h:n<=m) (a):Le (GV n a) (GV m a):=.ite lr (.bind (Le.ite (lr) (lr)) λ _=>.ite lr (.ite lr (.bind (Le.whl (λ _=>N6 h _ _) h _) λ y17=>by rcases y17 with _|_;exact lr;exact lr)))
theorem Ji {n m} (h:n<=m) (a):Le (FL n a) (FL m a):=.bind (Sp h _) λ _=>lr
theorem Sq {n m} (_:n<=m):Le (Iq n) (Iq m):=lr
theorem Jj {n m} (_:n<=m) (a b):Le (GG n a b) (GG m a b):=.bind (Le.ite (lr) (lr)) λ _=>lr
theorem NJ {n m} (h:n<=m) (a b c):Le (G5 n a b c) (G5 m a b c):=.ite lr (.bind lr λ _=>.bind (Le.ite (Jj h _ _) (lr)) λ _=>.ite lr (.ite (.ite lr lr) (.bind lr λ _=>.bind (Jh h _) λ _=>.bind (Jj h _ _) λ _=>.ite lr (.bind lr λ _=>.bind (Jh h _) λ _=>lr))))
theorem HM {n m} (_:n<=m) (a b c d):Le (Co n a b c d) (Co m a b c d):=lr
theorem HN {n m} (h:n<=m) (a b c d e f):Le (CE n a b c d e f) (CE m a b c d e f):=.bind lr λ _=>.bind lr λ _=>HM h _ _ _ _
theorem Mz {n m} (h:n<=m) (a b c d e f):Le (Br n a b c d e f) (Br m a b c d e f):=.ite (.bind lr λ _=>.bind (NJ h _ _ _) λ _=>.ite (HM h _ _ _ _) (.ite (.bind lr λ _=>.bind lr λ _=>HN h _ _ _ _ _ _) (HN h _ _ _ _ _ _))) lr
theorem MA {n m} (h:n<=m) (a b c d e):Le (Cp n a b c d e) (Cp m a b c d e):=.ite (.bind (Le.whl (λ _=>Mz h _ _ _ _ _ _) h _) λ _=>lr) lr
theorem KI {n m} (h:n<=m) (a):Le (DQ n a) (DQ m a):=.bind (Sq h) λ _=>.bind (Le.whl (λ _=>MA h _ _ _ _ _) h _) λ _=>lr
theorem Qx {n m} (h:n<=m) (a):Le (G6 n a) (G6 m a):=.bind (KI h _) λ _=>lr
theorem KJ {n m} (h:n<=m) (a b):Le (DR n a b) (DR m a b):=.bind (Le.ite (Jj h _ _) (lr)) λ _=>.bind (Le.ite (Jj h _ _) (lr)) λ _=>lr
theorem JI {n m} (_:n<=m) (a b c):Le (Dh n a b c) (Dh m a b c):=lr
theorem N7 {n m} (h:n<=m) (a b c d e):Le (CY n a b c d e) (CY m a b c d e):=.ite (.bind lr λ _=>.bind (KJ h _ _) λ _=>.ite (.bind lr λ _=>.bind lr λ _=>.bind lr λ _=>JI h _ _ _) (JI h _ _ _)) lr
theorem JJ {n m} (_:n<=m) (a b c):Le (Di n a b c) (Di m a b c):=lr
theorem N8 {n m} (h:n<=m) (a b c d e):Le (CZ n a b c d e) (CZ m a b c d e):=.ite (.bind lr λ _=>.bind lr λ _=>.ite (.bind lr λ _=>.bind lr λ _=>.bind lr λ _=>JJ h _ _ _) (JJ h _ _ _)) lr
theorem N9 {n m} (h:n<=m) (a b c):Le (D9 n a b c) (D9 m a b c):=.ite (.bind lr λ _=>.bind lr λ _=>.bind lr λ _=>.bind (Le.whl (λ _=>N8 h _ _ _ _ _) h _) λ _=>lr) lr
theorem Sr {n m} (h:n<=m) (a):Le (GW n a) (GW m a):=.bind (KI h _) λ _=>.bind lr λ _=>.bind (Le.whl (λ _=>N7 h _ _ _ _ _) h _) λ _=>.bind (Le.whl (λ _=>N9 h _ _ _) h _) λ _=>lr
theorem M9 {n m} (_:n<=m) (a b c):Le (Du n a b c) (Du m a b c):=.bind (Le.ite (lr) (lr)) λ _=>.bind (Le.ite (lr) (lr)) λ _=>.ite lr lr
theorem H6 {n m} (h:n<=m) (a b):Le (DS n a b) (DS m a b):=.bind (Le.whl (λ _=>M9 h _ _ _) h _) λ _=>lr
theorem GC {n m} (_:n<=m) (a b c):Le (Bk n a b c) (Bk m a b c):=.ite (.bind lr λ _=>.bind lr λ _=>lr) lr
theorem LK {n m} (_:n<=m) (a b c d):Le (Cu n a b c d) (Cu m a b c d):=.ite (.bind lr λ _=>lr) lr
theorem Hd {n m} (_:n<=m) (a b):Le (CO n a b) (CO m a b):=lr
theorem LL {n m} (h:n<=m) (a b c d e f g):Le (B7 n a b c d e f g) (B7 m a b c d e f g):=.ite (.bind lr λ _=>.bind (NJ h _ _ _) λ _=>.bind (Le.ite (lr) (lr)) λ _=>.ite (.bind lr λ _=>.bind lr λ _=>Hd h _ _) (Hd h _ _)) lr
theorem LM {n m} (h:n<=m) (a b c d e):Le (Cv n a b c d e) (Cv m a b c d e):=.ite (.bind lr λ _=>.bind (KJ h _ _) λ _=>.bind lr λ _=>.bind lr λ _=>.bind (Le.whl (λ _=>LL h _ _ _ _ _ _ _) h _) λ _=>lr) lr
theorem JK {n m} (h:n<=m) (a):Le (Dj n a) (Dj m a):=.bind (Qx h _) λ _=>.bind (Le.whl (λ _=>LK h _ _ _ _) h _) λ _=>.bind lr λ _=>.bind lr λ _=>.bind (Sr h _) λ _=>.bind (Le.whl (λ _=>LM h _ _ _ _ _) h _) λ _=>lr
theorem Fz {n m} (_:n<=m) (a b c d):Le (CF n a b c d) (CF m a b c d):=lr
theorem JW {n m} (h:n<=m) (a b c d e f g i j k l):Le (Bs n a b c d e f g i j k l) (Bs m a b c d e f g i j k l):=.ite (.bind lr λ _=>.bind lr λ _=>.bind (H6 h _ _) λ _=>.ite (.bind (GC h _ _ _) λ _=>Fz h _ _ _ _) (Fz h _ _ _ _)) lr
theorem JX {n m} (h:n<=m) (a b c d e f g i j):Le (Bt n a b c d e f g i j) (Bt m a b c d e f g i j):=.ite (.bind lr λ _=>.bind lr λ _=>.bind (Le.whl (λ _=>JW h _ _ _ _ _ _ _ _ _ _ _) h _) λ _=>lr) lr
theorem JY {n m} (h:n<=m) (a b c d e f g):Le (BO n a b c d e f g) (BO m a b c d e f g):=.ite (.bind lr λ _=>.bind (Le.whl (λ _=>JX h _ _ _ _ _ _ _ _ _) h _) λ _=>lr) lr
theorem He {n m} (h:n<=m) (a b):Le (Cw n a b) (Cw m a b):=.bind lr λ _=>.bind lr λ _=>.ite lr (.bind (GC h _ _ _) λ _=>.bind (Le.whl (λ _=>JY h _ _ _ _ _ _ _) h _) λ _=>lr)
theorem Et {n m} (_:n<=m) (a b c d):Le (CA n a b c d) (CA m a b c d):=lr
theorem La {n m} (_:n<=m) (a b c d e f):Le (CB n a b c d e f) (CB m a b c d e f):=.ite lr lr
theorem EG {n m} (_:n<=m) (a b):Le (BJ n a b) (BJ m a b):=lr
theorem H7 {n m} (h:n<=m) (a b c d e f g):Le (Bl n a b c d e f g) (Bl m a b c d e f g):=.ite (.bind lr λ _=>.bind lr λ _=>.bind (H6 h _ _) λ _=>.ite (.bind (La h _ _ _ _ _ _) λ _=>.ite lr (EG h _ _)) (.ite lr (EG h _ _))) lr
theorem JZ {n m} (h:n<=m) (a b c d e):Le (Cg n a b c d e) (Cg m a b c d e):=.bind lr λ _=>.bind (Le.whl (λ _=>H7 h _ _ _ _ _ _ _) h _) λ y35=>by rcases y35 with _|_;exact lr;exact lr
theorem Fq {n m} (_:n<=m) (a b):Le (B3 n a b) (B3 m a b):=lr
theorem Jk {n m} (h:n<=m) (a b c):Le (BD n a b c) (BD m a b c):=.ite (.bind lr λ _=>.bind lr λ _=>.ite (Fq h _ _) (Fq h _ _)) lr
theorem GD {n m} (h:n<=m) (a):Le (Ch n a) (Ch m a):=.bind (Le.whl (λ _=>Jk h _ _ _) h _) λ _=>lr
theorem Gg {n m} (_:n<=m) (a b):Le (C0 n a b) (C0 m a b):=lr
theorem Gh {n m} (h:n<=m) (a b c d e f):Le (B1 n a b c d e f) (B1 m a b c d e f):=.bind (Et h _ _ _ _) λ _=>.bind (JZ h _ _ _ _ _) λ _=>.ite (Gg h _ _) (.ite (Gg h _ _) lr)
theorem KK {n m} (h:n<=m) (a b c d e f g i):Le (BI n a b c d e f g i) (BI m a b c d e f g i):=.ite (.bind lr λ _=>.bind (Le.ite (lr) (lr)) λ _=>.ite (Gh h _ _ _ _ _ _) (Gh h _ _ _ _ _ _)) lr
theorem KL {n m} (h:n<=m) (a b c d e f):Le (B2 n a b c d e f) (B2 m a b c d e f):=.ite (.bind lr λ _=>.bind (Le.whl (λ _=>KK h _ _ _ _ _ _ _ _) h _) λ _=>lr) lr
theorem HO {n m} (h:n<=m) (a b):Le (CG n a b) (CG m a b):=.bind (JK h _) λ _=>.bind (He h _ _) λ _=>.bind (Le.whl (λ _=>KL h _ _ _ _ _ _) h _) λ _=>lr
theorem Gi {n m} (_:n<=m) (a b c):Le (C1 n a b c) (C1 m a b c):=lr
theorem Da {n m} (_:n<=m) (a b c d):Le (AY n a b c d) (AY m a b c d):=.ite lr (.ite (.bind lr λ _=>lr) (.bind lr λ _=>lr))
theorem IF {n m} (h:n<=m) (a b c d e f g i):Le (BS n a b c d e f g i) (BS m a b c d e f g i):=.ite (.bind (Da h _ _ _ _) λ _=>lr) lr
theorem Ej {n m} (_:n<=m) (a b c d):Le (Bv n a b c d) (Bv m a b c d):=lr
theorem Hr {n m} (h:n<=m) (a b c d e f g i j):Le (Bg n a b c d e f g i j) (Bg m a b c d e f g i j):=.ite (.bind lr λ _=>.bind lr λ _=>.bind (H6 h _ _) λ _=>.ite (.bind (IF h _ _ _ _ _ _ _ _) λ _=>.ite lr (Ej h _ _ _ _)) (.ite lr (Ej h _ _ _ _))) lr
theorem Fr {n m} (h:n<=m) (a b c d e f g):Le (BE n a b c d e f g) (BE m a b c d e f g):=.bind lr λ _=>.bind (Le.whl (λ _=>Hr h _ _ _ _ _ _ _ _ _) h _) λ y42=>by rcases y42 with _|_;exact lr;exact lr
theorem NK {n m} (_:n<=m) (a):Le (Ir n a) (Ir m a):=.bind lr λ _=>lr
theorem EH {n m} (_:n<=m) (a b c d):Le (Cc n a b c d) (Cc m a b c d):=lr
theorem H8 {n m} (h:n<=m) (a b c d e f g i):Le (CI n a b c d e f g i) (CI m a b c d e f g i):=.ite (.bind lr λ _=>.ite (.bind (Da h _ _ _ _) λ _=>EH h _ _ _ _) (EH h _ _ _ _)) lr
theorem EI {n m} (h:n<=m) (a b c d e f g i):Le (Cd n a b c d e f g i) (Cd m a b c d e f g i):=.bind (Et h _ _ _ _) λ _=>.bind (Fr h _ _ _ _ _ _ _) λ _=>.ite lr lr
theorem H9 {n m} (h:n<=m) (a b c d e f g):Le (CJ n a b c d e f g) (CJ m a b c d e f g):=.ite (.bind lr λ _=>.bind lr λ _=>.bind (Le.ite (lr) (lr)) λ _=>.ite (EI h _ _ _ _ _ _ _ _) (EI h _ _ _ _ _ _ _ _)) lr
theorem FA {n m} (h:n<=m) (a b c d):Le (BP n a b c d) (BP m a b c d):=.bind (Le.whl (λ _=>H8 h _ _ _ _ _ _ _ _) h _) λ _=>.bind (Le.whl (λ _=>H9 h _ _ _ _ _ _ _) h _) λ _=>.bind (NK h _) λ _=>lr
theorem Lp {n m} (_:n<=m) (a b c d e):Le (G7 n a b c d e) (G7 m a b c d e):=lr
theorem EJ {n m} (_:n<=m) (a b):Le (Ce n a b) (Ce m a b):=lr
theorem Ia {n m} (h:n<=m) (a b c d e):Le (Bm n a b c d e) (Bm m a b c d e):=.ite (.bind lr λ _=>.bind lr λ _=>.ite (.bind lr λ _=>.bind lr λ _=>EJ h _ _) (EJ h _ _)) lr
theorem FB {n m} (h:n<=m) (a b c):Le (BQ n a b c) (BQ m a b c):=.bind lr λ _=>.bind (Le.whl (λ _=>Ia h _ _ _ _ _) h _) λ _=>lr
theorem Ek {n m} (_:n<=m) (a b c d):Le (Bw n a b c d) (Bw m a b c d):=lr
theorem Hs {n m} (h:n<=m) (a b c d e f g i):Le (Bh n a b c d e f g i) (Bh m a b c d e f g i):=.ite (.bind lr λ _=>.ite (.bind (Da h _ _ _ _) λ _=>Ek h _ _ _ _) (Ek h _ _ _ _)) lr
theorem El {n m} (h:n<=m) (a b c d e f g i):Le (Bi n a b c d e f g i) (Bi m a b c d e f g i):=.bind (Et h _ _ _ _) λ _=>.bind (Fr h _ _ _ _ _ _ _) λ _=>.ite lr lr
theorem Ht {n m} (h:n<=m) (a b c d e f g i):Le (Bx n a b c d e f g i) (Bx m a b c d e f g i):=.ite (.bind lr λ _=>.bind lr λ _=>.bind (Le.ite (lr) (lr)) λ _=>.ite (El h _ _ _ _ _ _ _ _) (El h _ _ _ _ _ _ _ _)) lr
theorem Fs {n m} (h:n<=m) (a b c d):Le (A8 n a b c d) (A8 m a b c d):=.bind (Le.whl (λ _=>Hs h _ _ _ _ _ _ _ _) h _) λ _=>.bind (Le.whl (λ _=>Ht h _ _ _ _ _ _ _ _) h _) λ _=>.bind (NK h _) λ _=>lr
theorem Em {n m} (_:n<=m) (a b c d e f):Le (By n a b c d e f) (By m a b c d e f):=.bind lr λ _=>lr
theorem Hu {n m} (h:n<=m) (a b c d e f g i j):Le (A3 n a b c d e f g i j) (A3 m a b c d e f g i j):=.ite (.bind lr λ _=>.bind (GD h _) λ _=>.ite (.bind lr λ _=>.bind lr λ _=>lr) (.bind lr λ _=>.bind lr λ _=>.bind (FB h _ _ _) λ _=>.bind (Fs h _ _ _ _) λ _=>.ite (.bind lr λ _=>.bind (Lp h _ _ _ _ _) λ _=>.ite lr (Em h _ _ _ _ _ _)) (.ite lr (Em h _ _ _ _ _ _)))) lr
theorem Eo {n m} (h:n<=m) (a b c d e f g i):Le (Bz n a b c d e f g i) (Bz m a b c d e f g i):=.bind (Le.whl (λ _=>Hu h _ _ _ _ _ _ _ _ _) h _) λ y50=>by rcases y50 with _|_;exact lr;exact lr
theorem Jl {n m} (h:n<=m) (a b c d e f g):Le (B4 n a b c d e f g) (B4 m a b c d e f g):=.bind (FA h _ _ _ _) λ _=>.ite (.bind (Lp h _ _ _ _ _) λ _=>.ite lr (Eo h _ _ _ _ _ _ _ _)) (.ite lr (Eo h _ _ _ _ _ _ _ _))
theorem KM {n m} (h:n<=m) (a b):Le (Fi n a b) (Fi m a b):=.bind (Ji h _) λ _=>.ite lr (.bind (HO h _ _) λ _=>.bind (Gi h _ _ _) λ _=>.bind (Jl h _ _ _ _ _ _ _) λ _=>.ite lr (.ite lr lr))
theorem KN {n m} (_:n<=m) (a b c d e):Le (DT n a b c d e) (DT m a b c d e):=.ite lr (.bind lr λ _=>lr)
theorem DW {n m} (_:n<=m) (a b c d e f):Le (Ba n a b c d e f) (Ba m a b c d e f):=.bind lr λ _=>lr
theorem Hf {n m} (h:n<=m) (a b c d e f g i j):Le (A2 n a b c d e f g i j) (A2 m a b c d e f g i j):=.ite (.bind lr λ _=>.bind (GD h _) λ _=>.ite (.bind lr λ _=>.bind lr λ _=>lr) (.bind lr λ _=>.bind lr λ _=>.bind (FB h _ _ _) λ _=>.bind (Fs h _ _ _ _) λ _=>.ite (.bind lr λ _=>.bind (KN h _ _ _ _ _) λ _=>.ite lr (DW h _ _ _ _ _ _)) (.ite lr (DW h _ _ _ _ _ _)))) lr
theorem DY {n m} (h:n<=m) (a b c d e f g i):Le (Bb n a b c d e f g i) (Bb m a b c d e f g i):=.bind (Le.whl (λ _=>Hf h _ _ _ _ _ _ _ _ _) h _) λ y53=>by rcases y53 with _|_;exact lr;exact lr
theorem IG {n m} (h:n<=m) (a b c d e f g):Le (BT n a b c d e f g) (BT m a b c d e f g):=.bind (FA h _ _ _ _) λ _=>.ite (.bind (KN h _ _ _ _ _) λ _=>.ite lr (DY h _ _ _ _ _ _ _ _)) (.ite lr (DY h _ _ _ _ _ _ _ _))
theorem Jm {n m} (h:n<=m) (a b c):Le (Dv n a b c) (Dv m a b c):=.ite lr (.bind (Ji h _) λ _=>.ite lr (.bind (HO h _ _) λ _=>.bind (Gi h _ _ _) λ _=>.bind (IG h _ _ _ _ _ _ _) λ _=>.ite lr (.ite lr lr)))
theorem MB {n m} (_:n<=m) (a b c):Le (CH n a b c) (CH m a b c):=.ite (.bind lr λ _=>.bind lr λ _=>.ite lr lr) lr
theorem PW {n m} (h:n<=m) (a b):Le (DU n a b) (DU m a b):=.ite lr (.bind (Le.whl (λ _=>MB h _ _ _) h _) λ y56=>by rcases y56 with _|_;exact lr;exact lr)
theorem NL {n m} (h:n<=m) (a b):Le (Kf n a b) (Kf m a b):=.bind (Ji h _) λ _=>.ite lr (.bind (JK h _) λ _=>.bind (He h _ _) λ _=>lr)
theorem Qy {n m} (h:n<=m):Le (G8 n) (G8 m):=.bind (Qv h) λ _=>.bind (KM h _ _) λ _=>.bind (KM h _ _) λ _=>.bind (KM h _ _) λ _=>.bind (Jm h _ _ _) λ _=>.bind (Jm h _ _ _) λ _=>.bind (Jm h _ _ _) λ _=>.bind (Le.ite (PW h _ _) (lr)) λ _=>.bind (Le.ite (NL h _ _) (lr)) λ _=>.bind (Le.ite (NL h _ _) (lr)) λ _=>lr
end Go.AI
end
section
namespace Go.AI
theorem Vj (a:Int):IntKind.i64.wrap a=if decide (a % 18446744073709551616>=9223372036854775808)=true then a % 18446744073709551616-18446744073709551616 else a % 18446744073709551616:=rfl
theorem Rb (a:Int):IntKind.u8.wrap a=a % 256:=rfl
theorem KO {a:Int} (h:-9223372036854775808<=a) (h':a<9223372036854775808):IntKind.i64.wrap a=a:=by
 rw [Vj]
 split
 ·rename_i hc;simp at hc;omega
 ·rename_i hc;simp at hc;omega
theorem LO {a b:Int} (h:-9223372036854775808<=a+b) (h':a+b<9223372036854775808):BC .i64 a b=a+b:=KO h h'
theorem LP {a b:Int} (h:-9223372036854775808<=a-b) (h':a-b<9223372036854775808):DD .i64 a b=a-b:=KO h h'
theorem Jac {a:Int} (h:0<=a) (h':a<256):IntKind.u8.wrap a=a:=by
 rw [Rb];omega
theorem T3 (a:Int):0<=IntKind.u8.wrap a/\IntKind.u8.wrap a<256:=by
 rw [Rb];omega
def Ss (m k:Int):Bool:=decide (0<=k)&&decide (k<8)&&(Dd .u8 (JcB .u8 m k) 1==1)
theorem Jad (n:Nat) (m k:Int):GG n m k=some (Ss m k):=by
 unfold GG Ss
 by_cases h:0<=k
 ·by_cases h':k<8<;>simp [h,h',EQ]
 ·simp [h]
def Hg (b:Int):Int:=
 if (decide (97<=Dd .u8 b 127)&&decide (Dd .u8 b 127<=122))=true then 1
 else if (decide (65<=Dd .u8 b 127)&&decide (Dd .u8 b 127<=90))=true then 2
 else if (decide (48<=Dd .u8 b 127)&&decide (Dd .u8 b 127<=57))=true then 3
 else if (Dd .u8 b 127==32)=true then 4 else 5
theorem T4 (n:Nat) (b:Int):EY n b=some (Hg b):=by
 unfold EY Hg
 split
 ·rfl
 ·split
  ·rfl
  ·split
   ·rfl
   ·split<;>rfl
theorem T5 (b:Int):1<=Hg b/\Hg b<=5:=by
 unfold Hg
 split
 ·omega
 ·split
  ·omega
  ·split
   ·omega
   ·split<;>omega
def Re (s:List UInt8) (i:Nat):Int:=(s[i]?.getD 0).toNat
theorem Su {s:List UInt8} {i:Nat} (h:i<s.length):Mg s (i:Int)=some (Re s i):=by
 unfold Mg Re
 rw [if_pos (by omega)]
 simp
def VW:Ab:=⟨0,0,0⟩
def Jae (r:Ap) (s:Ab):Ab×Bool:=
 if ((r.From != s.Mode)||!Ss r.Left s.Last)=true then (VW,false)
 else if (r.Print==[])=true then
  (if (Dd .u8 s.Need r.Right==0)=true then (VW,false) else (⟨r.To,s.Last,Dd .u8 s.Need r.Right⟩,true))
 else if (!Ss s.Need (Hg (Re r.Print 0)))=true then (VW,false)
 else (⟨r.To,Hg (Re r.Print (r.Print.length-1)),r.Right⟩,true)
def Bc (t:Aa) (s:Ab) (k:Int):Ab×Bool:=
 if (decide (k<0)||decide (k>=(t.Rules.length:Int)))=true then (VW,false) else Jae (t.Rules[k.toNat]?.getD default) s
def Jcm (t:Aa):Prop:=∀ r∈t.Rules,r.Print.length<9223372036854775808
theorem T6 {α:Type} [Inhabited α] {l:List α} {k:Int} (h:0<=k) (h':k<l.length):idx l k=some (l[k.toNat]?.getD default):=by
 unfold idx
 rw [if_pos h]
 have:k.toNat<l.length:=by omega
 simp [this]
theorem On {t:Aa} (ht:Jcm t) (n:Nat) (s:Ab) (k:Int):G5 n t s k=some (Bc t s k):=by
 unfold G5 Bc
 by_cases hk:(decide (k<0)||decide (k>=(t.Rules.length:Int)))=true
 ·rw [if_pos hk,if_pos hk];rfl
 ·rw [if_neg hk,if_neg hk]
  simp only [Jg5,decide_eq_true_eq,not_or,Int.not_lt,ge_iff_le,Int.not_le] at hk
  rw [T6 hk.1 hk.2]
  have hmem:(t.Rules[k.toNat]?.getD default)∈t.Rules:=by
   have:k.toNat<t.Rules.length:=by omega
   simp [this]
  have hlen:=ht _ hmem
  generalize t.Rules[k.toNat]?.getD default=r at hlen ⊢
  simp only [Option.bind_some,Jad,T4]
  unfold Jae
  by_cases h1:r.From=s.Mode
  ·simp only [h1,bne_self_eq_false,Bool.not_false,if_true,Option.bind_some,Bool.false_or]
   by_cases h2:Ss r.Left s.Last=true
   ·simp only [h2,Bool.not_true,JgY,if_false]
    by_cases h3:r.Print=[]
    ·simp only [h3,beq_self_eq_true,if_true]
     split<;>rfl
    ·have h3':(r.Print==[])=false:=by simpa using h3
     have hpos:0<r.Print.length:=List.length_pos_iff.2 h3
     simp only [h3',JgY,if_false]
     have e0:=Su (s:=r.Print) (i:=0) hpos
     simp only [Int.natCast_zero] at e0
     rw [e0]
     have e1:DD .i64 ((r.Print.length:Nat):Int) 1=((r.Print.length-1:Nat):Int):=by rw [LP (by omega) (by omega)];omega
     rw [e1,Su (by omega)]
     simp only [Option.bind_some]
     split<;>rfl
   ·have h2:Ss r.Left s.Last=false:=by simpa using h2
    simp only [h2,Bool.not_false,if_true];rfl
  ·have h1':(r.From != s.Mode)=true:=by simpa using h1
   simp only [h1',Bool.not_true,JgY,if_false,Option.bind_some,Bool.true_or,if_true];rfl
end Go.AI
end
section
namespace Go.AI
theorem Ar {α:Type} {l:List α} {i:Nat} {x:α} (h:l[i]? = some x):i<l.length:=(List.getElem?_eq_some_iff.1 h).1
def AO (t:Aa) (s:Ab):Bool:=decide (s.Mode<t.Modes)&&Ss t.Accept s.Mode&&Ss s.Need 0
theorem PX (n:Nat) (t:Aa) (s:Ab):DR n t s=some (AO t s):=by
 unfold DR AO
 simp only [Jad]
 by_cases h1:s.Mode<t.Modes
 ·cases h2:Ss t.Accept s.Mode<;>simp [h1]
 ·simp [h1]
end Go.AI
end
section
namespace Go.AI
theorem Vk (a b:Int) (h:0<=b) (h':b<256):0<=Dd .u8 a b/\Dd .u8 a b<=b:=by
 unfold Dd
 have hb:(BitVec.ofInt 8 b).toNat=b.toNat:=by
  rw [BitVec.toNat_ofInt]
  omega
 have hle:(BitVec.ofInt 8 a &&& BitVec.ofInt 8 b).toNat<=b.toNat:=by
  rw [BitVec.toNat_and,hb];exact Nat.and_le_right
 have e:(BitVec.ofInt IntKind.u8.bits a &&& BitVec.ofInt IntKind.u8.bits b).toNat=(BitVec.ofInt 8 a &&& BitVec.ofInt 8 b).toNat:=rfl
 rw [e,Jac (by omega) (by omega)]
 omega
def LQ (r:Ap):Prop:=0<=r.To/\r.To<2/\0<=r.Right/\r.Right<=63/\r.Print.length<=3
def GE (t:Aa):Prop:=t.Rules.length<=11/\∀ r∈t.Rules,LQ r
theorem GE.short {t:Aa} (h:GE t):Jcm t:=λ r hr=>by have:=(h.2 r hr).2.2.2.2;omega
def InU (s:Ab):Prop:=0<=s.Mode/\s.Mode<2/\0<=s.Last/\s.Last<=5/\0<=s.Need/\s.Need<=63
def Je4:List Ab:=(List.range 768).map λ i=>⟨(i / 384:Nat),(i / 64 % 6:Nat),(i % 64:Nat)⟩
theorem Jaf {s:Ab} (h:InU s):s∈Je4:=by
 obtain ⟨h1,h2,h3,h4,h5,h6⟩:=h
 obtain ⟨m,l,d⟩:=s
 simp only at h1 h2 h3 h4 h5 h6
 simp only [Je4,List.mem_map,List.mem_range]
 refine ⟨m.toNat*384+l.toNat*64+d.toNat,by omega,?_⟩
 have e1:(m.toNat*384+l.toNat*64+d.toNat) / 384=m.toNat:=by omega
 have e2:(m.toNat*384+l.toNat*64+d.toNat) / 64 % 6=l.toNat:=by omega
 have e3:(m.toNat*384+l.toNat*64+d.toNat) % 64=d.toNat:=by omega
 rw [e1,e2,e3]
 congr 1<;>omega
theorem Jag {l m:List Ab} (h:l.Nodup) (hs:∀ x∈l,x∈m):l.length<=m.length:=by
 induction l generalizing m with
 | nil=>simp
 | cons a l ih=>
  rw [List.nodup_cons] at h
  have ha:=hs a (by simp)
  have hlen:(m.erase a).length=m.length-1:=List.length_erase_of_mem ha
  have hpos:0<m.length:=List.length_pos_of_mem ha
  have:=ih (m:=m.erase a) h.2 λ x hx=>by
   have hne:x≠a:=λ e=>h.1 (e▸hx)
   exact (List.mem_erase_of_ne hne).2 (hs x (by simp [hx]))
  simp
  omega
theorem Jah {l:List Ab} (h:l.Nodup) (hs:∀ x∈l,InU x):l.length<=768:=by
 have:=Jag h λ x hx=>Jaf (hs x hx)
 simpa [Je4] using this
theorem Jai {t:Aa} (ht:GE t) {s:Ab} (hs:InU s) {k:Int} (h:(Bc t s k).2=true):InU (Bc t s k).1:=by
 unfold Bc at h ⊢
 split at h
 ·cases h
 ·rename_i hk
  rw [if_neg hk]
  simp only [Jg5,decide_eq_true_eq,not_or,Int.not_lt,ge_iff_le,Int.not_le] at hk
  have hmem:(t.Rules[k.toNat]?.getD default)∈t.Rules:=by
   have:k.toNat<t.Rules.length:=by omega
   simp [this]
  have hr:=ht.2 _ hmem
  generalize t.Rules[k.toNat]?.getD default=r at hr h ⊢
  obtain ⟨a1,a2,a3,a4,a5⟩:=hr
  obtain ⟨b1,b2,b3,b4,b5,b6⟩:=hs
  unfold Jae at h ⊢
  split at h
  ·cases h
  ·rename_i h1
   rw [if_neg h1]
   split at h
   ·rename_i h2
    rw [if_pos h2]
    split at h
    ·cases h
    ·rename_i h3
     rw [if_neg h3]
     have:=Vk s.Need r.Right a3 (by omega)
     exact ⟨a1,a2,b3,b4,this.1,by show Dd .u8 s.Need r.Right<=63;omega⟩
   ·rename_i h2
    rw [if_neg h2]
    split at h
    ·cases h
    ·rename_i h3
     rw [if_neg h3]
     have:=T5 (Re r.Print (r.Print.length-1))
     exact ⟨a1,a2,by show 0<=Hg _;omega,by show Hg _<=5;omega,a3,a4⟩
def C3:Ab:=⟨0,0,63⟩
def Lc (t:Aa) (s:Ab) (st:List Ab) (k:Nat):List Ab:=if (Bc t s k).2=true/\(Bc t s k).1 ∉ st then st++[(Bc t s k).1] else st
def Oa (t:Aa) (s:Ab) (m:Nat) (st:List Ab):List Ab:=(List.range m).foldl (Lc t s) st
theorem K1 (t:Aa) (s:Ab) (m:Nat) (st:List Ab):Oa t s (m+1) st=Lc t s (Oa t s m st) m:=by
 simp [Oa,List.range_succ]
def T7 (t:Aa):Nat->Nat->List Ab->List Ab
 | 0,_,st=>st
 | f+1,i,st=>match st[i]? with
  | some s=>T7 t f (i+1) (Oa t s t.Rules.length st)
  | none=>st
def A1 (t:Aa):List Ab:=T7 t 800 0 [C3]
structure FC (t:Aa) (st:List Ab):Prop where
 nodup:st.Nodup
 inU:∀ s∈st,InU s
 first:st[0]? = some C3
 origin:∀ (j:Nat) (s:Ab),st[j]? = some s->0<j->∃ (i:Nat) (s':Ab) (k:Nat),i<j/\st[i]? = some s'/\k<t.Rules.length/\Bc t s' k=(s,true)
theorem FC.len {t:Aa} {st:List Ab} (h:FC t st):st.length<=768:=Jah h.nodup h.inU
theorem FC.add {t:Aa} (ht:GE t) {st:List Ab} (h:FC t st) {i:Nat} {s:Ab} (hi:st[i]? = some s) {k:Nat} (hk:k<t.Rules.length):FC t (Lc t s st k):=by
 unfold Lc
 split
 ·rename_i hc
  have hil:=Ar hi
  refine ⟨?_,λ x hx=>?_,?_,λ j x hj h0=>?_⟩
  ·rw [List.nodup_append]
   refine ⟨h.nodup,by simp,λ a ha b hb=>?_⟩
   simp at hb
   subst hb
   exact λ e=>hc.2 (e▸ha)
  ·simp only [List.mem_append,List.mem_singleton] at hx
   rcases hx with hx|rfl
   ·exact h.inU x hx
   ·exact Jai ht (h.inU s (JgP hi)) hc.1
  ·rw [JgV (by omega)];exact h.first
  ·rcases Nat.lt_or_ge j st.length with hlt|hge
   ·rw [JgV hlt] at hj
    obtain ⟨i',s',k',a1,a2,a3,a4⟩:=h.origin j x hj h0
    exact ⟨i',s',k',a1,by rw [JgV (by omega)];exact a2,a3,a4⟩
   ·rw [Jg4 hge] at hj
    have:j-st.length=0:=by have:=Ar hj;simp at this;omega
    rw [this] at hj
    simp at hj
    subst hj
    refine ⟨i,s,k,by omega,by rw [JgV hil];exact hi,hk,?_⟩
    exact Prod.ext rfl hc.1
 ·exact h
theorem T8 (t:Aa) (s:Ab) (st:List Ab) (k:Nat):st <+: Lc t s st k:=by
 unfold Lc
 split
 ·exact List.prefix_append _ _
 ·exact List.prefix_refl _
theorem IH (t:Aa) (s:Ab) (st:List Ab):∀ m,st <+: Oa t s m st:=by
 intro m
 induction m with
 | zero=>exact List.prefix_refl _
 | succ m ih=>rw [K1];exact ih.trans (T8 _ _ _ _)
theorem Oo {α:Type} {l m:List α} (h:l <+: m) {i:Nat} {x:α} (hi:l[i]? = some x):m[i]? = some x:=by
 obtain ⟨r,rfl⟩:=h
 rw [JgV (Ar hi)];exact hi
theorem FC.exp {t:Aa} (ht:GE t) {st:List Ab} (h:FC t st) {i:Nat} {s:Ab} (hi:st[i]? = some s):∀ m,m<=t.Rules.length->FC t (Oa t s m st):=by
 intro m
 induction m with
 | zero=>intro _;exact h
 | succ m ih=>
  intro hm
  rw [K1]
  exact (ih (by omega)).add ht (Oo (IH t s st m) hi) (by omega)
theorem Jaj (t:Aa) (s:Ab) (st:List Ab):∀ m k:Nat,k<m->(Bc t s k).2=true->(Bc t s k).1∈Oa t s m st:=by
 intro m
 induction m with
 | zero=>intro k hk;omega
 | succ m ih=>
  intro k hk h
  rw [K1]
  by_cases e:k=m
  ·subst e
   unfold Lc
   by_cases hc:(Bc t s k).1∈Oa t s k st
   ·rw [if_neg (λ hh=>hh.2 hc)];exact hc
   ·rw [if_pos ⟨h,hc⟩];simp
  ·exact (T8 t s _ m).subset (ih k (by omega) h)
def Sv (t:Aa) (i:Nat) (st:List Ab):Prop:=∀ (j:Nat) (s:Ab),j<i->st[j]? = some s->∀ k:Nat,k<t.Rules.length->(Bc t s k).2=true->(Bc t s k).1∈st
theorem Je5 {t:Aa} (ht:GE t):∀ (f i:Nat) (st:List Ab),FC t st->Sv t i st->768<f+i->FC t (T7 t f i st)/\∀ i',Sv t i' (T7 t f i st):=by
 intro f
 induction f with
 | zero=>
  intro i st h hd hf
  have:=h.len
  refine ⟨h,λ i' j s hj hs=>?_⟩
  have hs:st[j]? = some s:=hs
  exact hd j s (by have:=Ar hs;omega) hs
 | succ f ih=>
  intro i st h hd hf
  simp only [T7]
  cases hi:st[i]? with
  | none=>
   refine ⟨h,λ i' j s hj hs=>?_⟩
   have hs:st[j]? = some s:=hs
   exact hd j s (by have:=Ar hs;rw [List.getElem?_eq_none_iff] at hi;omega) hs
  | some s=>
   refine ih (i+1) _ (h.exp ht hi _ (Nat.le_refl _)) (λ j x hj hx k hk hk2=>?_) (by omega)
   by_cases e:j=i
   ·subst e
    have:=Oo (IH t s st t.Rules.length) hi
    rw [this] at hx
    cases hx
    exact Jaj t s st _ k hk hk2
   ·have hjl:j<st.length:=by have:=Ar hi;omega
    have hxx:st[j]? = some st[j]:=JgN hjl
    have:=Oo (IH t s st t.Rules.length) hxx
    rw [this] at hx
    cases hx
    exact (IH t s st t.Rules.length).subset (hd j _ (by omega) hxx k hk hk2)
theorem Ec {t:Aa} (ht:GE t):FC t (A1 t)/\∀ i,Sv t i (A1 t):=by
 refine Je5 ht 800 0 [C3] ⟨by simp,λ s hs=>?_,rfl,λ j s hj h0=>?_⟩ (λ j s hj=>by omega) (by omega)
 ·simp at hs;subst hs;exact ⟨by decide,by decide,by decide,by decide,by decide,by decide⟩
 ·cases j with
  | zero=>omega
  | succ j=>simp at hj
end Go.AI
end
section
namespace Go.AI
theorem Ev.whlR {σ ρ:Type} {body:Nat->σ->Option (σ⊕ρ)} {R:ρ->Prop} (I:Nat->σ->Prop) (h:∀ k x,I k x->(∃ y j,j<k/\I j y/\Ev (λ n=>body n x) (.inl y))\/∃ r,R r/\Ev (λ n=>body n x) (.inr r)):∀ (k:Nat) (x:σ),I k x->∃ r,R r/\Ev (λ n=>Go.AI.whl (body n) n x) r:=by
 have key:∀ (k:Nat) (x:σ),I k x->∃ r,R r/\∃ N c,∀ n fuel,N<=n->c<=fuel->Go.AI.whl (body n) fuel x=some r:=by
  intro k
  induction k using Nat.strongRecOn with
  | _ k ih=>
   intro x hx
   rcases h k x hx with ⟨y,j,hj,hy,N1,h1⟩|⟨r,hr,N1,h1⟩
   ·obtain ⟨r,hr,N2,c,h2⟩:=ih j hj y hy
    refine ⟨r,hr,max N1 N2,c+1,λ n fuel hn hf=>?_⟩
    cases fuel with
    | zero=>omega
    | succ fuel=>
     have e:=h1 n (by omega)
     simp only at e
     simp only [Go.AI.whl,e]
     exact h2 n fuel (by omega) (by omega)
   ·refine ⟨r,hr,N1,1,λ n fuel hn hf=>?_⟩
    cases fuel with
    | zero=>omega
    | succ fuel=>
     have e:=h1 n hn
     simp only at e
     simp only [Go.AI.whl,e]
 intro k x hx
 obtain ⟨r,hr,N,c,hh⟩:=key k x hx
 exact ⟨r,hr,max N c,λ m hm=>hh m m (by omega) (by omega)⟩
def JL (st:List Ab) (nb:List (Ab×Int)):Prop:=∀ s,CW s nb=(st.findIdx? λ x=>decide (x=s)).map λ i=>(i:Int)
theorem Dm {st:List Ab} {s:Ab} {i:Nat} (hn:st.Nodup) (h:st[i]? = some s):(st.findIdx? λ x=>decide (x=s))=some i:=by
 have hi:=Ar h
 rw [List.findIdx?_eq_some_iff_getElem]
 have he:st[i]=s:=by rw [JgN hi] at h;exact Option.some.inj h
 refine ⟨hi,by simpa using he,λ j hj=>?_⟩
 simp only [Bool.not_eq_true,decide_eq_false_iff_not]
 intro e
 have:=(List.getElem_inj (i:=j) (j:=i) (h₀:=by omega) (h₁:=hi) hn).1 (by rw [e,he])
 omega
theorem Jn {st:List Ab} {s:Ab} (h:s ∉ st):(st.findIdx? λ x=>decide (x=s))=none:=by
 rw [List.findIdx?_eq_none_iff]
 intro y hy
 simp only [decide_eq_false_iff_not]
 exact λ e=>h (e▸hy)
theorem Na {κ α:Type} [DecidableEq κ] (k k':κ) (v:α) (m:List (κ×α)):CW k' (DN k v m)=if k'=k then some v else CW k' m:=by
 induction m with
 | nil=>simp [DN,CW]
 | cons p m ih=>
  simp only [DN]
  by_cases h:k=p.1
  ·rw [if_pos h]
   simp only [CW]
   by_cases h':k'=k
   ·simp [h']
   ·have:k'≠p.1:=λ e=>h' (e.trans h.symm)
    simp [h',this]
  ·rw [if_neg h]
   simp only [CW]
   by_cases h':k'=p.1
   ·have:k'≠k:=λ e=>h (e▸h')
    rw [if_pos h',if_neg this,if_pos h']
   ·rw [if_neg h',if_neg h',ih]
theorem JL.snoc {st:List Ab} {nb:List (Ab×Int)} (h:JL st nb) (hn:st.Nodup) {p:Ab} (hp:p ∉ st):JL (st++[p]) (DN p (st.length:Nat) nb):=by
 intro s
 rw [Na]
 have hnd:(st++[p]).Nodup:=by
  rw [List.nodup_append]
  exact ⟨hn,by simp,λ a ha b hb=>by simp at hb;subst hb;exact λ e=>hp (e▸ha)⟩
 by_cases e:s=p
 ·subst e
  rw [if_pos rfl,Dm hnd (i:=st.length) (by simp)]
  rfl
 ·rw [if_neg e,h s]
  by_cases hs:s∈st
  ·obtain ⟨i,hi⟩:=List.mem_iff_getElem?.1 hs
   rw [Dm hn hi,Dm hnd (i:=i) (by rw [JgV (Ar hi)];exact hi)]
  ·rw [Jn hs,Jn (by simp [hs,e])]
def Hh (i m j k:Nat):Prop:=j<i\/(j=i/\k<m)
structure C4 (t:Aa) (st:List Ab) (fr:List (List Int)) (i m:Nat):Prop where
 len:fr.length=st.length
 cov:∀ j s k,Hh i m j k->st[j]? = some s->k<t.Rules.length->(Bc t s (k:Nat)).2=true->(Bc t s (k:Nat)).1∈st
 sound:∀ (n:Nat) l,fr[n]? = some l->∀ x∈l,∃ (j:Nat) (s:Ab) (k:Nat) (s':Ab),x=(j:Int)/\st[j]? = some s/\k<t.Rules.length/\st[n]? = some s'/\Bc t s (k:Nat)=(s',true)
 compl:∀ (n:Nat) l,fr[n]? = some l->∀ (j:Nat) (s:Ab) (k:Nat) (s':Ab),Hh i m j k->st[j]? = some s->k<t.Rules.length->st[n]? = some s'->Bc t s (k:Nat)=(s',true)->(j:Int)∈l
 small:∀ (n:Nat) l,fr[n]? = some l->l.length<=i*11+m
theorem C4.snoc {t:Aa} {st:List Ab} {fr:List (List Int)} {i m:Nat} (h:C4 t st fr i m) {p:Ab} (hp:p ∉ st) (hi:i<st.length):C4 t (st++[p]) (fr++[[]]) i m:=by
 have hget:∀ (j:Nat) s,Hh i m j 0\/j<=i->(st++[p])[j]? = some s->st[j]? = some s:=λ j s hj hs=>by
  rcases Nat.lt_or_ge j st.length with hlt|hge
  ·rwa [JgV hlt] at hs
  ·rcases hj with (h1|⟨h1,_⟩)|h1<;>omega
 have hle:∀ {j k},Hh i m j k->j<=i:=λ h=>by rcases h with h|⟨h,_⟩<;>omega
 refine ⟨by simp [h.len],λ j s k ht hs hk h2=>?_,λ n l hl x hx=>?_,λ n l hl j s k s' ht hs hk hs' he=>?_,λ n l hl=>?_⟩
 ·exact List.mem_append_left _ (h.cov j s k ht (hget j s (.inr (hle ht)) hs) hk h2)
 ·rcases Nat.lt_or_ge n fr.length with hlt|hge
  ·rw [JgV hlt] at hl
   obtain ⟨j,s,k,s',a1,a2,a3,a4,a5⟩:=h.sound n l hl x hx
   exact ⟨j,s,k,s',a1,by rw [JgV (Ar a2)];exact a2,a3,by rw [JgV (Ar a4)];exact a4,a5⟩
  ·rw [Jg4 hge] at hl
   have:n-fr.length=0:=by have:=Ar hl;simp at this;omega
   rw [this] at hl;simp at hl;subst hl;simp at hx
 ·have hs0:=hget j s (.inr (hle ht)) hs
  have hmem:s'∈st:=by have:=h.cov j s k ht hs0 hk (by rw [he]);rwa [he] at this
  rcases Nat.lt_or_ge n fr.length with hlt|hge
  ·rw [JgV hlt] at hl
   rw [JgV (by rw [← h.len];exact hlt)] at hs'
   exact h.compl n l hl j s k s' ht hs0 hk hs' he
  ·have hn:n=st.length:=by have:=Ar hs';simp at this;rw [h.len] at hge;omega
   subst hn
   simp at hs'
   subst hs'
   exact absurd hmem hp
 ·rcases Nat.lt_or_ge n fr.length with hlt|hge
  ·rw [JgV hlt] at hl;exact h.small n l hl
  ·rw [Jg4 hge] at hl
   have:n-fr.length=0:=by have:=Ar hl;simp at this;omega
   rw [this] at hl;simp at hl;subst hl;simp
theorem C4.put {t:Aa} {st:List Ab} {fr:List (List Int)} {i m:Nat} (h:C4 t st fr i m) (hnd:st.Nodup) {s p:Ab} {q:Nat} {l:List Int} (hs:st[i]? = some s) (hm:m<t.Rules.length) (hst:Bc t s (m:Nat)=(p,true)) (hq:st[q]? = some p) (hl:fr[q]? = some l):C4 t st (fr.set q (l++[(i:Int)])) i (m+1):=by
 have htk:∀ {j k},Hh i (m+1) j k->Hh i m j k\/(j=i/\k=m):=λ {j k} h=>by
  unfold Hh at *
  omega
 have hql:=Ar hl
 refine ⟨by simp [h.len],λ j x k ht hx hk h2=>?_,λ n l' hl' x hx=>?_,λ n l' hl' j x k x' ht hx hk hx' he=>?_,λ n l' hl'=>?_⟩
 ·rcases htk ht with ht|⟨rfl,rfl⟩
  ·exact h.cov j x k ht hx hk h2
  ·rw [hs] at hx;cases hx;rw [hst];exact JgP hq
 ·by_cases e:n=q
  ·subst e
   rw [JgX hql] at hl'
   cases hl'
   simp only [List.mem_append,List.mem_singleton] at hx
   rcases hx with hx|rfl
   ·exact h.sound n l hl x hx
   ·exact ⟨i,s,m,p,rfl,hs,hm,hq,hst⟩
  ·rw [Jg2 (Ne.symm e)] at hl';exact h.sound n l' hl' x hx
 ·rcases htk ht with ht|⟨rfl,rfl⟩
  ·by_cases e:n=q
   ·subst e
    rw [JgX hql] at hl'
    cases hl'
    exact List.mem_append_left _ (h.compl n l hl j x k x' ht hx hk hx' he)
   ·rw [Jg2 (Ne.symm e)] at hl';exact h.compl n l' hl' j x k x' ht hx hk hx' he
  ·rw [hs] at hx;cases hx
   rw [hst] at he;cases he
   have e:n=q:=by
    have h1:=Ar hx'
    have h2:=Ar hq
    rw [JgN h1] at hx'
    rw [JgN h2] at hq
    exact (List.getElem_inj (h₀:=h1) (h₁:=h2) hnd).1 ((Option.some.inj hx').trans (Option.some.inj hq).symm)
   subst e
   rw [JgX hql] at hl'
   cases hl'
   simp
 ·by_cases e:n=q
  ·subst e
   rw [JgX hql] at hl'
   cases hl'
   have:=h.small n l hl
   simp;omega
  ·rw [Jg2 (Ne.symm e)] at hl'
   have:=h.small n l' hl'
   omega
theorem C4.skip {t:Aa} {st:List Ab} {fr:List (List Int)} {i m:Nat} (h:C4 t st fr i m) {s:Ab} (hs:st[i]? = some s) (hst:(Bc t s (m:Nat)).2=false):C4 t st fr i (m+1):=by
 have htk:∀ {j k},Hh i (m+1) j k->Hh i m j k\/(j=i/\k=m):=λ {j k} h=>by
  unfold Hh at *
  omega
 refine ⟨h.len,λ j x k ht hx hk h2=>?_,h.sound,λ n l hl j x k x' ht hx hk hx' he=>?_,λ n l hl=>by have:=h.small n l hl;omega⟩
 ·rcases htk ht with ht|⟨rfl,rfl⟩
  ·exact h.cov j x k ht hx hk h2
  ·rw [hs] at hx;cases hx;rw [hst] at h2;cases h2
 ·rcases htk ht with ht|⟨rfl,rfl⟩
  ·exact h.compl n l hl j x k x' ht hx hk hx' he
  ·rw [hs] at hx;cases hx;rw [he] at hst;cases hst
end Go.AI
end
section
namespace Go.AI
theorem Jo {α:Type} {l:List α} {i:Nat} {x:α} (h:l[i]? = some x):idx l (i:Int)=some x:=by
 unfold idx
 rw [if_pos (by omega)]
 simpa using h
theorem DZ {α:Type} {eb:Nat} {xs ys:List α} (h:(xs.length+ys.length)*eb<=70368744177664):app eb xs ys=some (xs++ys):=by
 unfold app;rw [if_pos h]
theorem T9 {t:Aa} (ht:GE t) {i m:Nat} {s:Ab} {st:List Ab} {fr:List (List Int)} {nb:List (Ab×Int)} (hF:FC t st) (hi:st[i]? = some s) (hN:JL st nb) (hR:C4 t st fr i m) (hm:m<t.Rules.length) :
  ∃ fr' nb',JL (Lc t s st m) nb'/\C4 t (Lc t s st m) fr' i (m+1)/\∀ n,Br n t (i:Int) st fr nb (m:Int)=some (.inl (Lc t s st m,fr',nb',((m+1:Nat):Int))):=by
 have hil:=Ar hi
 have hlen:=hF.len
 have hrl:=ht.1
 have hinc:BC .i64 (m:Int) 1=((m+1:Nat):Int):=by rw [LO (by omega) (by omega)];rfl
 have hcond:decide ((m:Int)<((t.Rules.length:Nat):Int))=true:=by simpa using hm
 cases hp:(Bc t s (m:Nat)).2 with
 | false=>
  have ha:Lc t s st m=st:=by unfold Lc;rw [if_neg (by rw [hp];simp)]
  refine ⟨fr,nb,by rw [ha];exact hN,by rw [ha];exact hR.skip hi hp,λ n=>?_⟩
  unfold Br
  rw [if_pos hcond,Jo hi]
  simp only [Option.bind_some,On ht.short,hp,Bool.not_false,if_true,Co,hinc,ha]
 | true=>
  have hpe:Bc t s (m:Nat)=((Bc t s (m:Nat)).1,true):=Prod.ext rfl hp
  generalize hpp:(Bc t s (m:Nat)).1=p at hpe
  by_cases hmem:p∈st
  ·have ha:Lc t s st m=st:=by unfold Lc;rw [if_neg (by rw [hpp];exact λ hh=>hh.2 hmem)]
   obtain ⟨q,hq⟩:=List.mem_iff_getElem?.1 hmem
   have hql:=Ar hq
   obtain ⟨lq,hfq⟩:∃ lq,fr[q]? = some lq:=⟨_,JgN (by rw [hR.len];exact hql)⟩
   have hsm:=hR.small q _ hfq
   have hget:CW p nb=some (q:Int):=by rw [hN p,Dm hF.nodup hq];rfl
   have hiv:i<768:=by omega
   refine ⟨fr.set q (lq++[(i:Int)]),nb,by rw [ha];exact hN,by rw [ha];exact hR.put hF.nodup hi hm hpe hq hfq,λ n=>?_⟩
   unfold Br
   rw [if_pos hcond,Jo hi]
   simp only [Option.bind_some,On ht.short,hpe,hget,Option.isSome_some,Bool.not_true,JgY,if_false,Option.getD_some,CE]
   rw [Jo hfq]
   simp only [Option.bind_some]
   rw [DZ (by simp;omega)]
   simp only [Option.bind_some,Co,hinc,ha,Int.toNat_natCast]
  ·have ha:Lc t s st m=st++[p]:=by unfold Lc;rw [if_pos ⟨hp,by rw [hpp];exact hmem⟩,hpp]
   have hnd:(st++[p]).Nodup:=by have:=(hF.add ht hi hm).nodup;rwa [ha] at this
   have hget:CW p nb=none:=by rw [hN p,Jn hmem];rfl
   have hR':=hR.snoc hmem hil
   have hfq:(fr++[[]])[st.length]? = some ([]:List Int):=by rw [← hR.len];simp
   refine ⟨(fr++[[]]).set st.length ([]++[(i:Int)]),DN p (st.length:Nat) nb,by rw [ha];exact hN.snoc hF.nodup hmem,by rw [ha];exact hR'.put hnd (by rw [JgV hil];exact hi) hm hpe (by simp) hfq,λ n=>?_⟩
   unfold Br
   rw [if_pos hcond,Jo hi]
   simp only [Option.bind_some,On ht.short,hpe,hget,Option.isSome_none,Bool.not_false,Bool.not_true,JgY,if_true,if_false]
   rw [DZ (by simp;omega),Option.bind_some,DZ (by simp [hR.len];omega),Option.bind_some]
   simp only [CE]
   rw [Jo hfq]
   simp only [Option.bind_some]
   rw [DZ (by simp)]
   simp only [Option.bind_some,Co,hinc,ha,Int.toNat_natCast]
theorem C4.next {t:Aa} {st:List Ab} {fr:List (List Int)} {i:Nat} (h:C4 t st fr i t.Rules.length) (hr:t.Rules.length<=11):C4 t st fr (i+1) 0:=by
 have htk:∀ {j k},k<t.Rules.length->Hh (i+1) 0 j k->Hh i t.Rules.length j k:=λ {j k} hk h=>by
  unfold Hh at *
  omega
 exact ⟨h.len,λ j s k ht hs hk=>h.cov j s k (htk hk ht) hs hk,h.sound,λ n l hl j s k s' ht hs hk=>h.compl n l hl j s k s' (htk hk ht) hs hk,λ n l hl=>by have:=h.small n l hl;omega⟩
theorem Jak {t:Aa} (ht:GE t) {i:Nat} {s:Ab} {st:List Ab} {fr:List (List Int)} {nb:List (Ab×Int)} (hF:FC t st) (hi:st[i]? = some s) (hN:JL st nb) (hR:C4 t st fr i 0) :
  ∃ r:List Ab×List (List Int)×List (Ab×Int),(r.1=Oa t s t.Rules.length st/\JL r.1 r.2.2/\C4 t r.1 r.2.1 (i+1) 0) /\
   Ev (λ n=>whl (λ (x:((List Ab)×(List (List Int))×(List (Ab×Int))×Int))=>Br n t (i:Int) x.1 x.2.1 x.2.2.1 x.2.2.2) n (st,fr,nb,0)) r:=by
 refine Ev.whlR (body:=λ n x=>Br n t (i:Int) x.1 x.2.1 x.2.2.1 x.2.2.2) (λ k x=>∃ m:Nat,m<=t.Rules.length/\k=t.Rules.length-m/\x.1=Oa t s m st/\x.2.2.2=(m:Int)/\JL x.1 x.2.2.1/\C4 t x.1 x.2.1 i m) ?_ t.Rules.length (st,fr,nb,0) ⟨0,by omega,by omega,rfl,rfl,hN,hR⟩
 rintro k ⟨st',fr',nb',m'⟩ ⟨m,hm,rfl,h1,h2,h3,h4⟩
 simp only at h1 h2 h3 h4
 subst h1
 subst h2
 rcases Nat.lt_or_ge m t.Rules.length with hlt|hge
 ·left
  have hi':(Oa t s m st)[i]? = some s:=Oo (IH t s st m) hi
  obtain ⟨fr2,nb2,g1,g2,g3⟩:=T9 ht (hF.exp ht hi m hm) hi' h3 h4 hlt
  exact ⟨_,t.Rules.length-(m+1),by omega,⟨m+1,hlt,rfl,(K1 t s m st).symm,rfl,g1,g2⟩,Ev.all g3⟩
 ·right
  have e:m=t.Rules.length:=by omega
  subst e
  refine ⟨(Oa t s t.Rules.length st,fr',nb'),⟨rfl,h3,h4.next ht.1⟩,Ev.all λ n=>?_⟩
  unfold Br
  rw [if_neg (by simp)]
theorem PY {t:Aa} (ht:GE t):∃ fr,C4 t (A1 t) fr (A1 t).length 0/\Ev (λ n=>DQ n t) (A1 t,fr):=by
 have h0:FC t [C3]:=⟨by simp,λ s hs=>by simp at hs;subst hs;exact ⟨by decide,by decide,by decide,by decide,by decide,by decide⟩,rfl,λ j s hj h0=>by cases j with|zero=>omega|succ j=>simp at hj⟩
 have loop:∃ r:List Ab×List (List Int),(r.1=A1 t/\C4 t r.1 r.2 r.1.length 0) /\
   Ev (λ n=>whl (λ (x:((List Ab)×(List (List Int))×(List (Ab×Int))×Int))=>Cp n t x.1 x.2.1 x.2.2.1 x.2.2.2) n ([C3],([[]]:List (List Int)),(DN C3 0 []),0)) r:=by
  refine Ev.whlR (body:=λ n x=>Cp n t x.1 x.2.1 x.2.2.1 x.2.2.2) (λ k x=>∃ i:Nat,i<=x.1.length/\k=800-i/\T7 t (800-i) i x.1=A1 t/\x.2.2.2=(i:Int)/\FC t x.1/\JL x.1 x.2.2.1/\C4 t x.1 x.2.1 i 0) ?_ 800 _ ⟨0,by simp,by omega,rfl,rfl,h0,?_,?_⟩
  ·rintro k ⟨st,fr,nb,i'⟩ ⟨i,hil,rfl,hb,hi',hF,hN,hR⟩
   simp only at hil hb hi' hF hN hR
   subst hi'
   have hlen:=hF.len
   rcases Nat.lt_or_ge i st.length with hlt|hge
   ·left
    have hi:st[i]? = some st[i]:=JgN hlt
    obtain ⟨r,⟨g1,g2,g3⟩,g4⟩:=Jak ht hF hi hN hR
    have hexp:=hF.exp ht hi _ (Nat.le_refl _)
    refine ⟨(r.1,r.2.1,r.2.2,((i+1:Nat):Int)),800-(i+1),by omega,⟨i+1,?_,rfl,?_,rfl,by rw [g1];exact hexp,g2,g3⟩,?_⟩
    ·simp only [g1]
     have:=(IH t st[i] st t.Rules.length).length_le
     omega
    ·simp only [g1]
     rw [← hb]
     have e:800-i=(800-(i+1))+1:=by omega
     rw [e]
     simp only [T7,hi]
    ·refine (Ev.bind g4 (g:=λ _ y2=>some (.inl (y2.1,y2.2.1,y2.2.2,((i+1:Nat):Int)))) Ev.const).congr λ n=>?_
     unfold Cp
     rw [if_pos (by simpa using hlt)]
     have hinc:BC .i64 (i:Int) 1=((i+1:Nat):Int):=by rw [LO (by omega) (by omega)];rfl
     rw [hinc]
   ·right
    have e:i=st.length:=by omega
    subst e
    have hst:st=A1 t:=by
     rw [← hb]
     have e:800-st.length=(800-(st.length+1))+1:=by omega
     rw [e]
     simp [T7]
    refine ⟨(st,fr),⟨hst,hR⟩,Ev.all λ n=>?_⟩
    unfold Cp
    rw [if_neg (by simp)]
  ·intro s
   simp only [DN,CW]
   by_cases e:s=C3
   ·subst e;simp
   ·have:¬ C3=s:=λ h=>e h.symm
    simp [e,this]
  ·refine ⟨rfl,λ j s k ht=>?_,λ n l hl x hx=>?_,λ n l hl j s k s' ht=>?_,λ n l hl=>?_⟩
   ·unfold Hh at ht;omega
   ·cases n with
    | zero=>simp at hl;subst hl;simp at hx
    | succ n=>simp at hl
   ·unfold Hh at ht;omega
   ·cases n with
    | zero=>simp at hl;subst hl;simp
    | succ n=>simp at hl
 obtain ⟨⟨st,fr⟩,⟨g1,g2⟩,g3⟩:=loop
 simp only at g1 g2
 subst g1
 refine ⟨fr,g2,?_⟩
 have hs:∀ n,Iq n=some C3:=λ n=>rfl
 refine (Ev.bind g3 (g:=λ _ y3=>some (y3.1,y3.2)) Ev.const).congr λ n=>?_
 unfold DQ
 rw [hs,Option.bind_some]
theorem Vl {t:Aa} (ht:GE t):Ev (λ n=>G6 n t) (A1 t):=by
 obtain ⟨fr,_,h⟩:=PY ht
 exact (Ev.bind h (g:=λ _ r=>some r.1) Ev.const).congr λ n=>rfl
end Go.AI
end
section
namespace Go.AI
def Tot {α:Type} (f:Nat->Option α) (P:α->Prop):Prop:=∃ z,P z/\Ev f z
def Rd2 {σ ρ:Type} (I:σ->Prop) (P:ρ->Prop):σ⊕ρ->Prop
 | .inl y=>I y
 | .inr r=>P r
variable {α β σ ρ:Type} {P R:α->Prop}
theorem Tot.ev {f:Nat->Option α} {z:α} (h:Tot f (λ x=>x=z)):Ev f z:=by obtain ⟨_,rfl,h⟩:=h;exact h
theorem Tot.pure {z:α} (h:P z):Tot (λ _=>some z) P:=⟨z,h,Ev.const⟩
theorem Tot.all {f:Nat->Option α} {z:α} (h:∀ n,f n=some z) (hp:P z):Tot f P:=⟨z,hp,Ev.all h⟩
theorem Tot.mono {f:Nat->Option α} (h:Tot f R) (hp:∀ x,R x->P x):Tot f P:=by obtain ⟨z,hz,h⟩:=h;exact ⟨z,hp z hz,h⟩
theorem Tot.bind {f:Nat->Option β} {g:Nat->β->Option α} {R:β->Prop} (h:Tot f R) (k:∀ x,R x->Tot (λ n=>g n x) P):Tot (λ n=>(f n).bind (g n)) P:=by
 obtain ⟨x,hx,h⟩:=h
 obtain ⟨z,hz,h'⟩:=k x hx
 exact ⟨z,hz,Ev.bind h h'⟩
theorem Tot.bindE {f:Nat->Option β} {g:Nat->β->Option α} {x:β} (h:Ev f x) (k:Tot (λ n=>g n x) P):Tot (λ n=>(f n).bind (g n)) P:=by
 obtain ⟨z,hz,h'⟩:=k
 exact ⟨z,hz,Ev.bind h h'⟩
theorem Tot.bindC {x:Option β} {y:β} {g:Nat->β->Option α} (h:x=some y) (k:Tot (λ n=>g n y) P):Tot (λ n=>x.bind (g n)) P:=by subst h;exact k
theorem Tot.bindA {f:Nat->Option β} {y:β} {g:Nat->β->Option α} (h:∀ n,f n=some y) (k:Tot (λ n=>g n y) P):Tot (λ n=>(f n).bind (g n)) P:=Tot.bindE (Ev.all h) k
theorem Tot.ite {c:Bool} {a b:Nat->Option α} (h1:c=true->Tot a P) (h2:c=false->Tot b P):Tot (λ n=>if c=true then a n else b n) P:=by
 cases c with
 | true=>exact h1 rfl
 | false=>exact h2 rfl
theorem Tot.iteT {c:Bool} {a b:Nat->Option α} (h:c=true) (k:Tot a P):Tot (λ n=>if c=true then a n else b n) P:=by subst h;exact k
theorem Tot.iteF {c:Bool} {a b:Nat->Option α} (h:c=false) (k:Tot b P):Tot (λ n=>if c=true then a n else b n) P:=by subst h;exact k
theorem Tot.guard {c:Bool} {f:Nat->Option β} {d:β} {g:Nat->β->Option α} {R:β->Prop} (h:c=true->Tot f R) (k:∀ x,(c=true->R x)->Tot (λ n=>g n x) P):Tot (λ n=>(if c=true then f n else some d).bind (g n)) P:=by
 cases c with
 | true=>exact Tot.bind (h rfl) λ x hx=>k x λ _=>hx
 | false=>exact k d λ h=>by cases h
theorem Tot.congr {f g:Nat->Option α} (h:Tot f P) (e:∀ n,g n=f n):Tot g P:=by obtain ⟨z,hz,h⟩:=h;exact ⟨z,hz,h.congr e⟩
theorem Tot.sum {y:β⊕σ} {f:Nat->β->Option α} {g:Nat->σ->Option α} (h1:∀ b,y=.inl b->Tot (λ n=>f n b) P) (h2:∀ b,y=.inr b->Tot (λ n=>g n b) P):Tot (λ n=>match y with | .inl b=>f n b | .inr b=>g n b) P:=by
 cases y with
 | inl b=>exact h1 b rfl
 | inr b=>exact h2 b rfl
theorem Tot.whl {body:Nat->σ->Option (σ⊕ρ)} {P:ρ->Prop} (I:Nat->σ->Prop) (h:∀ k x,I k x->Tot (λ n=>body n x) (Rd2 (λ y=>∃ j,j<k/\I j y) P)):∀ (k:Nat) (x:σ),I k x->Tot (λ n=>Go.AI.whl (body n) n x) P:=by
 have key:∀ (k:Nat) (x:σ),I k x->∃ r,P r/\∃ N c,∀ n fuel,N<=n->c<=fuel->Go.AI.whl (body n) fuel x=some r:=by
  intro k
  induction k using Nat.strongRecOn with
  | _ k ih=>
   intro x hx
   obtain ⟨z,hz,N1,h1⟩:=h k x hx
   cases z with
   | inl y=>
    obtain ⟨j,hj,hy⟩:=hz
    obtain ⟨r,hr,N2,c,h2⟩:=ih j hj y hy
    refine ⟨r,hr,max N1 N2,c+1,λ n fuel hn hf=>?_⟩
    cases fuel with
    | zero=>omega
    | succ fuel=>
     have e:=h1 n (by omega)
     simp only at e
     simp only [Go.AI.whl,e]
     exact h2 n fuel (by omega) (by omega)
   | inr r=>
    refine ⟨r,hz,N1,1,λ n fuel hn hf=>?_⟩
    cases fuel with
    | zero=>omega
    | succ fuel=>
     have e:=h1 n hn
     simp only at e
     simp only [Go.AI.whl,e]
 intro k x hx
 obtain ⟨r,hr,N,c,hh⟩:=key k x hx
 exact ⟨r,hr,max N c,λ m hm=>hh m m (by omega) (by omega)⟩
theorem Tot.upto {body:Nat->σ->Option (σ⊕ρ)} {P:ρ->Prop} (N:Nat) (I:Nat->σ->Prop)
  (step:∀ i x,i<N->I i x->Tot (λ n=>body n x) (Rd2 (I (i+1)) P))
  (last:∀ x,I N x->Tot (λ n=>body n x) (Rd2 (λ _=>False) P)) (x:σ) (h0:I 0 x):Tot (λ n=>Go.AI.whl (body n) n x) P:=by
 refine Tot.whl (body:=body) (λ k x=>∃ i,i<=N/\k=N-i/\I i x) ?_ N x ⟨0,by omega,by omega,h0⟩
 rintro k x ⟨i,hi,rfl,hx⟩
 rcases Nat.lt_or_ge i N with hlt|hge
 ·refine (step i x hlt hx).mono λ z hz=>?_
  cases z with
  | inl y=>exact ⟨N-(i+1),by omega,i+1,by omega,rfl,hz⟩
  | inr r=>exact hz
 ·have:i=N:=by omega
  subst this
  refine (last x hx).mono λ z hz=>?_
  cases z with
  | inl y=>exact hz.elim
  | inr r=>exact hz
theorem Ft {l:List α} {i:Nat} {x:α} (h:l[i]? = some x):idx l (i:Int)=some x:=by
 unfold idx
 rw [if_pos (by omega)]
 simpa using h
theorem BL {l:List α} {i:Nat} (h:i<l.length):idx l (i:Int)=some l[i]:=Ft (JgN h)
theorem PZ {eb:Nat} {xs ys:List α} (h:(xs.length+ys.length)*eb<=70368744177664):app eb xs ys=some (xs++ys):=by
 unfold app;rw [if_pos h]
theorem Sw {l:List α} {i:Nat} {y:α} (h:i<l.length):put l (i:Int) y=some (l.set i y):=by
 unfold put;rw [if_pos (by omega),Int.toNat_natCast]
theorem Je6 {x y:List UInt8} (h:x.length+y.length<=9223372036854775807):cat x y=some (x++y):=by
 unfold cat;rw [if_pos h]
end Go.AI
end
section
namespace Go.AI
theorem JbM (a:Int):IntKind.i64.wrap a=if decide (a % 18446744073709551616>=9223372036854775808)=true then a % 18446744073709551616-18446744073709551616 else a % 18446744073709551616:=rfl
theorem w64 {a:Int} (h:-9223372036854775808<=a) (h':a<9223372036854775808):IntKind.i64.wrap a=a:=by
 rw [JbM]
 simp only [decide_eq_true_eq]
 split<;>omega
theorem Jcn {a b:Int} (h:-9223372036854775808<=a+b) (h':a+b<9223372036854775808):BC .i64 a b=a+b:=w64 h h'
theorem Jf8 {a b:Int} (h:-9223372036854775808<=a-b) (h':a-b<9223372036854775808):DD .i64 a b=a-b:=w64 h h'
theorem D0 {i:Nat} (h:i<9223372036854775807):BC .i64 (i:Int) 1=((i+1:Nat):Int):=by rw [Jcn]<;>omega
theorem WY {a m:Int} (h:0<=a) (hm:0<m):CK a m=a % m/\0<=CK a m/\CK a m<m:=by
 have e:CK a m=a % m:=by unfold CK;rw [Int.tmod_eq_emod_of_nonneg h]
 rw [e];exact ⟨rfl,Int.emod_nonneg _ (by omega),Int.emod_lt_of_pos _ hm⟩
variable {α β σ ρ:Type}
theorem Jf9 [Inhabited α] {l:List α} {i:Int} (h:0<=i) (h':i<l.length):idx l i=some (l.getD i.toNat default):=by
 unfold idx
 rw [if_pos h,List.getD_eq_getElem?_getD,JgN (by omega)];rfl
theorem Hi [Inhabited α] {l:List α} {i:Nat} (h:i<l.length):idx l (i:Int)=some (l.getD i default):=by
 rw [Jf9 (by omega) (by omega),Int.toNat_natCast]
theorem Jal {l:List α} {a b:Int} (h:0<=a) (h1:a<=b) (h2:b<=l.length):sub l a b=some ((l.take b.toNat).drop a.toNat):=by
 unfold sub;rw [if_pos ⟨h,h1,h2⟩]
theorem GL {l:List α} {k:Nat} (h:k<=l.length):sub l 0 (k:Int)=some (l.take k):=by
 rw [Jal (by omega) (by omega) (by omega)];simp
theorem Jam {eb:Nat} {k:Int} {z:α} (h:0<=k) (h':k.toNat*eb<=70368744177664):mkl eb k z=some (List.replicate k.toNat z):=by
 unfold mkl;rw [if_pos ⟨h,h'⟩]
theorem II {b:Bool} (h:b=true):EQ b=some ():=by subst h;rfl
theorem Vm {body:σ->Option (σ⊕ρ)} {r:ρ} (st:Nat->σ) (k:Nat) (step:∀ i,i<k->body (st i)=some (.inl (st (i+1)))) (last:body (st k)=some (.inr r)):∀ n,k<n->whl body n (st 0)=some r:=by
 have key:∀ (j n i:Nat),i+j=k->j<n->whl body n (st i)=some r:=by
  intro j
  induction j with
  | zero=>
   intro n i hi hn
   cases n with
   | zero=>omega
   | succ n=>
    have:i=k:=by omega
    subst this;simp only [whl,last]
  | succ j ih=>
   intro n i hi hn
   cases n with
   | zero=>omega
   | succ n=>simp only [whl,step i (by omega)];exact ih n (i+1) (by omega) (by omega)
 intro n hn
 exact key k n 0 (by omega) hn
theorem Ev.to {body:Nat->σ->Option (σ⊕ρ)} {r:ρ} (st:Nat->σ) (k:Nat) (h:∃ N,∀ n,N<=n->(∀ i,i<k->body n (st i)=some (.inl (st (i+1))))/\body n (st k)=some (.inr r)):Ev (λ n=>Go.AI.whl (body n) n (st 0)) r:=by
 obtain ⟨N,h⟩:=h
 exact ⟨max N (k+1),λ n hn=>Vm st k (h n (by omega)).1 (h n (by omega)).2 n (by omega)⟩
def HP (N:Nat) (stop:Nat->Option ρ) (d:ρ):ρ:=((List.range N).findSome? stop).getD d
theorem WZ {N:Nat} {stop:Nat->Option ρ} {d:ρ} (h:∀ i,i<N->stop i=none):HP N stop d=d:=by
 unfold HP
 rw [List.findSome?_eq_none_iff.2 λ i hi=>h i (List.mem_range.1 hi)];rfl
theorem W2 {N:Nat} {stop:Nat->Option ρ} {d r:ρ} (k:Nat) (hk:k<N) (hr:stop k=some r) (h:∀ i,i<k->stop i=none):HP N stop d=r:=by
 unfold HP
 have:(List.range N).findSome? stop=some r:=by
  have e:List.range N=List.range k++(List.range (N-k)).map (k+·):=by rw [← List.range_add];congr 1;omega
  rw [e,List.findSome?_append,List.findSome?_eq_none_iff.2 λ i hi=>h i (List.mem_range.1 hi)]
  have:N-k=(N-k-1)+1:=by omega
  rw [this,List.range_succ_eq_map]
  simp [hr]
 rw [this];rfl
theorem Qz (N:Nat) (stop:Nat->Option ρ) (d:ρ):((∀ i,i<N->stop i=none)/\HP N stop d=d)\/∃ k r,k<N/\stop k=some r/\(∀ i,i<k->stop i=none)/\HP N stop d=r:=by
 by_cases h:∀ i,i<N->stop i=none
 ·exact .inl ⟨h,WZ h⟩
 ·right
  have hex:∃ k,k<N/\stop k≠none:=by
   apply Classical.byContradiction
   intro hh
   exact h λ i hi=>Classical.byContradiction λ hn=>hh ⟨i,hi,hn⟩
  have key:∀ m,(∃ k,k<m/\k<N/\stop k≠none)->∃ k,k<N/\stop k≠none/\∀ i,i<k->stop i=none:=by
   intro m
   induction m with
   | zero=>rintro ⟨k,hk,_⟩;omega
   | succ m ih=>
    rintro ⟨k,hk,h1,h2⟩
    by_cases hm:∃ k,k<m/\k<N/\stop k≠none
    ·exact ih hm
    ·refine ⟨k,h1,h2,λ i hi=>Classical.byContradiction λ hn=>hm ⟨i,by omega,by omega,hn⟩⟩
  obtain ⟨k0,h1,h2⟩:=hex
  obtain ⟨k,h3,h4,h5⟩:=key (k0+1) ⟨k0,by omega,h1,h2⟩
  obtain ⟨r,hr⟩:=Option.ne_none_iff_exists'.1 h4
  exact ⟨k,r,h3,hr,h5,W2 k h3 hr h5⟩
theorem W3 {body:Int->Option (Int⊕ρ)} {N:Nat} (stop:Nat->Option ρ) {d:ρ} (h1:∀ i,i<N->body (i:Int)=some (match stop i with|some r=>.inr r|none=>.inl ((i+1:Nat):Int))) (h2:body (N:Int)=some (.inr d)):∀ n,N<n->whl body n 0=some (HP N stop d):=by
 intro n hn
 rcases Qz N stop d with ⟨h,e⟩|⟨k,r,hk,hr,h,e⟩
 ·rw [e]
  exact Vm (λ i=>(i:Int)) N (λ i hi=>by rw [h1 i hi,h i hi]) h2 n hn
 ·rw [e]
  exact Vm (λ i=>(i:Int)) k (λ i hi=>by rw [h1 i (by omega),h i hi]) (by rw [h1 k hk,hr]) n (by omega)
theorem Ev.first {body:Nat->Int->Option (Int⊕ρ)} {N:Nat} (stop:Nat->Option ρ) {d:ρ} (h:∃ M,∀ n,M<=n->(∀ i,i<N->body n (i:Int)=some (match stop i with|some r=>.inr r|none=>.inl ((i+1:Nat):Int)))/\body n (N:Int)=some (.inr d)):Ev (λ n=>Go.AI.whl (body n) n 0) (HP N stop d):=by
 obtain ⟨M,h⟩:=h
 exact ⟨max M (N+1),λ n hn=>W3 stop (h n (by omega)).1 (h n (by omega)).2 n (by omega)⟩
theorem Tot.gF {P:α->Prop} {c:Bool} {f:Nat->Option β} {d:β} {g:Nat->β->Option α} (hc:c=false) (k:Tot (λ n=>g n d) P):Tot (λ n=>(if c=true then f n else some d).bind (g n)) P:=by
 subst hc;exact k
noncomputable def lim [Inhabited α] (f:Nat->Option α):α:=@dite α (∃ z,Ev f z) (Classical.propDecidable _) (λ h=>Classical.choose h) λ _=>default
theorem Ev.lim [Inhabited α] {f:Nat->Option α} {z:α} (h:Ev f z):lim f=z:=by
 have hex:∃ z,Ev f z:=⟨z,h⟩
 have e:AI.lim f=Classical.choose hex:=by unfold AI.lim;rw [dif_pos hex]
 rw [e]
 obtain ⟨n,hn⟩:=h
 obtain ⟨m,hm⟩:=Classical.choose_spec hex
 have h1:=hn (max n m) (by omega)
 have h2:=hm (max n m) (by omega)
 rw [h1] at h2;cases h2;rfl
theorem Tot.lim [Inhabited α] {f:Nat->Option α} {P:α->Prop} (h:Tot f P):P (lim f)/\Ev f (lim f):=by
 obtain ⟨z,hz,h⟩:=h
 rw [h.lim];exact ⟨hz,h⟩
theorem Ev.many {f:Nat->Nat->Option α} {z:Nat->α} (N:Nat) (h:∀ i,i<N->Ev (λ n=>f n i) (z i)):∃ M,∀ n,M<=n->∀ i,i<N->f n i=some (z i):=by
 induction N with
 | zero=>exact ⟨0,λ n _ i hi=>by omega⟩
 | succ N ih=>
  obtain ⟨M1,h1⟩:=ih λ i hi=>h i (by omega)
  obtain ⟨M2,h2⟩:=h N (by omega)
  exact ⟨max M1 M2,λ n hn i hi=>by
   by_cases e:i=N
   ·subst e;exact h2 n (by omega)
   ·exact h1 n (by omega) i (by omega)⟩
end Go.AI
end
section
namespace Go.AI
def scan {ρ:Type} (N:Nat) (stop:Nat->Option ρ):Unit⊕ρ:=match (List.range N).findSome? stop with
 | some r=>.inr r
 | none=>.inl ()
theorem FX {ρ:Type} {body:Nat->Int->Option (Int⊕(Unit⊕ρ))} (N:Nat) (stop:Nat->Option ρ)
  (h:∀ i,i<N->Ev (λ n=>body n (i:Int)) (match stop i with|some r=>.inr (.inr r)|none=>.inl ((i+1:Nat):Int)))
  (h2:Ev (λ n=>body n (N:Int)) (.inr (.inl ()))):Ev (λ n=>whl (body n) n 0) (AI.scan N stop):=by
 have key:∀ (k i:Nat),i+k=N->(List.range N).findSome? stop=((List.range k).map (i+·)).findSome? stop->∃ M c,∀ n fuel,M<=n->c<=fuel->whl (body n) fuel (i:Int)=some (AI.scan N stop):=by
  intro k
  induction k with
  | zero=>
   intro i hi hf
   have:i=N:=by omega
   subst this
   obtain ⟨M,hM⟩:=h2
   refine ⟨M,1,λ n fuel hn hfu=>?_⟩
   obtain ⟨fuel,rfl⟩:∃ f,fuel=f+1:=⟨fuel-1,by omega⟩
   have e:=hM n hn
   simp only at e
   simp only [AI.whl,e]
   unfold AI.scan
   rw [hf];rfl
  | succ k ih=>
   intro i hi hf
   obtain ⟨M,hM⟩:=h i (by omega)
   have hs:(List.range (k+1)).map (i+·)=i::(List.range k).map ((i+1)+·):=by
    rw [List.range_succ_eq_map]
    simp only [List.map_cons,Nat.add_zero,List.map_map,List.cons.injEq,true_and]
    apply List.map_congr_left
    intro a _
    simp only [Function.comp];omega
   rw [hs,List.findSome?_cons] at hf
   cases hst:stop i with
   | some r=>
    rw [hst] at hf hM
    refine ⟨M,1,λ n fuel hn hfu=>?_⟩
    obtain ⟨fuel,rfl⟩:∃ f,fuel=f+1:=⟨fuel-1,by omega⟩
    have e:=hM n hn
    simp only at e
    simp only [AI.whl,e]
    unfold AI.scan
    rw [hf]
   | none=>
    rw [hst] at hf hM
    obtain ⟨M2,c,h3⟩:=ih (i+1) (by omega) hf
    refine ⟨max M M2,c+1,λ n fuel hn hfu=>?_⟩
    obtain ⟨fuel,rfl⟩:∃ f,fuel=f+1:=⟨fuel-1,by omega⟩
    have e:=hM n (by omega)
    simp only at e
    simp only [AI.whl,e]
    exact h3 n fuel (by omega) (by omega)
 obtain ⟨M,c,hh⟩:=key N 0 (by omega) (by simp)
 exact ⟨max M c,λ m hm=>hh m m (by omega) (by omega)⟩
theorem GX {ρ:Type} {N:Nat} {stop:Nat->Option ρ} (h:∀ i,i<N->stop i=none):scan N stop=.inl ():=by
 unfold scan
 rw [List.findSome?_eq_none_iff.2 λ i hi=>h i (List.mem_range.1 hi)]
theorem GY {ρ:Type} {N:Nat} {stop:Nat->Option ρ} {i:Nat} (hi:i<N) (h:(stop i).isSome=true):∃ k r,k<N/\stop k=some r/\scan N stop=.inr r:=by
 unfold scan
 cases hf:(List.range N).findSome? stop with
 | none=>rw [List.findSome?_eq_none_iff.1 hf i (List.mem_range.2 hi)] at h;cases h
 | some r=>
  obtain ⟨k,hk,hr⟩:=List.exists_of_findSome?_eq_some hf
  exact ⟨k,r,List.mem_range.1 hk,hr,rfl⟩
def D1 (b:UInt8):Int:=(b.toNat:Int)
def Hj (b:UInt8):Bool:=decide (Dd .u8 (D1 b) 127>=32)&&decide (Dd .u8 (D1 b) 127<=126)
def Dy (b:UInt8):Bool:=Dd .u8 (D1 b) 127==32
theorem IJ {s:List UInt8} {i:Nat} {b:UInt8} (h:s[i]? = some b):Mg s (i:Int)=some (D1 b):=by
 rw [Su (Ar h)]
 unfold Re D1
 rw [h];rfl
theorem QA {i n:Nat} (h:i<n):decide ((i:Int)<((n:Nat):Int))=true:=by simpa using h
def NM (s:List UInt8):Int×Int:=match scan s.length (λ i=>if Hj (s.getD i 0) then none else some ((i:Int),(60:Int))) with
 | .inl _=>(((s.length:Nat):Int),0)
 | .inr p=>p
theorem Cb {α:Type} {l:List α} {i:Nat} {d:α} (h:i<l.length):l.getD i d=l[i]:=by
 rw [List.getD_eq_getElem?_getD,JgN h];rfl
theorem JbN {s:List UInt8} (hl:s.length<9223372036854775807):Ev (λ n=>Io n s) (NM s):=by
 unfold Io NM
 refine Ev.bind (FX s.length (λ i=>if Hj (s.getD i 0) then none else some ((i:Int),(60:Int))) (λ i hi=>Ev.all λ n=>?_) (Ev.all λ n=>?_)) ?_
 ·unfold EX
  have hg:s[i]? = some s[i]:=JgN hi
  rw [if_pos (QA hi),IJ hg,Cb hi]
  have hc:Dr n (D1 s[i])=some (Hj s[i]):=rfl
  simp only [Option.bind_some,hc]
  cases Hj s[i] with
  | true=>simp [D0 (show i<9223372036854775807 by omega)]
  | false=>simp
 ·unfold EX
  rw [if_neg (by simp)]
 ·generalize scan s.length _=z;cases z<;>exact Ev.const
theorem Jan {s:List UInt8} (hl:s.length<9223372036854775807):Ev (λ n=>Mq n s) (NM s):=by
 unfold Mq NM
 refine Ev.bind (FX s.length (λ i=>if Hj (s.getD i 0) then none else some ((i:Int),(60:Int))) (λ i hi=>Ev.all λ n=>?_) (Ev.all λ n=>?_)) ?_
 ·unfold HE
  have hg:s[i]? = some s[i]:=JgN hi
  rw [if_pos (QA hi),IJ hg,Cb hi]
  have hc:HW n (D1 s[i])=some (Hj s[i]):=rfl
  simp only [Option.bind_some,hc]
  cases Hj s[i] with
  | true=>simp [D0 (show i<9223372036854775807 by omega)]
  | false=>simp
 ·unfold HE
  rw [if_neg (by simp)]
 ·generalize scan s.length _=z;cases z<;>exact Ev.const
theorem Ua {s:List UInt8} (h:s.all Hj=true):NM s=(((s.length:Nat):Int),0):=by
 unfold NM
 rw [GX λ i hi=>by rw [Cb hi,List.all_eq_true.1 h _ (List.getElem_mem hi)];rfl]
theorem Rf {s:List UInt8} (h:s.all Hj=false):(NM s).2=60:=by
 rw [List.all_eq_false] at h
 obtain ⟨b,hb,hc⟩:=h
 obtain ⟨i,hi,e⟩:=List.getElem_of_mem hb
 unfold NM
 obtain ⟨k,r,hk,hr,hs⟩:=GY (stop:=λ i=>if Hj (s.getD i 0) then none else some ((i:Int),(60:Int))) hi (by
  rw [Cb hi,e];simp only [Bool.not_eq_true] at hc;rw [hc];rfl)
 rw [hs]
 simp only at hr ⊢
 split at hr
 ·cases hr
 ·cases hr;rfl
theorem W4 {s:List UInt8} (hl:s.length<9223372036854775807):Ev (λ n=>Ja n s) (s.all Hj):=by
 unfold Ja
 refine Ev.bind (Jan hl) ?_
 cases h:s.all Hj with
 | true=>rw [Ua h];exact Ev.const
 | false=>rw [Rf h];exact Ev.const
def Cy (r:Ap) (m:Int):Bool:=
 r.Print.all Hj&&decide (r.Print.length<=4)&&decide (1<=r.Cells.length)&&decide (r.Cells.length<=4) &&
 (decide (1<=r.Left)&&decide (r.Left<=63)&&decide (1<=r.Right)&&decide (r.Right<=63)&&decide (0<=r.From)&&decide (r.From<m)&&decide (0<=r.To)&&decide (r.To<m)) &&
 r.Cells.all (λ c=>decide (c<63)) &&
 (bif r.Print.any Dy then decide (r.Print.length=1)&&decide (r.Cells.length=1)&&r.Cells.any (λ c=>c==0) else !r.Cells.any (λ c=>c==0))
end Go.AI
end
section
namespace Go.AI
theorem W5 {r:Ap} (hl:r.Print.length<9223372036854775807):Ev (λ n=>whl (λ (x:(Bool×Int))=>Ea n r x.1 x.2) n (false,0)) (r.Print.any Dy):=by
 refine Ev.whl (body:=λ n x=>Ea n r x.1 x.2) (λ k x=>∃ i:Nat,x.2=(i:Int)/\i<=r.Print.length/\k=r.Print.length-i/\x.1=(r.Print.take i).any Dy) ?_ r.Print.length (false,0) ⟨0,rfl,by omega,by omega,by simp⟩
 rintro k ⟨b,i'⟩ ⟨i,h1,hi,rfl,h2⟩
 simp only at h1 h2
 subst h1
 subst h2
 rcases Nat.lt_or_ge i r.Print.length with hlt|hge
 ·left
  have hg:r.Print[i]? = some r.Print[i]:=JgN hlt
  have hcond:decide ((i:Int)<((r.Print.length:Nat):Int))=true:=by simpa using hlt
  refine ⟨((r.Print.take (i+1)).any Dy,((i+1:Nat):Int)),r.Print.length-(i+1),by omega,⟨i+1,rfl,by omega,rfl,rfl⟩,Ev.all λ n=>?_⟩
  unfold Ea
  rw [if_pos hcond]
  have ht:(r.Print.take (i+1)).any Dy=((r.Print.take i).any Dy||Dy r.Print[i]):=by
   rw [List.take_add_one,hg];simp only [Option.toList_some,List.any_append,List.any_cons,List.any_nil,Bool.or_false]
  have hsp:∀ n,MX n (D1 r.Print[i])=some (Dy r.Print[i]):=λ n=>rfl
  rw [ht,LO (by omega) (by omega),IJ hg]
  cases (r.Print.take i).any Dy with
  | true=>simp
  | false=>simp [hsp]
 ·right
  have e:i=r.Print.length:=by omega
  subst e
  refine Ev.all λ n=>?_
  unfold Ea
  rw [if_neg (by simp),List.take_length]
theorem Ev.upto {σ ρ:Type} {body:Nat->σ->Option (σ⊕ρ)} {R:ρ->Prop} (N:Nat) (I:Nat->σ->Prop)
  (step:∀ i x,i<N->I i x->(∃ y,I (i+1) y/\Ev (λ n=>body n x) (.inl y))\/∃ r,R r/\Ev (λ n=>body n x) (.inr r))
  (last:∀ x,I N x->∃ r,R r/\Ev (λ n=>body n x) (.inr r)) (x:σ) (h0:I 0 x):∃ r,R r/\Ev (λ n=>Go.AI.whl (body n) n x) r:=by
 refine Ev.whlR (body:=body) (λ k x=>∃ i,i<=N/\k=N-i/\I i x) ?_ N x ⟨0,by omega,by omega,h0⟩
 rintro k x ⟨i,hi,rfl,hx⟩
 rcases Nat.lt_or_ge i N with hlt|hge
 ·rcases step i x hlt hx with ⟨y,hy,hE⟩|h
  ·exact .inl ⟨y,N-(i+1),by omega,⟨i+1,by omega,rfl,hy⟩,hE⟩
  ·exact .inr h
 ·have:i=N:=by omega
  subst this
  exact .inr (last x hx)
theorem W6 {r:Ap} (hl:r.Cells.length<9223372036854775807) (y:Bool):∃ z:Bool⊕Bool,(if r.Cells.all (λ c=>decide (c<63))=true then z=.inl (r.Cells.any (λ c=>c==0)) else z=.inr false)/\Ev (λ n=>whl (λ (x:(Bool×Int))=>Dk n r y x.1 x.2) n (false,0)) z:=by
 refine Ev.upto (body:=λ n x=>Dk n r y x.1 x.2) r.Cells.length (λ i x=>x.2=(i:Int)/\x.1=(r.Cells.take i).any (λ c=>c==0)/\(r.Cells.take i).all (λ c=>decide (c<63))=true) ?_ ?_ (false,0) ⟨rfl,by simp,by simp⟩
 ·rintro i ⟨b,i'⟩ hlt ⟨h1,h2,h3⟩
  simp only at h1 h2
  subst h1
  subst h2
  have hg:r.Cells[i]? = some r.Cells[i]:=JgN hlt
  have hcond:decide ((i:Int)<((r.Cells.length:Nat):Int))=true:=by simpa using hlt
  by_cases hc:r.Cells[i]<63
  ·left
   refine ⟨((r.Cells.take (i+1)).any (λ c=>c==0),((i+1:Nat):Int)),⟨rfl,rfl,?_⟩,Ev.all λ n=>?_⟩
   ·rw [List.take_add_one,hg];simp only [Option.toList_some,List.all_append,h3,List.all_cons,decide_eq_true hc,List.all_nil,Bool.and_self]
   ·unfold Dk
    have ht:(r.Cells.take (i+1)).any (λ c=>c==0)=((r.Cells.take i).any (λ c=>c==0)||r.Cells[i]==0):=by
     rw [List.take_add_one,hg];simp only [Option.toList_some,List.any_append,List.any_cons,List.any_nil,Bool.or_false]
    rw [if_pos hcond,Jo hg,Option.bind_some,if_neg (by simpa using hc),ht,LO (by omega) (by omega)]
    cases (r.Cells.take i).any (λ c=>c==0) with
    | true=>simp
    | false=>simp
  ·right
   refine ⟨.inr false,?_,Ev.all λ n=>?_⟩
   ·rw [if_neg]
    intro h
    rw [List.all_eq_true] at h
    exact hc (by simpa using h r.Cells[i] (List.getElem_mem hlt))
   ·unfold Dk
    rw [if_pos hcond,Jo hg,Option.bind_some,if_pos (by simp;omega)]
 ·rintro ⟨b,i'⟩ ⟨h1,h2,h3⟩
  simp only at h1 h2
  subst h1
  subst h2
  rw [List.take_length] at h3 ⊢
  refine ⟨.inl (r.Cells.any (λ c=>c==0)),by rw [if_pos h3],Ev.all λ n=>?_⟩
  unfold Dk
  rw [if_neg (by simp)]
theorem Jao {r:Ap} (hp:r.Print.length<9223372036854775807) (hc:r.Cells.length<9223372036854775807) (m:Int):Ev (λ n=>KY n r m) (Cy r m):=by
 obtain ⟨z,hz,hE⟩:=W6 hc (r.Print.any Dy)
 have h1:=W4 hp
 have h2:=W5 (r:=r) hp
 unfold KY
 refine Ev.bind h1 ?_
 unfold Cy
 generalize r.Print.all Hj=a
 by_cases g1:((((!a)||(decide (((r.Print.length:Nat):Int)>4)))||(decide (((r.Cells.length:Nat):Int)<1)))||(decide (((r.Cells.length:Nat):Int)>4)))=true
 ·simp only [g1,if_true]
  have:(a&&decide (r.Print.length<=4)&&decide (1<=r.Cells.length)&&decide (r.Cells.length<=4))=false:=by
   rw [← Bool.not_eq_true]
   intro h
   simp only [JgO,decide_eq_true_eq] at h
   simp only [Jg5,decide_eq_true_eq,Bool.not_eq_true'] at g1
   rcases g1 with ((g|g)|g)|g
   ·rw [g] at h;simp at h
   all_goals omega
  rw [this]
  exact Ev.const
 ·simp only [g1]
  by_cases g2:((((((((decide (r.Left<1))||(decide (r.Left>63)))||(decide (r.Right<1)))||(decide (r.Right>63)))||(decide (r.From<0)))||(decide (r.From>=m)))||(decide (r.To<0)))||(decide (r.To>=m)))=true
  ·simp only [g2,if_true]
   have:(decide (1<=r.Left)&&decide (r.Left<=63)&&decide (1<=r.Right)&&decide (r.Right<=63)&&decide (0<=r.From)&&decide (r.From<m)&&decide (0<=r.To)&&decide (r.To<m))=false:=by
    rw [← Bool.not_eq_true]
    intro h
    simp only [JgO,decide_eq_true_eq] at h
    simp only [Jg5,decide_eq_true_eq] at g2
    omega
   rw [this,Bool.and_false]
   exact Ev.const
  ·have e1:(a&&decide (r.Print.length<=4)&&decide (1<=r.Cells.length)&&decide (r.Cells.length<=4))=true:=by
    simp only [Jg5,decide_eq_true_eq,Bool.not_eq_true',not_or] at g1
    simp only [JgO,decide_eq_true_eq]
    refine ⟨⟨⟨by simpa using g1.1.1.1,?_⟩,?_⟩,?_⟩<;>omega
   have e2:(decide (1<=r.Left)&&decide (r.Left<=63)&&decide (1<=r.Right)&&decide (r.Right<=63)&&decide (0<=r.From)&&decide (r.From<m)&&decide (0<=r.To)&&decide (r.To<m))=true:=by
    simp only [Jg5,decide_eq_true_eq,not_or] at g2
    simp only [JgO,decide_eq_true_eq]
    omega
   rw [e1,e2]
   simp only [g2,JgY,if_false]
   refine Ev.bind h2 (Ev.bind hE ?_)
   split at hz
   ·rename_i h
    subst hz
    rw [h]
    generalize r.Print.any Dy=b
    cases b with
    | false=>exact Ev.const
    | true=>
     refine Ev.all λ n=>?_
     simp only [Bool.not_true,JgY,if_false,Bool.and_true,Bool.true_and,cond_true]
     congr 3<;>rw [Bool.eq_iff_iff]<;>simp<;>omega
   ·rename_i h
    subst hz
    rw [Bool.not_eq_true] at h
    rw [h]
    exact Ev.const
end Go.AI
end
section
namespace Go.AI
theorem Ev.iteT {α:Type} {c:Bool} {a b:Nat->Option α} {z:α} (h:c=true) (k:Ev a z):Ev (λ n=>if c=true then a n else b n) z:=by subst h;exact k
theorem Ev.iteF {α:Type} {c:Bool} {a b:Nat->Option α} {z:α} (h:c=false) (k:Ev b z):Ev (λ n=>if c=true then a n else b n) z:=by subst h;exact k
theorem Ev.bindC {α β:Type} {x:Option β} {y:β} {g:Nat->β->Option α} {z:α} (h:x=some y) (k:Ev (λ n=>g n y) z):Ev (λ n=>x.bind (g n)) z:=by subst h;exact k
theorem Ev.guard {α β:Type} {c:Bool} {f:Nat->Option β} {d x:β} {g:Nat->β->Option α} {z:α} (h:c=true->Ev f x) (k:Ev (λ n=>g n (if c=true then x else d)) z):Ev (λ n=>(if c=true then f n else some d).bind (g n)) z:=by
 cases c with
 | true=>exact Ev.bind (h rfl) k
 | false=>exact k
theorem Jap {α β:Type} {a:List α} {b:List β}:(((a.length:Nat):Int) != ((b.length:Nat):Int))=decide (a.length≠b.length):=by
 rw [Bool.eq_iff_iff]
 simp only [bne_iff_ne,ne_eq,decide_eq_true_eq]
 omega
theorem Rg {α:Type} [DecidableEq α] [Inhabited α] (a b:List α) (h:a.length=b.length):scan a.length (λ i=>if a.getD i default=b.getD i default then none else some false)=if a=b then .inl () else .inr false:=by
 by_cases e:a=b
 ·subst e
  rw [if_pos rfl]
  exact GX λ i _=>by rw [if_pos rfl]
 ·rw [if_neg e]
  have:∃ i,i<a.length/\a.getD i default≠b.getD i default:=by
   apply Classical.byContradiction
   intro hn
   refine e (List.ext_getElem h λ i h1 h2=>?_)
   have:=Classical.byContradiction λ hc=>hn ⟨i,h1,hc⟩
   rwa [Cb h1,Cb h2] at this
  obtain ⟨i,hi,hne⟩:=this
  obtain ⟨k,r,_,hr,hs⟩:=GY (stop:=λ i=>if a.getD i default=b.getD i default then none else some false) hi (by rw [if_neg hne];rfl)
  rw [hs]
  split at hr
  ·cases hr
  ·cases hr;rfl
theorem Sx (a b:List Int) (ha:a.length<9223372036854775807):Ev (λ n=>FW n a b) (decide (a=b)):=by
 unfold FW
 rw [Jap]
 by_cases h:a.length=b.length
 ·refine Ev.iteF (by simp [h]) ?_
  refine Ev.bind (FX a.length (λ i=>if a.getD i default=b.getD i default then none else some false) (λ i hi=>Ev.all λ n=>?_) (Ev.all λ n=>?_)) ?_
  ·unfold Eb
   rw [if_pos (QA hi),Hi hi,Hi (by omega)]
   simp only [Option.bind_some]
   by_cases e:a.getD i default=b.getD i default
   ·rw [if_neg (by simp only [bne_iff_ne,ne_eq];exact λ hh=>hh e),if_pos e,D0 (by omega)]
   ·rw [if_pos (by simp only [bne_iff_ne,ne_eq];exact e),if_neg e]
  ·unfold Eb
   rw [if_neg (by simp)]
  ·rw [Rg a b h]
   by_cases e:a=b
   ·rw [if_pos e,decide_eq_true e];exact Ev.const
   ·rw [if_neg e,decide_eq_false e];exact Ev.const
 ·refine Ev.iteT (by simp [h]) ?_
  rw [decide_eq_false (λ e=>h (by rw [e]))]
  exact Ev.const
theorem Ub (a b:List Int) (ha:a.length<9223372036854775807):Ev (λ n=>GT n a b) (decide (a=b)):=by
 unfold GT
 rw [Jap]
 by_cases h:a.length=b.length
 ·refine Ev.iteF (by simp [h]) ?_
  refine Ev.bind (FX a.length (λ i=>if a.getD i default=b.getD i default then none else some false) (λ i hi=>Ev.all λ n=>?_) (Ev.all λ n=>?_)) ?_
  ·unfold D8
   rw [if_pos (QA hi),Hi hi,Hi (by omega)]
   simp only [Option.bind_some]
   by_cases e:a.getD i default=b.getD i default
   ·rw [if_neg (by simp only [bne_iff_ne,ne_eq];exact λ hh=>hh e),if_pos e,D0 (by omega)]
   ·rw [if_pos (by simp only [bne_iff_ne,ne_eq];exact e),if_neg e]
  ·unfold D8
   rw [if_neg (by simp)]
  ·rw [Rg a b h]
   by_cases e:a=b
   ·rw [if_pos e,decide_eq_true e];exact Ev.const
   ·rw [if_neg e,decide_eq_false e];exact Ev.const
 ·refine Ev.iteT (by simp [h]) ?_
  rw [decide_eq_false (λ e=>h (by rw [e]))]
  exact Ev.const
theorem VX (a b:Ap):decide (a=b)=(a.Print==b.Print&&decide (a.Cells=b.Cells)&&a.Left==b.Left&&a.Right==b.Right&&a.From==b.From&&a.To==b.To):=by
 rw [Bool.eq_iff_iff]
 cases a;cases b
 simp only [decide_eq_true_eq,Ap.mk.injEq,JgO,beq_iff_eq]
 exact ⟨λ ⟨h1,h2,h3,h4,h5,h6⟩=>⟨⟨⟨⟨⟨h1,h2⟩,h3⟩,h4⟩,h5⟩,h6⟩,λ ⟨⟨⟨⟨⟨h1,h2⟩,h3⟩,h4⟩,h5⟩,h6⟩=>⟨h1,h2,h3,h4,h5,h6⟩⟩
theorem Uc (a b:Ap) (ha:a.Cells.length<9223372036854775807):Ev (λ n=>GH n a b) (decide (a=b)):=by
 unfold GH
 refine Ev.guard (λ _=>Sx a.Cells b.Cells ha) (Ev.all λ n=>?_)
 rw [VX]
 cases h:(a.Print==b.Print)<;>simp
theorem Jaq (a b:Ap) (ha:a.Cells.length<9223372036854775807):Ev (λ n=>GU n a b) (decide (a=b)):=by
 unfold GU
 refine Ev.guard (λ _=>Ub a.Cells b.Cells ha) (Ev.all λ n=>?_)
 rw [VX]
 cases (a.Print==b.Print)<;>cases (a.Left==b.Left)<;>cases (a.Right==b.Right)<;>cases (a.From==b.From)<;>cases (a.To==b.To)<;>simp
theorem Ud (b:UInt8):(Hg (D1 b)==4)=Dy b:=by
 have:∀ k:Nat,k<256->(Hg (k:Int)==4)=(Dd .u8 (k:Int) 127==32):=by decide +kernel
 exact this b.toNat b.toNat_lt
theorem Jar {s:List UInt8} {f:UInt8->Bool}:scan s.length (λ i=>if f (s.getD i 0) then some true else none)=if s.any f then .inr true else .inl ():=by
 cases h:s.any f with
 | false=>
  rw [List.any_eq_false] at h
  exact GX λ i hi=>by rw [Cb hi,if_neg (h _ (List.getElem_mem hi))]
 | true=>
  rw [List.any_eq_true] at h
  obtain ⟨b,hb,hf⟩:=h
  obtain ⟨i,hi,e⟩:=List.getElem_of_mem hb
  obtain ⟨k,r,_,hr,hs⟩:=GY (stop:=λ i=>if f (s.getD i 0) then some true else none) hi (by rw [Cb hi,e,hf];rfl)
  rw [hs]
  split at hr
  ·cases hr;rfl
  ·cases hr
theorem Ue {s:List UInt8} (hl:s.length<9223372036854775807):Ev (λ n=>D6 n s) (s.any Dy):=by
 unfold D6
 refine Ev.bind (FX s.length (λ i=>if Dy (s.getD i 0) then some true else none) (λ i hi=>Ev.all λ n=>?_) (Ev.all λ n=>?_)) ?_
 ·unfold CN
  have hg:s[i]? = some s[i]:=JgN hi
  rw [if_pos (QA hi),IJ hg,Cb hi]
  simp only [Option.bind_some,T4,Ud]
  cases Dy s[i] with
  | true=>simp
  | false=>simp [D0 (show i<9223372036854775807 by omega)]
 ·unfold CN
  rw [if_neg (by simp)]
 ·rw [Jar]
  cases s.any Dy<;>exact Ev.const
theorem W7 {l:List Int} {f:Int->Bool}:scan l.length (λ i=>if f (l.getD i 0) then none else some false)=if l.all f then .inl () else .inr false:=by
 cases h:l.all f with
 | true=>
  rw [List.all_eq_true] at h
  exact GX λ i hi=>by rw [Cb hi,if_pos (h _ (List.getElem_mem hi))]
 | false=>
  rw [List.all_eq_false] at h
  obtain ⟨b,hb,hf⟩:=h
  obtain ⟨i,hi,e⟩:=List.getElem_of_mem hb
  obtain ⟨k,r,_,hr,hs⟩:=GY (stop:=λ i=>if f (l.getD i 0) then none else some false) hi (by rw [Cb hi,e,if_neg hf];rfl)
  rw [hs]
  split at hr
  ·cases hr
  ·cases hr;rfl
def NN (c:Int):Bool:=decide (c<63)&&!(c==0)
theorem W8 {r:Ap} (hp:r.Print.length<9223372036854775807) (hc:r.Cells.length<9223372036854775807) (m:Int):Ev (λ n=>GS n r m) (Cy r m):=by
 unfold GS
 by_cases g1:(((decide (((r.Print.length:Nat):Int)>4))||(decide (((r.Cells.length:Nat):Int)<1)))||(decide (((r.Cells.length:Nat):Int)>4)))=true
 ·refine Ev.iteT g1 ?_
  have:Cy r m=false:=by
   rw [← Bool.not_eq_true];intro h
   simp only [Cy,JgO,decide_eq_true_eq] at h
   simp only [Jg5,decide_eq_true_eq] at g1
   omega
  rw [this];exact Ev.const
 ·rw [Bool.not_eq_true] at g1
  refine Ev.iteF g1 (Ev.bind (JbN hp) ?_)
  cases ha:r.Print.all Hj with
  | false=>
   refine Ev.iteT (by rw [Rf ha];rfl) ?_
   have:Cy r m=false:=by simp [Cy,ha]
   rw [this];exact Ev.const
  | true=>
   refine Ev.iteF (by rw [Ua ha];rfl) ?_
   by_cases g2:((((decide (r.Left<1))||(decide (r.Left>63)))||(decide (r.Right<1)))||(decide (r.Right>63)))=true
   ·refine Ev.iteT g2 ?_
    have:Cy r m=false:=by
     rw [← Bool.not_eq_true];intro h
     simp only [Cy,JgO,decide_eq_true_eq] at h
     simp only [Jg5,decide_eq_true_eq] at g2
     omega
    rw [this];exact Ev.const
   ·rw [Bool.not_eq_true] at g2
    refine Ev.iteF g2 ?_
    by_cases g3:((((decide (r.From<0))||(decide (r.From>=m)))||(decide (r.To<0)))||(decide (r.To>=m)))=true
    ·refine Ev.iteT g3 ?_
     have:Cy r m=false:=by
      rw [← Bool.not_eq_true];intro h
      simp only [Cy,JgO,decide_eq_true_eq] at h
      simp only [Jg5,decide_eq_true_eq] at g3
      omega
     rw [this];exact Ev.const
    ·rw [Bool.not_eq_true] at g3
     refine Ev.iteF g3 (Ev.bind (Ue hp) ?_)
     simp only [Bool.or_eq_false_iff,decide_eq_false_iff_not] at g1 g2 g3
     have e1:Cy r m=(r.Cells.all (λ c=>decide (c<63))&&(bif r.Print.any Dy then decide (r.Print.length=1)&&decide (r.Cells.length=1)&&r.Cells.any (λ c=>c==0) else !r.Cells.any (λ c=>c==0))):=by
      unfold Cy
      rw [ha]
      have:(true&&decide (r.Print.length<=4)&&decide (1<=r.Cells.length)&&decide (r.Cells.length<=4)&&(decide (1<=r.Left)&&decide (r.Left<=63)&&decide (1<=r.Right)&&decide (r.Right<=63)&&decide (0<=r.From)&&decide (r.From<m)&&decide (0<=r.To)&&decide (r.To<m)))=true:=by
       simp only [JgO,decide_eq_true_eq,true_and]
       omega
      rw [this,Bool.true_and]
     rw [e1]
     cases hsp:r.Print.any Dy with
     | true=>
      refine Ev.iteT rfl ?_
      by_cases g4:((((r.Print.length:Nat):Int)==1)&&(((r.Cells.length:Nat):Int)==1))=true
      ·have hl:r.Print.length=1/\r.Cells.length=1:=by
        simp only [JgO,beq_iff_eq] at g4;omega
       obtain ⟨c,hcell⟩:=List.length_eq_one_iff.1 hl.2
       have hi:idx r.Cells 0=some c:=by rw [hcell];rfl
       simp only [g4,if_true,hi,Option.bind_some]
       refine Ev.all λ n=>?_
       rw [hcell]
       simp only [hl.1,List.all_cons,List.all_nil,List.any_cons,List.any_nil,List.length_cons,List.length_nil,Bool.and_true,Bool.or_false,decide_true,Bool.true_and,cond_true]
       cases h0:(c==0) with
       | false=>simp
       | true=>
        have:c=0:=by simpa using h0
        subst this;rfl
      ·rw [Bool.not_eq_true] at g4
       simp only [g4,JgY,if_false,Option.bind_some,Bool.false_and]
       refine Ev.all λ n=>?_
       have:(decide (r.Print.length=1)&&decide (r.Cells.length=1))=false:=by
        rw [← Bool.not_eq_true];intro h
        simp only [JgO,decide_eq_true_eq] at h
        rw [← Bool.not_eq_true] at g4
        apply g4
        simp [h.1,h.2]
       simp [this]
     | false=>
      refine Ev.iteF rfl ?_
      refine Ev.bind (FX r.Cells.length (λ i=>if NN (r.Cells.getD i 0) then none else some false) (λ i hi=>Ev.all λ n=>?_) (Ev.all λ n=>?_)) ?_
      ·unfold D7
       rw [if_pos (QA hi),Hi hi,show r.Cells.getD i default=r.Cells.getD i 0 from rfl]
       generalize r.Cells.getD i 0=c
       simp only [Option.bind_some,Ip]
       by_cases hcc:NN c=true
       ·simp only [NN,JgO,decide_eq_true_eq,Bool.not_eq_true',beq_eq_false_iff_ne,ne_eq] at hcc
        rw [if_neg (by simp;omega),if_pos (by simp [NN];omega),D0 (by omega)]
       ·rw [if_pos (by simp [NN] at hcc ⊢;omega),if_neg hcc]
      ·unfold D7
       rw [if_neg (by simp)]
      ·rw [W7]
       have e2:(r.Cells.all (λ c=>decide (c<63))&&!r.Cells.any (λ c=>c==0))=r.Cells.all NN:=by
        rw [Bool.eq_iff_iff]
        simp only [NN,JgO,List.all_eq_true,Bool.not_eq_true',List.any_eq_false,Bool.not_eq_true]
        exact ⟨λ h x hx=>⟨h.1 x hx,h.2 x hx⟩,λ h=>⟨λ x hx=>(h x hx).1,λ x hx=>(h x hx).2⟩⟩
       simp only [cond_false]
       rw [e2]
       cases r.Cells.all NN<;>exact Ev.const
end Go.AI
end
section
namespace Go.AI
def Jas (r:Ap):Prop:=r.Print.length<9223372036854775807/\r.Cells.length<9223372036854775807
def Gr (t:Aa):Prop:=t.Rules.length<9223372036854775807/\∀ r∈t.Rules,Jas r
def Uf (t:Aa) (i:Nat):Unit⊕(Int×Int):=scan i (λ k=>if t.Rules.getD k default=t.Rules.getD i default then some ((i:Int),(20:Int)) else none)
def IK (t:Aa) (i:Nat):Option (Int×Int):=if Cy (t.Rules.getD i default) t.Modes=true then (match Uf t i with | .inl _=>none | .inr p=>some p) else some ((i:Int),20)
def Vn (t:Aa):Bool:=decide (t.Modes<1)||decide (t.Modes>8)||(t.Accept==0)||decide (IntKind.i64.wrap t.Accept>=Pf .i64 1 t.Modes)||decide (((t.Rules.length:Nat):Int)<1)||decide (((t.Rules.length:Nat):Int)>64)
def Nb (t:Aa):Int×Int:=if Vn t=true then (-1,1) else match scan t.Rules.length (IK t) with
 | .inl _=>(0,0)
 | .inr p=>p
theorem Gr.get {t:Aa} (h:Gr t) {i:Nat} (hi:i<t.Rules.length):Jas (t.Rules.getD i default):=by
 rw [Cb hi];exact h.2 _ (List.getElem_mem hi)
theorem W9 {t:Aa} (ht:Gr t) {i:Nat} (hi:i<t.Rules.length):Ev (λ n=>whl (λ (x:Int)=>Fj n t (i:Int) x) n 0) (Uf t i):=by
 refine FX i _ (λ k hk=>?_) (Ev.all λ n=>?_)
 ·unfold Fj
  refine Ev.iteT (by simpa using hk) (Ev.bindC (Hi (by omega)) (Ev.bindC (Hi hi) (Ev.bind (Uc _ _ (ht.get (by omega)).2) (Ev.all λ n=>?_))))
  by_cases e:t.Rules.getD k default=t.Rules.getD i default
  ·rw [if_pos (decide_eq_true e),if_pos e]
  ·rw [if_neg (by simpa using e),if_neg e,D0 (by have:=ht.1;omega)]
 ·unfold Fj
  rw [if_neg (by simp)]
theorem Vo {t:Aa} (ht:Gr t) {i:Nat} (hi:i<t.Rules.length):Ev (λ n=>whl (λ (x:Int)=>Df n t (i:Int) (t.Rules.getD i default) (t.Rules.take i) x) n 0) (Uf t i):=by
 refine FX i _ (λ k hk=>?_) (Ev.all λ n=>?_)
 ·unfold Df
  have hk':k<(t.Rules.take i).length:=by rw [List.length_take];omega
  have hg:(t.Rules.take i).getD k default=t.Rules.getD k default:=by rw [Cb hk',Cb (by omega),List.getElem_take]
  refine Ev.iteT (QA hk') (Ev.bindC (Hi hk') ?_)
  rw [hg]
  refine Ev.bind (Jaq _ _ (ht.get (by omega)).2) (Ev.all λ n=>?_)
  by_cases e:t.Rules.getD k default=t.Rules.getD i default
  ·rw [if_pos (decide_eq_true e),if_pos e]
  ·rw [if_neg (by simpa using e),if_neg e,D0 (by have:=ht.1;omega)]
 ·unfold Df
  rw [if_neg (by simp;omega)]
theorem Xa {t:Aa} (ht:Gr t):Ev (λ n=>whl (λ (x:Int)=>Fk n t x) n 0) (scan t.Rules.length (IK t)):=by
 refine FX _ _ (λ i hi=>?_) (Ev.all λ n=>?_)
 ·unfold Fk
  refine Ev.iteT (QA hi) (Ev.bindC (Hi hi) (Ev.bind (Jao (ht.get hi).1 (ht.get hi).2 t.Modes) ?_))
  unfold IK
  cases Cy (t.Rules.getD i default) t.Modes with
  | false=>exact Ev.iteT rfl Ev.const
  | true=>
   refine Ev.iteF rfl (Ev.bind (W9 ht hi) ?_)
   cases Uf t i with
   | inl u=>refine Ev.all λ n=>?_;simp [D0 (show i<9223372036854775807 by have:=ht.1;omega)]
   | inr p=>exact Ev.const
 ·unfold Fk
  rw [if_neg (by simp)]
theorem Vp {t:Aa} (ht:Gr t):Ev (λ n=>whl (λ (x:Int)=>Dg n t x) n 0) (scan t.Rules.length (IK t)):=by
 refine FX _ _ (λ i hi=>?_) (Ev.all λ n=>?_)
 ·unfold Dg
  refine Ev.iteT (QA hi) (Ev.bindC (Hi hi) (Ev.bind (W8 (ht.get hi).1 (ht.get hi).2 t.Modes) ?_))
  unfold IK
  cases Cy (t.Rules.getD i default) t.Modes with
  | false=>exact Ev.iteT rfl Ev.const
  | true=>
   refine Ev.iteF rfl (Ev.bindC (GL (by omega)) (Ev.bind (Vo ht hi) ?_))
   cases Uf t i with
   | inl u=>refine Ev.all λ n=>?_;simp [D0 (show i<9223372036854775807 by have:=ht.1;omega)]
   | inr p=>exact Ev.const
 ·unfold Dg
  rw [if_neg (by simp)]
theorem Jat {t:Aa} (ht:Gr t):Ev (λ n=>KZ n t) (Nb t):=by
 unfold KZ Nb
 refine Ev.bindC (y:=()) ?_ ?_
 ·split
  ·rename_i h
   simp only [Bool.not_eq_true',Bool.or_eq_false_iff,decide_eq_false_iff_not] at h
   exact II (by simp;omega)
  ·rfl
 ·show Ev (λ n=>if Vn t=true then _ else _) _
  cases Vn t with
  | true=>exact Ev.iteT rfl Ev.const
  | false=>
   refine Ev.iteF rfl (Ev.bind (Xa ht) ?_)
   generalize scan t.Rules.length _=z
   cases z<;>exact Ev.const
theorem Xb {t:Aa} (ht:Gr t):Ev (λ n=>GV n t) (Nb t):=by
 unfold GV Nb Vn
 cases h1:((decide (t.Modes<1))||(decide (t.Modes>8))) with
 | true=>exact Ev.iteT rfl (by simp only [Bool.true_or,if_true];exact Ev.const)
 | false=>
  refine Ev.iteF rfl (Ev.bindC (y:=()) ?_ ?_)
  ·split
   ·simp only [Bool.or_eq_false_iff,decide_eq_false_iff_not] at h1
    exact II (by simp;omega)
   ·rfl
  ·simp only [Bool.false_or]
   cases h2:((t.Accept==0)||(decide (IntKind.i64.wrap t.Accept>=Pf .i64 1 t.Modes))) with
   | true=>exact Ev.iteT rfl (by simp only [Bool.true_or,if_true];exact Ev.const)
   | false=>
    refine Ev.iteF rfl ?_
    simp only [Bool.false_or]
    cases h3:((decide (((t.Rules.length:Nat):Int)<1))||(decide (((t.Rules.length:Nat):Int)>64))) with
    | true=>exact Ev.iteT rfl (by simp only [if_true];exact Ev.const)
    | false=>
     refine Ev.iteF rfl (Ev.bind (Vp ht) ?_)
     simp only [JgY,if_false]
     generalize scan t.Rules.length _=z
     cases z<;>exact Ev.const
def FN (t:Aa):Bool:=!Vn t&&t.Rules.all (λ r=>Cy r t.Modes)&&decide t.Rules.Nodup
theorem MC (t:Aa):((Nb t).2==0)=FN t:=by
 unfold Nb FN
 cases Vn t with
 | true=>rfl
 | false=>
  simp only [JgY,if_false,Bool.not_false,Bool.true_and]
  have h20:∀ i p,IK t i=some p->p.2=20:=by
   intro i p h
   unfold IK at h
   split at h
   ·split at h
    ·cases h
    ·rename_i q hq
     cases h
     unfold Uf scan at hq
     split at hq
     ·rename_i r hr
      cases hq
      obtain ⟨k,_,hk⟩:=List.exists_of_findSome?_eq_some hr
      split at hk
      ·cases hk;rfl
      ·cases hk
     ·cases hq
   ·cases h;rfl
  have hiff:(∀ i,i<t.Rules.length->IK t i=none)↔(t.Rules.all (λ r=>Cy r t.Modes)&&decide t.Rules.Nodup)=true:=by
   simp only [JgO,List.all_eq_true,decide_eq_true_eq]
   constructor
   ·intro h
    have hs:∀ i,i<t.Rules.length->Cy (t.Rules.getD i default) t.Modes=true:=by
     intro i hi
     have:=h i hi
     unfold IK at this
     split at this
     ·assumption
     ·cases this
    refine ⟨λ r hr=>?_,?_⟩
    ·obtain ⟨i,hi,e⟩:=List.getElem_of_mem hr
     have:=hs i hi
     rwa [Cb hi,e] at this
    ·rw [List.Nodup,List.pairwise_iff_getElem]
     intro k i hk hi hlt e
     have h0:=h i hi
     unfold IK at h0
     rw [if_pos (hs i hi)] at h0
     obtain ⟨_,r,_,_,hsc⟩:=GY (N:=i) (stop:=λ k=>if t.Rules.getD k default=t.Rules.getD i default then some ((i:Int),(20:Int)) else none) hlt (by rw [Cb hk,Cb hi,if_pos e];rfl)
     unfold Uf at h0
     rw [hsc] at h0
     cases h0
   ·rintro ⟨h1,h2⟩ i hi
    unfold IK
    rw [if_pos (by rw [Cb hi];exact h1 _ (List.getElem_mem hi))]
    have:Uf t i=.inl ():=GX λ k hk=>by
     rw [Cb (show k<t.Rules.length by omega),Cb hi,if_neg]
     rw [List.Nodup,List.pairwise_iff_getElem] at h2
     exact h2 k i (by omega) hi hk
    rw [this]
  cases hv:(t.Rules.all (λ r=>Cy r t.Modes)&&decide t.Rules.Nodup) with
  | true=>rw [GX (hiff.2 hv)];rfl
  | false=>
   have:¬∀ i,i<t.Rules.length->IK t i=none:=λ h=>by rw [hiff.1 h] at hv;cases hv
   have:∃ i,i<t.Rules.length/\IK t i≠none:=Classical.byContradiction λ hn=>this λ i hi=>Classical.byContradiction λ hc=>hn ⟨i,hi,hc⟩
   obtain ⟨i,hi,hne⟩:=this
   obtain ⟨k,r,_,hr,hs⟩:=GY hi (Option.isSome_iff_ne_none.2 hne)
   rw [hs]
   show (r.2==0)=false
   rw [h20 k r hr];rfl
theorem Jau {t:Aa} (ht:Gr t):Ev (λ n=>MY n t) (FN t):=by
 rw [← MC]
 exact Ev.bind (Jat ht) Ev.const
theorem Rh {t:Aa} (ht:Gr t):Ev (λ n=>FL n t) (FN t):=by
 rw [← MC]
 exact Ev.bind (Xb ht) Ev.const
theorem Vq {t:Aa} {l:List Ap} (h:FN t=true) (hl:l.Sublist t.Rules) (h1:1<=l.length):FN ⟨t.Modes,t.Accept,l⟩=true:=by
 unfold FN Vn at h ⊢
 simp only [JgO,Bool.not_eq_true',Bool.or_eq_false_iff,decide_eq_false_iff_not,List.all_eq_true,decide_eq_true_eq] at h ⊢
 have hle:=hl.length_le
 exact ⟨⟨⟨⟨h.1.1.1.1,by omega⟩,by omega⟩,λ r hr=>h.1.2 r (hl.subset hr)⟩,hl.nodup h.2⟩
theorem MD {t:Aa} (h:FN t=true):∀ r∈t.Rules,Cy r t.Modes=true:=by
 unfold FN at h
 simp only [JgO,List.all_eq_true] at h
 exact h.1.2
end Go.AI
end
section
namespace Go.AI
def ME (r:Int):Aa:=(Is 0 r).getD default
theorem MF (n:Nat) (k:Int) (h0:0<=k):Is n k=some (ME (CK k 8))/\0<=CK k 8/\CK k 8<8:=by
 have e:CK k 8=k % 8:=by unfold CK;rw [Int.tmod_eq_emod_of_nonneg h0]
 have hr:CK k 8=0\/CK k 8=1\/CK k 8=2\/CK k 8=3\/CK k 8=4\/CK k 8=5\/CK k 8=6\/CK k 8=7:=by rw [e];omega
 rcases hr with h|h|h|h|h|h|h|h
 all_goals
  refine ⟨?_,by omega,by omega⟩
  unfold Is
  rw [h]
  rfl
def Sy (r:Ap):Bool:=decide (0<=r.To)&&decide (r.To<2)&&decide (0<=r.Right)&&decide (r.Right<=63)&&decide (r.Print.length<=3)
theorem Vr {r:Ap} (h:Sy r=true):LQ r:=by
 simp only [Sy,JgO,decide_eq_true_eq] at h
 obtain ⟨⟨⟨⟨h1,h2⟩,h3⟩,h4⟩,h5⟩:=h
 exact ⟨h1,h2,h3,h4,h5⟩
def Sz (t:Aa):Bool:=decide (t.Rules.length<=8)&&t.Rules.all Sy&&decide (1<=t.Modes)&&decide (t.Modes<=2)&&FN t
theorem JbO {r:Int} (h:0<=r) (h':r<8):Sz (ME r)=true:=by
 have:∀ k:Nat,k<8->Sz (ME (k:Int))=true:=by decide +kernel
 have e:=this r.toNat (by omega)
 rwa [Int.toNat_of_nonneg h] at e
def U8 (n:Int):Prop:=0<=n/\n<256
def VY (x:C8):Prop:=(∀ a∈x.P,U8 a)/\(∀ a∈x.C,U8 a)/\U8 x.L/\U8 x.R/\U8 x.W.a0/\U8 x.W.a1
theorem D2 {a m:Int} (h:0<=a) (hm:0<m):0<=CK a m/\CK a m<m:=(WY h hm).2
theorem LR {α:Type} {l:List α} {i:Int} (h:0<=i) (h':i<l.length):∃ x,x∈l/\idx l i=some x:=by
 have hl:i.toNat<l.length:=by omega
 refine ⟨l[i.toNat],List.getElem_mem hl,?_⟩
 unfold idx
 rw [if_pos h]
 exact JgN hl
theorem JbP {α:Type} {l:List α} {i:Int} (h:0<=i) (h':i<l.length):∃ z,z.length=1/\sub l i (i+1)=some z:=by
 refine ⟨(l.take (i+1).toNat).drop i.toNat,?_,?_⟩
 ·simp;omega
 ·unfold sub
  rw [if_pos (by omega)]
def VZ (a b:Ap):Prop:=a.Left=b.Left/\a.Right=b.Right/\a.From=b.From/\a.To=b.To
theorem Jav (x:C8) (hx:∀ a∈x.P,U8 a) (r0:Ap) (h0:r0.Print=[]):Tot (λ n=>whl (λ (y:(Ap×Int))=>E0 n x y.1 y.2) n (r0,0)) (λ r=>r.Print.length<=3/\VZ r r0):=by
 refine Tot.upto (body:=λ n y=>E0 n x y.1 y.2) (min x.P.length 3) (λ i y=>y.2=(i:Int)/\y.1.Print.length=i/\VZ y.1 r0) ?_ ?_ (r0,0) ⟨rfl,by simp [h0],rfl,rfl,rfl,rfl⟩
 ·rintro i ⟨r,i'⟩ hi ⟨h1,h2,h3⟩
  simp only at h1 h2 h3
  subst h1
  obtain ⟨c,hcm,hci⟩:=LR (l:=x.P) (i:=(i:Int)) (by omega) (by omega)
  have hu:=hx c hcm
  have hr:=D2 (m:=9) hu.1 (by omega)
  have hw:IntKind.i64.wrap (CK c 9)=CK c 9:=KO (by omega) (by omega)
  obtain ⟨z,hz1,hz⟩:=JbP (l:=([97,98,99,65,66,49,50,45,46]:List UInt8)) (i:=CK c 9) hr.1 (by simpa using hr.2)
  unfold E0
  refine Tot.iteT (by simp only [JgO,decide_eq_true_eq];omega) (Tot.bindC hci ?_)
  simp only [hw]
  rw [Jcn (by omega) (by omega)]
  refine Tot.bindC hz (Tot.bindC (Je6 (by omega)) (Tot.pure ⟨D0 (by omega),by simp [h2,hz1],h3⟩))
 ·rintro ⟨r,i'⟩ ⟨h1,h2,h3⟩
  simp only at h1 h2 h3
  subst h1
  unfold E0
  exact Tot.iteF (by rw [← Bool.not_eq_true];simp only [JgO,decide_eq_true_eq];omega) (Tot.pure ⟨by show r.Print.length<=3;omega,h3⟩)
theorem Jaw (x:C8) (hx:∀ a∈x.C,U8 a) (r0:Ap) (h0:r0.Cells.length=1):Tot (λ n=>whl (λ (y:(Ap×Int))=>E1 n x y.1 y.2) n (r0,0)) (λ r=>(r.Cells.length<=3/\1<=r.Cells.length)/\r.Print=r0.Print/\VZ r r0):=by
 refine Tot.upto (body:=λ n y=>E1 n x y.1 y.2) (min x.C.length 2) (λ i y=>y.2=(i:Int)/\y.1.Cells.length=i+1/\y.1.Print=r0.Print/\VZ y.1 r0) ?_ ?_ (r0,0) ⟨rfl,by simp [h0],rfl,rfl,rfl,rfl,rfl⟩
 ·rintro i ⟨r,i'⟩ hi ⟨h1,h2,h3,h4⟩
  simp only at h1 h2 h3 h4
  subst h1
  obtain ⟨c,hcm,hci⟩:=LR (l:=x.C) (i:=(i:Int)) (by omega) (by omega)
  have hu:=hx c hcm
  have hr:=D2 (m:=8) hu.1 (by omega)
  obtain ⟨z,_,hz⟩:=LR (l:=([1,3,9,5,7,32,44,60]:List Int)) (i:=CK c 8) hr.1 (by simpa using hr.2)
  unfold E1
  refine Tot.iteT (by simp only [JgO,decide_eq_true_eq];omega) (Tot.bindC hci (Tot.bindC hz (Tot.bindC (PZ (by simp;omega)) (Tot.pure ⟨D0 (by omega),by simp [h2],h3,h4⟩))))
 ·rintro ⟨r,i'⟩ ⟨h1,h2,h3,h4⟩
  simp only at h1 h2 h3 h4
  subst h1
  unfold E1
  exact Tot.iteF (by rw [← Bool.not_eq_true];simp only [JgO,decide_eq_true_eq];omega) (Tot.pure ⟨by show r.Cells.length<=3/\1<=r.Cells.length;omega,h3,h4⟩)
theorem JbQ {x:C8} (hx:VY x) {m:Int} (hm:1<=m) (hm':m<=2):Tot (λ n=>Mp n x m) (λ r=>LQ r/\(r.Cells.length<=3/\1<=r.Cells.length)/\0<=r.From/\r.From<m/\0<=r.To/\r.To<m):=by
 obtain ⟨hP,hC,hL,hR,hW0,hW1⟩:=hx
 have l8:=D2 (m:=8) hL.1 (by omega)
 have r8:=D2 (m:=8) hR.1 (by omega)
 obtain ⟨a,ham,ha⟩:=LR (l:=([63,63,2,8,17,62,4,1]:List Int)) (i:=CK x.L 8) l8.1 (by simpa using l8.2)
 obtain ⟨b,hbm,hb⟩:=LR (l:=([63,63,2,8,17,62,4,1]:List Int)) (i:=CK x.R 8) r8.1 (by simpa using r8.2)
 have hq:0<=Jbe .u8 x.L 8:=by unfold Jbe;exact (T3 _).1
 have q8:=D2 (m:=8) hq (by omega)
 obtain ⟨c,_,hc⟩:=LR (l:=([1,3,9,5,7,32,44,60]:List Int)) (i:=CK (Jbe .u8 x.L 8) 8) q8.1 (by simpa using q8.2)
 have hg:EQ (!(m==0))=some ():=II (by simp;omega)
 have w0:IntKind.i64.wrap x.W.a0=x.W.a0:=KO (by have:=hW0.1;omega) (by have:=hW0.2;omega)
 have w1:IntKind.i64.wrap x.W.a1=x.W.a1:=KO (by have:=hW1.1;omega) (by have:=hW1.2;omega)
 have hfr:=D2 (a:=x.W.a0) (m:=m) hW0.1 (by omega)
 have hto:=D2 (a:=x.W.a1) (m:=m) hW1.1 (by omega)
 have hbr:0<=b/\b<=63:=by
  simp at hbm
  omega
 unfold Mp
 refine Tot.bindC ha (Tot.bindC hb (Tot.bindC hg (Tot.bindC hg (Tot.bind (Jav x hP _ rfl) ?_))))
 rintro r1 ⟨p1,p2,p3,p4,p5⟩
 refine Tot.bindC hc (Tot.bind (Jaw x hC _ rfl) ?_)
 rintro r2 ⟨q1,q2,q3,q4,q5,q6⟩
 simp only at q2 q3 q4 q5 q6
 rw [p3] at q4
 rw [p4] at q5
 rw [p5] at q6
 simp only [w0,w1] at q5 q6 q4
 refine Tot.pure ⟨⟨?_,?_,?_,?_,?_⟩,q1,?_,?_,?_,?_⟩
 all_goals first|(rw [q6];omega)|(rw [q4];omega)|(rw [q5];omega)|(rw [q2];exact p1)
def P0 (x:K6):Prop:=0<=x.Base/\∀ r∈x.More,VY r
structure Cq (t:Aa):Prop where
 tab:GE t
 lo:1<=t.Modes
 hi:t.Modes<=2
 valid:FN t=true
theorem Cq.sound {t:Aa} (h:Cq t):∀ r∈t.Rules,Cy r t.Modes=true:=MD h.valid
theorem Jp {r:Ap} {m:Int} (h:Cy r m=true):r.Print.length<=4/\1<=r.Cells.length/\r.Cells.length<=4:=by
 simp only [Cy,JgO,decide_eq_true_eq] at h
 omega
theorem Cq.small {t:Aa} (h:Cq t):Gr t:=⟨by have:=h.tab.1;omega,λ r hr=>by have:=Jp (h.sound r hr);exact ⟨by omega,by omega⟩⟩
theorem Jax (x:K6) (b:Aa) (hb:b.Rules.length<=8):Tot (λ n=>whl (λ (y:(Aa×Int))=>E2 n x b y.1 y.2) n (({ Modes:=b.Modes,Accept:=b.Accept,Rules:=[] }:Aa),0)) (λ t=>t.Modes=b.Modes/\t.Accept=b.Accept/\t.Rules.Sublist b.Rules):=by
 refine Tot.upto (body:=λ n y=>E2 n x b y.1 y.2) b.Rules.length (λ i y=>y.2=(i:Int)/\y.1.Modes=b.Modes/\y.1.Accept=b.Accept/\y.1.Rules.Sublist (b.Rules.take i)) ?_ ?_ _ ⟨rfl,rfl,rfl,by simp⟩
 ·rintro i ⟨t,i'⟩ hi ⟨h1,h2,h3,h4⟩
  simp only at h1 h2 h3 h4
  subst h1
  have ht:b.Rules.take (i+1)=b.Rules.take i++[b.Rules.getD i default]:=by rw [List.take_add_one,Cb hi,JgN hi];rfl
  have hlen:=h4.length_le
  rw [List.length_take] at hlen
  unfold E2
  refine Tot.iteT (QA hi) (Tot.bindC (II (by simp)) (Tot.ite (λ _=>Tot.bindC (Hi hi) (Tot.bindC (PZ (by simp;omega)) ?_)) λ _=>?_))
  ·unfold F8
   exact Tot.pure ⟨D0 (by omega),h2,h3,by rw [ht];exact h4.append (List.Sublist.refl _)⟩
  ·unfold F8
   exact Tot.pure ⟨D0 (by omega),h2,h3,by rw [ht];exact h4.trans (List.sublist_append_left _ _)⟩
 ·rintro ⟨t,i'⟩ ⟨h1,h2,h3,h4⟩
  simp only at h1 h2 h3 h4
  subst h1
  rw [List.take_length] at h4
  unfold E2
  exact Tot.iteF (by simp) (Tot.pure ⟨h2,h3,h4⟩)
structure Je7 (b t:Aa):Prop where
 modes:t.Modes=b.Modes
 accept:t.Accept=b.Accept
 rules:∀ r∈t.Rules,LQ r/\r.Cells.length<=4
 valid:t.Rules=[]\/FN t=true
theorem Xc {t:Aa} (hl:t.Rules.length<=11) (h:∀ r∈t.Rules,LQ r/\r.Cells.length<=4):Gr t:=⟨by omega,λ r hr=>⟨by have:=(h r hr).1.2.2.2.2;omega,by have:=(h r hr).2;omega⟩⟩
end Go.AI
end
section
namespace Go.AI
def FO (t:Aa) (k:Int):Ap:=t.Rules[k.toNat]?.getD default
def Oc (t:Aa):List Int->List UInt8->List Int->Nat->Ab->Jdj
 | [],tx,cs,a,s=>⟨tx,cs,a,s,AO t s⟩
 | k::p,tx,cs,a,s=>if (Bc t s k).2=true then Oc t p (tx++(FO t k).Print) (cs++(FO t k).Cells) (a+1) (Bc t s k).1 else ⟨tx,cs,a,s,false⟩
theorem IL {t:Aa} {s:Ab} {k:Int} (h:(Bc t s k).2=true):0<=k/\k<t.Rules.length:=by
 unfold Bc at h
 split at h
 ·cases h
 ·rename_i hk
  simp only [Jg5,decide_eq_true_eq,not_or] at hk
  omega
theorem Jay {t:Aa} {k:Int} (h:0<=k) (h':k<t.Rules.length):idx t.Rules k=some (FO t k):=T6 h h'
theorem Do {t:Aa} {k:Int} (h:0<=k) (h':k<t.Rules.length):FO t k∈t.Rules:=by
 unfold FO
 rw [JgN (by omega)]
 exact List.getElem_mem _
theorem Cq.print {t:Aa} (ht:Cq t) {r:Ap} (hr:r∈t.Rules):r.Print.length<=4/\r.Cells.length<=4:=by
 have:=ht.sound r hr
 unfold Cy at this
 simp only [JgO,decide_eq_true_eq] at this
 omega
theorem MG (s:List UInt8):WJ (Bu s)=some s:=by
 have hb:∀ b:UInt8,b.toNat<256:=λ b=>b.toNat_lt
 have h1:(Bu s).all (λ n=>decide (0<=n)&&decide (n<256))=true:=by
  rw [List.all_eq_true]
  intro x hx
  unfold Bu at hx
  obtain ⟨b,_,rfl⟩:=List.mem_map.1 hx
  have:=hb b
  simp;omega
 unfold WJ
 rw [if_pos h1]
 unfold Bu
 rw [List.map_map]
 congr 1
 conv=>rhs;rw [← List.map_id s]
 refine List.map_congr_left λ b _=>?_
 simp
theorem Hk (a b:List UInt8):Bu (a++b)=Bu a++Bu b:=by simp [Bu]
theorem D3 (a:List UInt8):(Bu a).length=a.length:=by simp [Bu]
theorem P1 {α:Type} {l:List α} {i:Nat} (h:i<l.length):l.drop i=l[i]::l.drop (i+1):=List.drop_eq_getElem_cons h
structure SA (t:Aa) (p:List Int) (i:Nat) (tx:List UInt8) (cs:List Int) (s:Ab):Prop where
 eq:Oc t p [] [] 0 C3=Oc t (p.drop i) tx cs i s
 tl:tx.length<=4*i
 cl:cs.length<=4*i
theorem SA.start (t:Aa) (p:List Int):SA t p 0 [] [] C3:=⟨rfl,by simp,by simp⟩
theorem SA.next {t:Aa} (ht:Cq t) {p:List Int} {i:Nat} {tx:List UInt8} {cs:List Int} {s:Ab} (h:SA t p i tx cs s) (hi:i<p.length) (hs:(Bc t s p[i]).2=true):SA t p (i+1) (tx++(FO t p[i]).Print) (cs++(FO t p[i]).Cells) (Bc t s p[i]).1:=by
 have hk:=IL hs
 have:=ht.print (Do hk.1 hk.2)
 refine ⟨?_,?_,?_⟩
 ·rw [h.eq,P1 hi,Oc,if_pos hs]
 ·have:=h.tl;simp only [List.length_append];omega
 ·have:=h.cl;simp only [List.length_append];omega
theorem SA.stop {t:Aa} {p:List Int} {i:Nat} {tx:List UInt8} {cs:List Int} {s:Ab} (h:SA t p i tx cs s) (hi:i<p.length) (hs:(Bc t s p[i]).2=false):Oc t p [] [] 0 C3=⟨tx,cs,i,s,false⟩:=by
 rw [h.eq,P1 hi,Oc,if_neg (by rw [hs];simp)]
theorem SA.last {t:Aa} {p:List Int} {tx:List UInt8} {cs:List Int} {s:Ab} (h:SA t p p.length tx cs s):Oc t p [] [] 0 C3=⟨tx,cs,p.length,s,AO t s⟩:=by
 rw [h.eq,List.drop_length,Oc]
end Go.AI
end
section
namespace Go.AI
theorem SB {st:List Ab} (hn:st.Nodup) {i j:Nat} {s:Ab} (h:st[i]? = some s) (h':st[j]? = some s):i=j:=by
 have a:=Dm hn h
 rw [Dm hn h'] at a
 cases a;rfl
theorem D4 {i:Nat} (h:i<9223372036854775807):BC .i64 (i:Int) 1=((i+1:Nat):Int):=by
 rw [LO (by omega) (by omega)];rfl
end Go.AI
end
section
namespace Go.AI
def Edge (t:Aa) (st:List Ab) (i:Nat) (k:Nat) (j:Nat):Prop:=∃ s s',st[i]? = some s/\k<t.Rules.length/\st[j]? = some s'/\Bc t s (k:Nat)=(s',true)
inductive Fb (t:Aa) (st:List Ab):Nat->Prop
 | acc (i:Nat) (s:Ab) (h:st[i]? = some s) (ha:AO t s=true):Fb t st i
 | step (i k j:Nat) (h:Edge t st i k j) (hj:Fb t st j):Fb t st i
def Ib (t:Aa) (st:List Ab) (l:List Bool):Prop:=l.length=st.length/\∀ i:Nat,l[i]? = some true↔Fb t st i
theorem Fb.lt {t:Aa} {st:List Ab} {i:Nat} (h:Fb t st i):i<st.length:=by
 cases h with
 | acc _ s h ha=>exact Ar h
 | step _ k j h hj=>obtain ⟨s,s',h,_⟩:=h;exact Ar h
theorem Ib.uniq {t:Aa} {st:List Ab} {l m:List Bool} (h:Ib t st l) (h':Ib t st m):l=m:=by
 refine List.ext_getElem? λ i=>?_
 rcases Nat.lt_or_ge i st.length with hi|hi
 ·have h1:i<l.length:=by rw [h.1];exact hi
  have h2:i<m.length:=by rw [h'.1];exact hi
  have e:=(h.2 i).trans (h'.2 i).symm
  rw [JgN h1,JgN h2] at e ⊢
  cases ha:l[i]<;>cases hb:m[i]<;>simp_all
 ·rw [List.getElem?_eq_none_iff.2 (by rw [h.1];exact hi),List.getElem?_eq_none_iff.2 (by rw [h'.1];exact hi)]
theorem Ib.of {t:Aa} {st:List Ab} {l:List Bool} (hl:l.length=st.length) (hs:∀ i,l[i]? = some true->Fb t st i) (ha:∀ (i:Nat) s,st[i]? = some s->AO t s=true->l[i]? = some true) (hc:∀ i k j,Edge t st i k j->l[j]? = some true->l[i]? = some true):Ib t st l:=by
 refine ⟨hl,λ i=>⟨hs i,λ h=>?_⟩⟩
 induction h with
 | acc i s h h'=>exact ha i s h h'
 | step i k j h _ ih=>exact hc i k j h ih
def IM (l:List Bool):Nat:=l.count false
theorem Jaz {l:List Bool} {i:Nat} (h:l[i]? = some false):IM (l.set i true)+1=IM l:=by
 have hi:=Ar h
 rw [JgN hi] at h
 have h':l[i]=false:=by simpa using h
 have hp:0<List.count false l:=List.count_pos_iff.2 (h'▸List.getElem_mem hi)
 unfold IM
 rw [List.count_set hi,h']
 simp
 omega
theorem JbR (l:List Bool):IM l<=l.length:=List.count_le_length
structure JaA (t:Aa) (st:List Ab) (out0 out:List Bool) (g:Bool) (i m:Nat):Prop where
 len:out.length=st.length
 snd:∀ j:Nat,out[j]? = some true->Fb t st j
 acc:∀ (j:Nat) s,st[j]? = some s->AO t s=true->out[j]? = some true
 same:g=false->out=out0
 less:g=true->IM out<IM out0
 cl:g=false->∀ i' k j,(i'<i\/(i'=i/\k<m))->Edge t st i' k j->out[j]? = some true->out[i']? = some true
theorem JaA.stop {t:Aa} {st:List Ab} {out0 out:List Bool} {g:Bool} {i m:Nat} (h:JaA t st out0 out g i m) (hm:t.Rules.length<=m\/out[i]? = some true):JaA t st out0 out g (i+1) 0:=by
 refine ⟨h.len,h.snd,h.acc,h.same,h.less,λ hg i' k j hi he hj=>?_⟩
 rcases Nat.lt_or_ge i' i with hlt|hge
 ·exact h.cl hg i' k j (.inl hlt) he hj
 ·have:i'=i:=by omega
  subst this
  rcases hm with hm|hm
  ·obtain ⟨s,s',_,hk,_⟩:=id he
   exact h.cl hg i' k j (.inr ⟨rfl,by omega⟩) he hj
  ·exact hm
end Go.AI
end
section
namespace Go.AI
def V0 (t:Aa) (st:List Ab) (near:List Bool) (out:List Int) (D:Nat):Prop:=
 ∃ rk:Nat->Nat,∀ j:Nat,near[j]? = some true->rk j<=D/\((∃ s,st[j]? = some s/\AO t s=true)\/∃ k j':Nat,out[j]? = some (k:Int)/\Edge t st j k j'/\near[j']? = some true/\rk j'<rk j)
structure Ug (t:Aa) (st:List Ab) (near ring:List Bool) (out:List Int) (D:Nat) (g:Bool) (i m:Nat):Prop where
 len:ring.length=st.length
 oln:out.length=st.length
 sub:∀ j:Nat,near[j]? = some true->ring[j]? = some true
 new:∀ j:Nat,ring[j]? = some true->near[j]? = some true\/∃ k j':Nat,out[j]? = some (k:Int)/\Edge t st j k j'/\near[j']? = some true
 hom:V0 t st near out D
 same:g=false->ring=near
 less:g=true->IM ring<IM near
 cl:g=false->∀ i' k j,(i'<i\/(i'=i/\k<m))->Edge t st i' k j->near[j]? = some true->ring[i']? = some true
theorem Ug.stop {t:Aa} {st:List Ab} {near ring:List Bool} {out:List Int} {D:Nat} {g:Bool} {i m:Nat} (h:Ug t st near ring out D g i m) (hm:t.Rules.length<=m\/ring[i]? = some true):Ug t st near ring out D g (i+1) 0:=by
 refine ⟨h.len,h.oln,h.sub,h.new,h.hom,h.same,h.less,λ hg i' k j hi he hj=>?_⟩
 rcases Nat.lt_or_ge i' i with hlt|hge
 ·exact h.cl hg i' k j (.inl hlt) he hj
 ·have:i'=i:=by omega
  subst this
  rcases hm with hm|hm
  ·obtain ⟨s,s',_,hk,_⟩:=id he
   exact h.cl hg i' k j (.inr ⟨rfl,by omega⟩) he hj
  ·exact hm
theorem V0.live {t:Aa} {st:List Ab} {near:List Bool} {out:List Int} {D:Nat} (h:V0 t st near out D):∀ j,near[j]? = some true->Fb t st j:=by
 obtain ⟨rk,h⟩:=h
 have:∀ d j,rk j<d->near[j]? = some true->Fb t st j:=by
  intro d
  induction d with
  | zero=>intro j hj;omega
  | succ d ih=>
   intro j hj hn
   obtain ⟨_,⟨s,h1,h2⟩|⟨k,j',_,he,hj',hlt⟩⟩:=h j hn
   ·exact .acc j s h1 h2
   ·exact .step j k j' he (ih j' (by omega) hj')
 intro j
 exact this (rk j+1) j (by omega)
theorem Ug.ring {t:Aa} {st:List Ab} {near ring:List Bool} {out:List Int} {D:Nat} {g:Bool} {i m:Nat} (h:Ug t st near ring out D g i m):V0 t st ring out (D+1):=by
 obtain ⟨rk,hrk⟩:=h.hom
 refine ⟨λ j=>if near[j]? = some true then rk j else D+1,λ j hj=>?_⟩
 by_cases hn:near[j]? = some true
 ·simp only [hn,if_true]
  obtain ⟨h1,h2⟩:=hrk j hn
  refine ⟨by omega,h2.imp id ?_⟩
  rintro ⟨k,j',a,b,c,d⟩
  exact ⟨k,j',a,b,h.sub j' c,by rw [if_pos c];exact d⟩
 ·simp only [if_neg hn]
  refine ⟨by omega,?_⟩
  rcases h.new j hj with hh|⟨k,j',a,b,c⟩
  ·exact absurd hh hn
  ·exact .inr ⟨k,j',a,b,h.sub j' c,by rw [if_pos c];have:=(hrk j' c).1;omega⟩
end Go.AI
end
section
namespace Go.AI
def Eu (t:Aa) (s:Ab):List Int->Ab->Prop
 | [],s'=>s=s'
 | k::p,s'=>(Bc t s k).2=true/\Eu t (Bc t s k).1 p s'
theorem Eu.snoc {t:Aa}:∀ {p:List Int} {s s':Ab} {k:Int},Eu t s p s'->(Bc t s' k).2=true->Eu t s (p++[k]) (Bc t s' k).1
 | [],s,s',k,h,h'=>by
  unfold Eu at h
  subst h
  exact ⟨h',rfl⟩
 | a::p,s,s',k,h,h'=>⟨h.1,Eu.snoc h.2 h'⟩
theorem Eu.mem {t:Aa}:∀ {p:List Int} {s s':Ab},Eu t s p s'->∀ k∈p,0<=k/\k<t.Rules.length
 | [],_,_,_,k,hk=>by cases hk
 | a::p,s,s',h,k,hk=>by
  rcases List.mem_cons.1 hk with rfl|hk
  ·exact IL h.1
  ·exact Eu.mem h.2 k hk
def JaB (t:Aa) (p:List Int):Prop:=p.length<=1000/\∃ s,Eu t C3 p s/\AO t s=true
def Ic (t:Aa) (p:List Int):List UInt8:=p.flatMap λ k=>(FO t k).Print
def cellsOf (t:Aa) (p:List Int):List Int:=p.flatMap λ k=>(FO t k).Cells
theorem Ri {t:Aa}:∀ {p:List Int} {s s':Ab} (tx:List UInt8) (cs:List Int) (a:Nat),Eu t s p s'->Oc t p tx cs a s=⟨tx++Ic t p,cs++cellsOf t p,(a+p.length:Nat),s',AO t s'⟩
 | [],s,s',tx,cs,a,h=>by
  unfold Eu at h
  subst h
  simp [Oc,Ic,cellsOf]
 | k::p,s,s',tx,cs,a,h=>by
  unfold Oc
  rw [if_pos h.1,Ri _ _ _ h.2]
  simp only [Ic,cellsOf,List.flatMap_cons,List.append_assoc,List.length_cons]
  congr 1
  omega
theorem JaB.run {t:Aa} {p:List Int} (h:JaB t p):∃ s,Eu t C3 p s/\AO t s=true/\Oc t p [] [] 0 C3=⟨Ic t p,cellsOf t p,(p.length:Nat),s,true⟩:=by
 obtain ⟨_,s,h1,h2⟩:=h
 refine ⟨s,h1,h2,?_⟩
 rw [Ri [] [] 0 h1,h2]
 simp
end Go.AI
end
