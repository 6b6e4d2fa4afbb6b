/- Part 5 of 6 of the proof: lemmas about the model and the program's functions, with no condition beyond those that each states. -/
import Derived.Test.YtjaogfjfamffnaaGreatLD
import Derived.ChangeArms
import Derived.WalkKit
import Derived.ProofKit
import Derived.OpenShut
import Derived.Carry
import Derived.WideKeyArgs
import Derived.ChangeSame
section
namespace Go.AI
open Go.Proofs
set_option maxRecDepth 10000
variable {n:Nat}
section
variable (p0_:Ad) (p1_:AX) (p2_:B6) (s6:(List UInt8)) (r28:AM) (r30:((List (Nat×Nat))×(List Int)×(List Int))) (result_1:(List Int)) (x_37:(List Int)) (i_3:Int) (result_2:(List Int)) (x_38:(List Int)) (result_3:(List Int)) (x_39:(List Int)) (count_1:Int) (i_4:Int) (result_4:(List Int)) (x_40:(List Int)) (count_2:Int) (rest_1:Int) (shift_7:Int) (result_5:(List Int)) (x_41:(List Int)) (y40:((List Int)×(List Int)×Int×Int×Int)) (result_6:(List Int)) (x_42:(List Int)) (x_43:Int) (result_7:(List Int)) (x_44:(List Int)) (result_8:(List Int)) (x_45:(List Int))
def Jho:St:=⟨(0,.agg [.d (.int .i64 p0_.Modes),.d (.int .u8 p0_.Accept),.d (.sl (p0_.Rules.map An))])::(1,.agg [.d (.str p1_.Text),.d (.sl (p1_.Costs.map (eL Ae))),.d (.sl (p1_.Least.map Ae))])::(2,.agg [.d (.int .i64 p2_.At),.d (.int .i64 p2_.Cut),.d (.str p2_.Put)])::[],[]⟩
def Jhp:St:=⟨(4,.ptr 0 0)::(5,.ptr 1 0)::(6,.ptr 2 0)::(10,.d (.str s6))::(13,.ptr 3 0)::(14,.ptr 4 0)::(15,.d (.int .i64 (AE .i64 p2_.At ((p2_.Put.length:Nat):Int))))::(16,.d (.int .i64 i_3))::[],[some (.box (CQ p1_)),some (.box (EC p2_)),some (.box [.d (.str []),.osl 5 1 0 (List.length ([]:List (List Int))),.osl 6 1 0 (List.length ([]:List Int))]),some (.box [.d (.sl (r28.Arcs.map (eL Ay))),.d (.sl (r28.Accepts.map eB))]),some (.box [.d (.str s6),.osl 7 1 0 (r30.1.length),.osl 8 1 0 (result_1.length)]),some (.arr 1 (List.map (eL Ae) ([]:List (List Int)))),some (.arr 1 (List.map Ae ([]:List Int))),some (.cut 9 1 r30.1),some (.arr 1 (result_1.map Ae)),some (.arr 1 (x_37.map Ae))]⟩
def Jhq:St:=⟨(4,.ptr 0 0)::(5,.ptr 1 0)::(6,.ptr 2 0)::(13,.ptr 3 0)::(14,.ptr 4 0)::(15,.d (.int .i64 (AE .i64 p2_.At ((p2_.Put.length:Nat):Int))))::[],[some (.box (CQ p1_)),some (.box (EC p2_)),some (.box [.d (.str []),.osl 5 1 0 (List.length ([]:List (List Int))),.osl 6 1 0 (List.length ([]:List Int))]),some (.box [.d (.sl (r28.Arcs.map (eL Ay))),.d (.sl (r28.Accepts.map eB))]),some (.box [.d (.str s6),.osl 7 1 0 (r30.1.length),.osl 8 1 0 (result_2.length)]),some (.arr 1 (List.map (eL Ae) ([]:List (List Int)))),some (.arr 1 (List.map Ae ([]:List Int))),some (.cut 9 1 r30.1),some (.arr 1 (result_2.map Ae)),some (.arr 1 (x_38.map Ae))]⟩
def QS:((List Int)×(List Int))->Ex->St->Prop:=xX 0 0 (λ (y:((List Int)×(List Int)))=>Jhq p1_ p2_ s6 r28 r30 y.1 y.2)
def K4:((List Int)×(List Int)×Int)->St:=(λ (x:((List Int)×(List Int)×Int))=>Jhp p1_ p2_ s6 r28 r30 x.1 x.2.1 x.2.2)
def Jhr:St:=⟨(4,.ptr 0 0)::(5,.ptr 1 0)::(6,.ptr 2 0)::(14,.ptr 3 0)::(18,.clo 53 [.ptr 4 0,.ptr 5 0])::(19,.d (.int .i64 count_1))::(20,.d (.int .i64 0))::(21,.d (.int .i64 0))::(22,.d (.int .i64 i_4))::[],[some (.box (CQ p1_)),some (.box (EC p2_)),some (.box [.d (.str []),.osl 6 1 0 (List.length ([]:List (List Int))),.osl 7 1 0 (List.length ([]:List Int))]),some (.box [.d (.str s6),.osl 8 1 0 (r30.1.length),.osl 9 1 0 (result_3.length)]),some (.box [.d (.str s6),.osl 8 1 0 (r30.1.length),.osl 9 1 0 (result_3.length)]),some (.box [.ptr 10 0]),some (.arr 1 (List.map (eL Ae) ([]:List (List Int)))),some (.arr 1 (List.map Ae ([]:List Int))),some (.cut 11 1 r30.1),some (.arr 1 (result_3.map Ae)),some (.box [.d (.sl (r28.Arcs.map (eL Ay))),.d (.sl (r28.Accepts.map eB))]),some (.arr 1 (x_39.map Ae))]⟩
def Jhs:St:=⟨(4,.ptr 0 0)::(6,.ptr 1 0)::(14,.ptr 2 0)::(19,.d (.int .i64 count_2))::(20,.d (.int .i64 rest_1))::(21,.d (.int .i64 shift_7))::[],[some (.box (CQ p1_)),some (.box [.d (.str []),.osl 3 1 0 (List.length ([]:List (List Int))),.osl 4 1 0 (List.length ([]:List Int))]),some (.box [.d (.str s6),.osl 5 1 0 (r30.1.length),.osl 6 1 0 (result_4.length)]),some (.arr 1 (List.map (eL Ae) ([]:List (List Int)))),some (.arr 1 (List.map Ae ([]:List Int))),some (.cut 7 1 r30.1),some (.arr 1 (result_4.map Ae)),some (.arr 1 (x_40.map Ae))]⟩
def Jht:St:=⟨(4,.ptr 0 0)::(5,.ptr 1 0)::(6,.ptr 2 0)::(14,.ptr 3 0)::(18,.clo 53 [.ptr 4 0,.ptr 5 0])::(19,.d (.int .i64 (AE .i64 count_1 1)))::(20,.d (.int .i64 0))::(21,.d (.int .i64 0))::(22,.d (.int .i64 i_4))::[],[some (.box (CQ p1_)),some (.box (EC p2_)),some (.box [.d (.str []),.osl 6 1 0 (List.length ([]:List (List Int))),.osl 7 1 0 (List.length ([]:List Int))]),some (.box [.d (.str s6),.osl 8 1 0 (r30.1.length),.osl 9 1 0 (result_5.length)]),some (.box [.d (.str s6),.osl 8 1 0 (r30.1.length),.osl 9 1 0 (result_5.length)]),some (.box [.ptr 10 0]),some (.arr 1 (List.map (eL Ae) ([]:List (List Int)))),some (.arr 1 (List.map Ae ([]:List Int))),some (.cut 11 1 r30.1),some (.arr 1 (result_5.map Ae)),some (.box [.d (.sl (r28.Arcs.map (eL Ay))),.d (.sl (r28.Accepts.map eB))]),some (.arr 1 (x_41.map Ae))]⟩
def QT:((List Int)×(List Int)×Int×Int×Int)->Ex->St->Prop:=xX 0 2 (λ (y:((List Int)×(List Int)×Int×Int×Int))=>Jhs p1_ s6 r30 y.1 y.2.1 y.2.2.1 y.2.2.2.1 y.2.2.2.2)
def K5:((List Int)×(List Int)×Int×Int)->St:=(λ (x:((List Int)×(List Int)×Int×Int))=>Jhr p1_ p2_ s6 r28 r30 x.1 x.2.1 x.2.2.1 x.2.2.2)
def Jhu:St:=⟨(4,.ptr 0 0)::(6,.ptr 1 0)::(14,.ptr 2 0)::(19,.d (.int .i64 y40.2.2.1))::(21,.d (.int .i64 y40.2.2.2.2))::(163,.d (.int .i64 y40.2.2.2.1))::(164,.d (.int .i64 x_43))::[],[some (.box (CQ p1_)),some (.box [.d (.str []),.osl 3 1 0 (List.length ([]:List (List Int))),.osl 4 1 0 (List.length ([]:List Int))]),some (.box [.d (.str s6),.osl 5 1 0 (r30.1.length),.osl 6 1 0 (result_6.length)]),some (.arr 1 (List.map (eL Ae) ([]:List (List Int)))),some (.arr 1 (List.map Ae ([]:List Int))),some (.cut 7 1 r30.1),some (.arr 1 (result_6.map Ae)),some (.arr 1 (x_42.map Ae))]⟩
def Jhv:St:=⟨(6,.ptr 0 0)::(14,.ptr 1 0)::(19,.d (.int .i64 y40.2.2.1))::[],[some (.box [.d (.str []),.osl 2 1 0 (List.length ([]:List (List Int))),.osl 3 1 0 (List.length ([]:List Int))]),some (.box [.d (.str s6),.osl 4 1 0 (r30.1.length),.osl 5 1 0 (result_7.length)]),some (.arr 1 (List.map (eL Ae) ([]:List (List Int)))),some (.arr 1 (List.map Ae ([]:List Int))),some (.cut 6 1 r30.1),some (.arr 1 (result_7.map Ae)),some (.arr 1 (x_44.map Ae))]⟩
def Jhw:St:=⟨(4,.ptr 0 0)::(6,.ptr 1 0)::(14,.ptr 2 0)::(19,.d (.int .i64 y40.2.2.1))::(21,.d (.int .i64 y40.2.2.2.2))::(163,.d (.int .i64 y40.2.2.2.1))::(164,.d (.int .i64 x_43))::[],[some (.box (CQ p1_)),some (.box [.d (.str []),.osl 3 1 0 (List.length ([]:List (List Int))),.osl 4 1 0 (List.length ([]:List Int))]),some (.box [.d (.str s6),.osl 5 1 0 (r30.1.length),.osl 6 1 0 (result_8.length)]),some (.arr 1 (List.map (eL Ae) ([]:List (List Int)))),some (.arr 1 (List.map Ae ([]:List Int))),some (.cut 7 1 r30.1),some (.arr 1 (result_8.map Ae)),some (.arr 1 (x_45.map Ae))]⟩
def QU:((List Int)×(List Int))->Ex->St->Prop:=xX 0 4 (λ (y:((List Int)×(List Int)))=>Jhv s6 r30 y40 y.1 y.2)
def K6:((List Int)×(List Int)×Int)->St:=(λ (x:((List Int)×(List Int)×Int))=>Jhu p1_ s6 r30 y40 x.1 x.2.1 x.2.2)
variable {p0_ p1_ p2_ s6 r28 r30 result_1 x_37 i_3 result_2 x_38 result_3 x_39 count_1 i_4 result_4 x_40 count_2 rest_1 shift_7 result_5 x_41 y40 result_6 x_42 x_43 result_7 x_44 result_8 x_45}
theorem PU (x:((List Int)×(List Int)×Int)) (z:(((List Int)×(List Int)×Int)⊕((List Int)×(List Int)))) (H:CF n p1_ p2_ s6 r28 r30 x.1 x.2.1 x.2.2=some z):WP (cxk 204 0) (Aw Tryz.f11) [1,0,1,1,1,1,1,1,1,1,0,1,0,0] (Au 0 (K4 p1_ p2_ s6 r28 r30) (QS p1_ p2_ s6 r28 r30) z) (K4 p1_ p2_ s6 r28 r30 x):=by
 obtain ⟨result_1,x_37,i_3⟩:=x
 refine sq (sr (ck 4 (en (cn H (λ H=>?_) (λ H=>?_)))))
 ·exact sk (qz (sq (bk 1 (sr (ck 9 (en (sq (rx 11 (OP (xs:=r30.1) 7 9 1 (by kernel_rfl)) (ck 3 (bx H λ x57 h146 H=>sp (Az 7 1 h146) (sp (PH (t:=ty 35) 7 9 1 h146) (ck 3 (bx H λ x58 h147 H=>sp (Am (eL Ae) h147) (ck 1 (mx 10 (bx H λ l22 h148 H=>xpP (xok _ _) Ae 9 1 x57.1 x57.2 h148 JjN (λ _=>rfl) (ax (qz (rg (Nt (xs:=r30.1) 7 9 1 (by kernel_rfl)) (ck 6 (bx H λ x59 h149 H=>sp (Am Ae h149) (ck 1 (bx H λ x60 h150 H=>sp (Az 8 1 h150) (bx H λ l23 h151 H=>stA Ae 8 0 (ty 3) h150 h151 (ae (qN (qz (rg (tr (sn 122 8 1 (Bg h151)) (snc 4 2 8 1 (Bg h151))) (ck 3 (ae (by cases H;exact og (sg [4,5,6,10,13,14,15,16]))))))))))))))))))))))))))))))))
 ·exact ex 0 (qx (by cases H;exact xo rfl (sg [4,5,6,13,14,15])))
theorem PV (x:((List Int)×(List Int)×Int×Int)) (z:(((List Int)×(List Int)×Int×Int)⊕((List Int)×(List Int)×Int×Int×Int))) (H:C9 n p1_ p2_ s6 r28 r30 x.1 x.2.1 x.2.2.1 x.2.2.2=some z):WP (cxk 204 0) (Aw Tryz.f11) [1,0,1,1,1,1,1,1,1,1,1,1,1,1,0,1,0,0] (Au 0 (K5 p1_ p2_ s6 r28 r30) (QT p1_ s6 r30) z) (K5 p1_ p2_ s6 r28 r30 x):=by
 obtain ⟨result_3,x_39,count_1,i_4⟩:=x
 refine sq (sr (ck 2 (en (cn H (λ H=>?_) (λ H=>?_)))))
 ·refine sk (qz (sj (λ (x:((List Int)×(List Int)))=>Jht p1_ p2_ s6 r28 r30 count_1 i_4 x.1 x.2) (λ (x:((List Int)×(List Int)))=>C8 n count_1 i_4 x.1 x.2) z ?_ (λ hFRv_Change_J1=>?_)))
  ·rintro ⟨result_5,x_41⟩ H
   exact rz (ck 3 (ae (by cases H;exact og (sg [4,5,6,14,18,19,20,21,22]))))
  refine bk 3 (sq (rx 5 (.refl _) (ck 5 (bx H λ r32 h154 H=>xs (xok _ _) (g:=true) rfl (Eb) [4,5,8,9,10,11] (FW h154) rfl (bx H λ x61 h155 H=>sp (Az 9 1 h155) (mx 7 (bx H λ l24 h156 H=>stA Ae 9 0 (ty 3) h155 h156 (ax (qz (sq (rg (tr (tr (sn 140 9 1 (Bg h156)) (snc 3 2 9 1 (Bg h156))) (snc 4 2 9 1 (Bg h156))) (ck 3 (en (sq (sr (ck 5 (en (cn H (λ H=>?_) (λ H=>?_)))))))))))))))))))
  ·exact ex 3 (qx (qH (qs (sg [4,5,6,14,18,19,20,21,22]) (hFRv_Change_J1 (l24,r32.1) H))))
  ·refine sk (qz (sr (ck 3 (bx H λ r33 h157 H=>lt [8,9,11] (QR h157) (ck 5 (en (sr (ck 1 (en (cn H (λ H=>?_) (λ H=>?_)))))))))))
   ·exact sr (ck 4 (en (ex 2 (qX rfl (qx (by cases H;exact xo rfl (sg [4,6,14,19,20,21])))))))
   ·exact sk (qN (qs (sg [4,5,6,14,18,19,20,21,22]) (hFRv_Change_J1 (l24,r32.1) H)))
 ·exact ex 2 (qx (by cases H;exact xo rfl (sg [4,6,14,19,20,21])))
theorem PW (x:((List Int)×(List Int)×Int)) (z:(((List Int)×(List Int)×Int)⊕((List Int)×(List Int)))) (H:CG n p1_ s6 r30 y40 x.1 x.2.1 x.2.2=some z):WP (cxk 204 0) (Aw Tryz.f11) [1,0,1,1,1,1,1,1,1,1,1,1,1,1,1,0,1,0,0] (Au 0 (K6 p1_ s6 r30 y40) (QU s6 r30 y40) z) (K6 p1_ s6 r30 y40 x):=by
 obtain ⟨result_6,x_42,x_43⟩:=x
 refine sr (ck 1 (en (sq (cn H (λ H=>?_) (λ H=>?_)))))
 ·refine sk (qz (sj (λ (x:((List Int)×(List Int)))=>Jhw p1_ s6 r30 y40 x_43 x.1 x.2) (λ (x:((List Int)×(List Int)))=>Da n x_43 x.1 x.2) z ?_ (λ hFRv_Change_J2=>?_)))
  ·rintro ⟨result_8,x_45⟩ H
   exact rz (ck 2 (ae (by cases H;exact og (sg [4,6,14,19,21,163,164]))))
  refine bk 5 (sr (ck 2 (en (sq (rx 11 (OP (xs:=r30.1) 5 7 1 (by kernel_rfl)) (ck 3 (bx H λ x62 h159 H=>sp (Az 5 1 h159) (sp (PH (t:=ty 35) 5 7 1 h159) (ck 3 (bx H λ x63 h160 H=>sp (Am (eL Ae) h160) (ck 1 (mx 10 (bx H λ l25 h161 H=>xpP (xok _ _) Ae 7 1 x62.1 x62.2 h161 JjN (λ _=>rfl) (ax (qz (sq (rg (Nt (xs:=r30.1) 5 7 1 (by kernel_rfl)) (ck 6 (bx H λ x64 h162 H=>sp (Am Ae h162) (ck 1 (bx H λ x65 h163 H=>sp (Az 6 1 h163) (bx H λ l26 h164 H=>stA Ae 6 0 (ty 3) h163 h164 (en (sq (rg (tr (sn 179 6 1 (Bg h164)) (snc 2 2 6 1 (Bg h164))) (ck 3 (bx H λ x66 h165 H=>sp (Am Ae h165) (ck 2 (en (cn H (λ H=>?_) (λ H=>?_)))))))))))))))))))))))))))))))
  ·exact rz (ck 3 (bx H λ x67 h166 H=>sp (Az 6 1 h166) (sp (CJ Ae 6 0 (ty 3) h166) (ck 2 (bx H λ x68 h167 H=>sp (Az 6 1 h167) (bx H λ l27 h168 H=>stA Ae 6 0 (ty 3) h167 h168 (ae (qN (qs (tr (tr (tr (sn 179 6 1 (Bg h168)) (sn 194 6 1 (Bg h168))) (snc 2 2 6 1 (Bg h168))) (sg [4,6,14,19,21,163,164])) (hFRv_Change_J2 (l27,l25) H))))))))))
  ·exact sk (qN (qs (sg [4,6,14,19,21,163,164]) (hFRv_Change_J2 (l26,l25) H)))
 ·exact ex 4 (qx (by cases H;exact xo rfl (sg [6,14,19])))
theorem GP {z} (H:BW n p0_ p1_ p2_=some z):AD Tryz.prog 11 [.agg (AK p0_),.agg (CQ p1_),.agg (EC p2_)] (.tup [.agg [.d (.str z.1.Text),.d (.sl (z.1.Costs.map (eL Ae))),.own 1 (z.1.Least.map Ae)],.d (.int .i64 z.2.1),.d (.int .i64 z.2.2)]):=by
 refine fO 204 (Jho p0_ p1_ p2_) Tryz.func11 (sr (ck 6 (en (sc (sr (ck 4 (en (sq (sr (ck 5 (gc 2 (!(decide (p2_.At<0))) (pO (ck 2 (gc 1 (!((decide (p2_.At<0))||(decide (p2_.Cut<0)))) (ck 1 (gc 1 (!((decide (p2_.At<0))||(decide (p2_.Cut<0)))) (pO (ck 2 (gc 1 (!(((decide (p2_.At<0))||(decide (p2_.Cut<0)))||(decide (p2_.At>((p1_.Text.length:Nat):Int))))) (ck 2 (gc 3 (!(((decide (p2_.At<0))||(decide (p2_.Cut<0)))||(decide (p2_.At>((p1_.Text.length:Nat):Int))))) (pO (en (cn H (λ H=>?_) (λ H=>?_)))))))))))))))))))))))))
 ·exact sr (ck 4 (en (re (qr (by cases H;exact pr (rT (vs:=[.agg [.d (.str []),.d (.nil),.d (.nil)],.d (.int .i64 0),.d (.int .i64 1)]) [] (t1 (a1 (c1 vd (c1 vn (c1 vz (c0))))) (t1 (ad vd) (t1 (ad vd) (t0))))))))))
 ·refine sk (qz (sr (ck 4 (bx H λ s3 h138 H=>sp (Hw h138) (ck 2 (bx H λ s4 h139 H=>sp (PF h139) (ck 7 (bx H λ s5 h140 H=>sp (Hw h140) (bx H λ s6 h141 H=>sp (PF h141) (ck 1 (en (sq (sr (ck 1 (bx H λ r27 h142 H=>ca true (IM h142) (ck 5 (en (sr (ck 2 (en (cn H (λ H=>?_) (λ H=>?_))))))))))))))))))))))
  ·exact sr (ck 5 (en (re (qr (by cases H;exact pr (rT (vs:=[.agg [.d (.str []),.d (.nil),.d (.nil)],.d (.int .i64 0),.d (.int .i64 r27.2)]) [] (t1 (a1 (c1 vd (c1 vn (c1 vz (c0))))) (t1 (ad vd) (t1 (ad vd) (t0))))))))))
  ·refine sk (qz (sr (ck 1 (bx H λ r28 h143 H=>lt [] (K1 h143) (tb (f:=Dy (Cu [] 4 0)) [some (.box (AK p0_)),some (.box (CQ p1_)),some (.box (EC p2_)),some (.box [.d (.str []),.d (.nil),.d (.nil)]),some (.box [.osl 5 1 0 (r28.Arcs.length),.osl 6 1 0 (r28.Accepts.length)]),some (.narr 1 (r28.Arcs.map (nL 3 Ay))),some (.arr 1 (r28.Accepts.map eB))] (po1 (po1 (po1 (po1 (po1 (pn1 (nL 3 Ay) r28.Arcs (po1 (Pl.z)))))))) (ck 1 (en (sq (sr (ck 2 (bx H λ r29 h144 H=>ltP [4,5,6] (O3 h144) (po1 (pn1 (nL 3 Ay) r28.Arcs (po1 (Pl.z)))) (tb (f:=Dy (Cu [4,5,6] 7 3)) [some (.box (AK p0_)),some (.box (CQ p1_)),some (.box (EC p2_)),some (.box [.d (.str []),.d (.nil),.d (.nil)]),some (.box [.osl 5 1 0 (r28.Arcs.length),.osl 6 1 0 (r28.Accepts.length)]),some (.narr 1 (r28.Arcs.map (nL 3 Ay))),some (.arr 1 (r28.Accepts.map eB))] (po1 (po1 (po1 (po1 (po1 (pn1 (nL 3 Ay) r28.Arcs (po1 (Pl.z)))))))) (ck 1 (en (cn H (λ H=>?_) (λ H=>?_))))))))))))))))
   ·exact sr (ck 4 (en (re (qr (by cases H;exact pr (rT (vs:=[.agg [.d (.str []),.d (.nil),.d (.nil)],.d (.int .i64 0),.d (.int .i64 1)]) [] (t1 (a1 (c1 vd (c1 vn (c1 vz (c0))))) (t1 (ad vd) (t1 (ad vd) (t0))))))))))
   ·exact sk (qz (sq (rg (tr (ON (encN:=(nL 3 Ay)) (encD:=(eL Ay)) (xss:=r28.Arcs) (sz:=1) 4 0 5 (by kernel_rfl) (by kernel_rfl) (λ _=>rfl) (λ _=>rfl)) (fzc (enc:=eB) (xs:=r28.Accepts) 4 1 6 1)) (ck 2 (bx H λ r30 h145 H=>lt [4] (Hn h145) (ck 2 (en (sr (ck 7 (en (sq (sr (ck 2 (en (bk 0 (bx H λ y39 h152 H=>lX PU h152 (tr (tr (BL 3 1 1 (by kernel_rfl)) (BL 3 2 1 (by kernel_rfl))) (sg [4,5,6,10,13,14,15,16])) rfl λ s hE32=>qH (qs (hE32) (sr (ck 2 (bx H λ r31 h153 H=>lt [3,7,8,9] (G8 h153) (ck 1 (en (sr (ck 3 (en (sq (lbl (qz (sq (sr (ck 3 (en (bk 2 (bx H λ y40 h158 H=>lX PV h158 (sg [4,5,6,14,18,19,20,21,22]) rfl λ s hE33=>qH (qs (hE33) (sq (sr (ck 2 (en (bk 4 (bx H λ y41 h169 H=>lX PW h169 (sg [4,6,14,19,21,163,164]) rfl λ s hE34=>qH (qs (hE34) (sr (ck 5 (ae (bx H λ _ h170 H=>qs (tr (tr (OP (xs:=r30.1) 4 6 1 (by kernel_rfl)) (WR (enc:=Ae) (ys:=y41.2) (xs:=r30.1) 6 4 1 h170 (by kernel_rfl) (by kernel_rfl))) (Uj (sz:=1) (encN:=Je0 Ae) (encD:=(eL Ae)) (xss:=PG y41.2 r30.1) 0 1 4 WT (by kernel_rfl) (by kernel_rfl) (λ _=>rfl) (λ _=>rfl))) (re (by cases H;exact pr (rT (vs:=[.agg [.d (.str s6),.d (.sl (List.map (eL Ae) (PG y41.2 r30.1))),.osl 5 1 0 (y41.1.length)],.d (.int .i64 y40.2.2.1),.d (.int .i64 0)]) [5] (t1 (a1 (c1 vd (c1 vd (c1 vo (c0))))) (t1 (ad vd) (t1 (ad vd) (t0)))))))))))))))))))))))))))))))))))))))))))))))))))))
end
section
variable (p0_:(List UInt8)) (x_46:Int)
def Jhx:St:=⟨(0,.d (.str p0_))::[],[]⟩
def Jhy:St:=⟨(0,.d (.str p0_))::(5,.d (.int .i64 ((p0_.length:Nat):Int)))::(6,.d (.int .i64 x_46))::[],[]⟩
def Jhz:St:=⟨[],[]⟩
def O5:(Unit⊕Bool)->Ex->St->Prop:=xS (xX 0 0 (λ (_:Unit)=>Jhz)) (xR ty Tryz.f88 (λ (y:Bool)=>.d (.bool y)))
def IS:Int->St:=(λ (x:Int)=>Jhy p0_ x)
variable {p0_ x_46}
theorem H3 (x:Int) (z:(Int⊕(Unit⊕Bool))) (H:Fb n p0_ x=some z):WP (cxk 15 0) (Aw Tryz.f88) [1,0,1,0,0] (Au 0 (IS p0_) (O5) z) (IS p0_ x):=by
 revert H
 generalize x=x_46
 intro H
 refine sr (ck 1 (en (sq (cn H (λ H=>?_) (λ H=>?_)))))
 ·refine sk (qz (sq (bk 1 (sr (ck 2 (en (sr (ck 2 (bx H λ b4 h171 H=>sp (Hv h171) (bx H λ r34 h172 H=>ca false (HG h172) (ck 1 (en (cn H (λ H=>?_) (λ H=>?_))))))))))))))
  ·exact sr (ck 1 (en (re (qR (qr (by cases H;exact ro rfl rd))))))
  ·exact sk (qN (qz (rz (ck 2 (ae (by cases H;exact og (sg [0,5,6])))))))
 ·exact ex 0 (qx (by cases H;exact xo rfl (sg [])))
theorem QV {z} (H:Hz n p0_=some z):AD Tryz.prog 88 [.d (.str p0_)] (.d (.bool z)):=by
 refine fO 15 (Jhx p0_) Tryz.func88 (sr (ck 1 (en (sq (sr (ck 3 (en (bk 0 (bx H λ y42 h173 H=>?_)))))))))
 rcases y42 with y43|y44
 ·exact lX H3 h173 (sg [0,5,6]) rfl λ s hE35=>qH (qs (hE35) (sr (ck 1 (en (re (by cases H;exact pr rd))))))
 ·exact lR H3 h173 (sg [0,5,6]) rfl λ s hE36=>qR (qr (by cases H;exact pr hE36))
end
section
variable (p0_:Int)
def JhA:St:=⟨(0,.d (.int .u8 p0_))::[],[]⟩
variable {p0_}
theorem Ve {z} (H:MH n p0_=some z):AD Tryz.prog 89 [.d (.int .u8 p0_)] (.d (.bool z)):=by
 exact fO 5 (JhA p0_) Tryz.func89 (sr (ck 1 (en (sr (ck 3 (en (re (by cases H;exact pr rd))))))))
end
section
variable (p0_:Ax) (p1_:Int) (x_47:Int)
def JhB:St:=⟨(0,.agg [.d (.str p0_.Print),.d (.sl (p0_.Cells.map eU8)),.d (.int .u8 p0_.Left),.d (.int .u8 p0_.Right),.d (.int .i64 p0_.From),.d (.int .i64 p0_.To)])::(1,.d (.int .i64 p1_))::[],[]⟩
def JhC:St:=⟨(92,.d (.sl (p0_.Cells.map eU8)))::(93,.d (.int .i64 ((p0_.Cells.length:Nat):Int)))::(94,.d (.int .i64 x_47))::[],[]⟩
def JhD:St:=⟨[],[]⟩
def SA:(Unit⊕Bool)->Ex->St->Prop:=xS (xX 0 0 (λ (_:Unit)=>JhD)) (xR ty Tryz.f83 (λ (y:Bool)=>.d (.bool y)))
def L9:Int->St:=(λ (x:Int)=>JhC p0_ x)
variable {p0_ p1_ x_47}
theorem K7 (x:Int) (z:(Int⊕(Unit⊕Bool))) (H:HA n p0_ x=some z):WP (cxk 110 0) (Aw Tryz.f83) [1,1,1,1,1,1,0,1,0,0] (Au 0 (L9 p0_) (SA) z) (L9 p0_ x):=by
 revert H
 generalize x=x_47
 intro H
 refine sr (ck 1 (en (sq (cn H (λ H=>?_) (λ H=>?_)))))
 ·refine sk (qz (sq (bk 1 (sr (bx H λ x70 h177 H=>sp (Am eU8 h177) (ck 2 (en (sr (ck 1 (bx H λ r37 h178 H=>ca false (Ve h178) (ck 3 (gc 1 (!(!r37)) (pO (ck 2 (gc 1 (!((!r37)||(x70==63))) (pO (en (cn H (λ H=>?_) (λ H=>?_)))))))))))))))))))
  ·exact sr (ck 1 (en (re (qR (qr (by cases H;exact ro rfl rd))))))
  ·exact sk (qN (qz (rz (ck 2 (ae (by cases H;exact og (sg [92,93,94])))))))
 ·exact ex 0 (qx (by cases H;exact xo rfl (sg [])))
theorem Vf {z} (H:MI n p0_ p1_=some z):AD Tryz.prog 83 [.agg (L4 p0_),.d (.int .i64 p1_)] (.d (.bool z)):=by
 refine fO 110 (JhB p0_ p1_) Tryz.func83 (sr (ck 2 (en (sq (sr (ck 6 (gc 1 (!(decide (((p0_.Print.length:Nat):Int)>4))) (sE (g:=(!(decide (((p0_.Print.length:Nat):Int)>4)))) (λ hg=>AB eU8 p0_.Cells) (gc 1 (!(decide (((p0_.Print.length:Nat):Int)>4))) (pO (ck 2 (gc 1 (!((decide (((p0_.Print.length:Nat):Int)>4))||(decide (((p0_.Cells.length:Nat):Int)<1)))) (sE (g:=(!((decide (((p0_.Print.length:Nat):Int)>4))||(decide (((p0_.Cells.length:Nat):Int)<1))))) (λ hg=>AB eU8 p0_.Cells) (gc 1 (!((decide (((p0_.Print.length:Nat):Int)>4))||(decide (((p0_.Cells.length:Nat):Int)<1)))) (pO (en (cn H (λ H=>?_) (λ H=>?_))))))))))))))))))
 ·exact sr (ck 1 (en (re (qr (by cases H;exact pr rd)))))
 ·refine sk (qz (sq (sr (ck 2 (bx H λ r35 h174 H=>ca false (IM h174) (ck 5 (en (sr (ck 2 (en (cn H (λ H=>?_) (λ H=>?_))))))))))))
  ·exact sr (ck 1 (en (re (qr (by cases H;exact pr rd)))))
  ·refine sk (qz (sq (sr (ck 5 (gc 2 (!(decide (p0_.Left<1))) (pO (ck 2 (gc 2 (!((decide (p0_.Left<1))||(decide (p0_.Left>63)))) (pO (ck 2 (gc 2 (!(((decide (p0_.Left<1))||(decide (p0_.Left>63)))||(decide (p0_.Right<1)))) (pO (en (cn H (λ H=>?_) (λ H=>?_)))))))))))))))
   ·exact sr (ck 1 (en (re (qr (by cases H;exact pr rd)))))
   ·refine sk (qz (sq (sr (ck 5 (gc 1 (!(decide (p0_.From<0))) (ck 1 (gc 1 (!(decide (p0_.From<0))) (pO (ck 2 (gc 2 (!((decide (p0_.From<0))||(decide (p0_.From>=p1_)))) (pO (ck 2 (gc 1 (!(((decide (p0_.From<0))||(decide (p0_.From>=p1_)))||(decide (p0_.To<0)))) (ck 1 (gc 1 (!(((decide (p0_.From<0))||(decide (p0_.From>=p1_)))||(decide (p0_.To<0)))) (pO (en (cn H (λ H=>?_) (λ H=>?_)))))))))))))))))))
    ·exact sr (ck 1 (en (re (qr (by cases H;exact pr rd)))))
    ·refine sk (qz (sq (sr (ck 2 (bx H λ r36 h175 H=>ca false (QV h175) (en (cn H (λ H=>?_) (λ H=>?_))))))))
     ·exact sr (ck 6 (gc 1 (((p0_.Print.length:Nat):Int)==1) (sE (g:=(((p0_.Print.length:Nat):Int)==1)) (λ hg=>AB eU8 p0_.Cells) (gc 1 (((p0_.Print.length:Nat):Int)==1) (pA (ck 2 (gc 1 ((((p0_.Print.length:Nat):Int)==1)&&(((p0_.Cells.length:Nat):Int)==1)) (bx H λ x69 h176 H=>sE (λ hg=>Am eU8 (BB h176 hg)) (gc 2 ((((p0_.Print.length:Nat):Int)==1)&&(((p0_.Cells.length:Nat):Int)==1)) (pA (ck 1 (en (re (qr (by cases H;exact pr rd)))))))))))))))
     ·refine sk (qz (sq (sr (ck 2 (sp (AB eU8 p0_.Cells) (ck 1 (en (bk 0 (bx H λ y45 h179 H=>?_)))))))))
      rcases y45 with y46|y47
      ·exact lX K7 h179 (sg [92,93,94]) rfl λ s hE37=>qH (qs (hE37) (sr (ck 1 (en (re (by cases H;exact pr rd))))))
      ·exact lR K7 h179 (sg [92,93,94]) rfl λ s hE38=>qR (qr (by cases H;exact pr hE38))
end
section
variable (p0_:(List Int)) (p1_:(List Int)) (x_48:Int)
def JhE:St:=⟨(0,.d (.sl (p0_.map eU8)))::(1,.d (.sl (p1_.map eU8)))::[],[]⟩
def JhF:St:=⟨(0,.d (.sl (p0_.map eU8)))::(1,.d (.sl (p1_.map eU8)))::(12,.d (.int .i64 ((p0_.length:Nat):Int)))::(13,.d (.int .i64 x_48))::[],[]⟩
def JhG:St:=⟨[],[]⟩
def SB:(Unit⊕Bool)->Ex->St->Prop:=xS (xX 0 0 (λ (_:Unit)=>JhG)) (xR ty Tryz.f90 (λ (y:Bool)=>.d (.bool y)))
def Ma:Int->St:=(λ (x:Int)=>JhF p0_ p1_ x)
variable {p0_ p1_ x_48}
theorem K8 (x:Int) (z:(Int⊕(Unit⊕Bool))) (H:HB n p0_ p1_ x=some z):WP (cxk 26 0) (Aw Tryz.f90) [1,1,0,1,0,0] (Au 0 (Ma p0_ p1_) (SB) z) (Ma p0_ p1_ x):=by
 revert H
 generalize x=x_48
 intro H
 refine sr (ck 1 (en (sq (cn H (λ H=>?_) (λ H=>?_)))))
 ·refine sk (qz (sq (bk 1 (sr (ck 2 (en (sr (ck 2 (bx H λ x71 h180 H=>sp (Am eU8 h180) (ck 3 (bx H λ x72 h181 H=>sp (Am eU8 h181) (ck 2 (en (cn H (λ H=>?_) (λ H=>?_)))))))))))))))
  ·exact sr (ck 1 (en (re (qR (qr (by cases H;exact ro rfl rd))))))
  ·exact sk (qN (qz (rz (ck 2 (ae (by cases H;exact og (sg [0,1,12,13])))))))
 ·exact ex 0 (qx (by cases H;exact xo rfl (sg [])))
theorem Vg {z} (H:MJ n p0_ p1_=some z):AD Tryz.prog 90 [.d (.sl (p0_.map eU8)),.d (.sl (p1_.map eU8))] (.d (.bool z)):=by
 refine fO 26 (JhE p0_ p1_) Tryz.func90 (sr (ck 1 (en (sq (sr (ck 1 (sp (AB eU8 p0_) (ck 1 (sp (AB eU8 p1_) (ck 1 (en (cn H (λ H=>?_) (λ H=>?_)))))))))))))
 ·exact sr (ck 1 (en (re (qr (by cases H;exact pr rd)))))
 ·refine sk (qz (sq (sr (ck 1 (sp (AB eU8 p0_) (ck 1 (en (bk 0 (bx H λ y48 h182 H=>?_)))))))))
  rcases y48 with y49|y50
  ·exact lX K8 h182 (sg [0,1,12,13]) rfl λ s hE39=>qH (qs (hE39) (sr (ck 1 (en (re (by cases H;exact pr rd))))))
  ·exact lR K8 h182 (sg [0,1,12,13]) rfl λ s hE40=>qR (qr (by cases H;exact pr hE40))
end
section
variable (p0_:Ax) (p1_:Ax)
def JhH:St:=⟨(0,.agg [.d (.str p0_.Print),.d (.sl (p0_.Cells.map eU8)),.d (.int .u8 p0_.Left),.d (.int .u8 p0_.Right),.d (.int .i64 p0_.From),.d (.int .i64 p0_.To)])::(1,.agg [.d (.str p1_.Print),.d (.sl (p1_.Cells.map eU8)),.d (.int .u8 p1_.Left),.d (.int .u8 p1_.Right),.d (.int .i64 p1_.From),.d (.int .i64 p1_.To)])::[],[]⟩
variable {p0_ p1_}
theorem Vh {z} (H:MK n p0_ p1_=some z):AD Tryz.prog 84 [.agg (L4 p0_),.agg (L4 p1_)] (.d (.bool z)):=by
 exact fO 45 (JhH p0_ p1_) Tryz.func84 (sr (ck 3 (en (sr (ck 7 (gc 1 (p0_.From==p1_.From) (ck 1 (gc 2 (p0_.From==p1_.From) (pA (ck 2 (gc 1 ((p0_.From==p1_.From)&&(p0_.To==p1_.To)) (ck 1 (gc 2 ((p0_.From==p1_.From)&&(p0_.To==p1_.To)) (pA (ck 2 (gc 1 (((p0_.From==p1_.From)&&(p0_.To==p1_.To))&&(p0_.Left==p1_.Left)) (ck 1 (gc 2 (((p0_.From==p1_.From)&&(p0_.To==p1_.To))&&(p0_.Left==p1_.Left)) (pA (ck 2 (gc 1 ((((p0_.From==p1_.From)&&(p0_.To==p1_.To))&&(p0_.Left==p1_.Left))&&(p0_.Right==p1_.Right)) (ck 1 (gc 2 ((((p0_.From==p1_.From)&&(p0_.To==p1_.To))&&(p0_.Left==p1_.Left))&&(p0_.Right==p1_.Right)) (pA (ck 2 (gc 1 (((((p0_.From==p1_.From)&&(p0_.To==p1_.To))&&(p0_.Left==p1_.Left))&&(p0_.Right==p1_.Right))&&(p0_.Print==p1_.Print)) (ck 1 (gc 1 (((((p0_.From==p1_.From)&&(p0_.To==p1_.To))&&(p0_.Left==p1_.Left))&&(p0_.Right==p1_.Right))&&(p0_.Print==p1_.Print)) (bx H λ r38 h183 H=>cG false (leZ) rfl (λ hg=>Vg (BB h183 hg)) (Or.inl rfl) (BY (λ hh=>hh) (BY (λ hh=>hh) (Eb))) rfl (pA (ck 1 (en (re (by cases H;exact pr rd))))))))))))))))))))))))))))))))))
end
section
variable (p0_:Ad) (x_49:Int) (x73:Ax) (l28:(List Ax)) (x_50:Int)
def JhI:St:=⟨(0,.agg [.d (.int .i64 p0_.Modes),.d (.int .u8 p0_.Accept),.d (.sl (p0_.Rules.map An))])::[],[]⟩
def JhJ:St:=⟨(1,.ptr 0 0)::(39,.d (.sl (p0_.Rules.map An)))::(40,.d (.int .i64 ((p0_.Rules.length:Nat):Int)))::(41,.d (.int .i64 x_49))::[],[some (.box (AK p0_))]⟩
def JhK:St:=⟨[],[]⟩
def JhL:St:=⟨(1,.ptr 0 0)::(4,.d (.int .i64 x_49))::(5,.ptr 1 0)::(39,.d (.sl (p0_.Rules.map An)))::(40,.d (.int .i64 ((p0_.Rules.length:Nat):Int)))::(41,.d (.int .i64 x_49))::(55,.d (.sl (l28.map An)))::(56,.d (.int .i64 ((l28.length:Nat):Int)))::(57,.d (.int .i64 x_50))::[],[some (.box (AK p0_)),some (.box (L4 x73))]⟩
def JhM:St:=⟨(1,.ptr 0 0)::(39,.d (.sl (p0_.Rules.map An)))::(40,.d (.int .i64 ((p0_.Rules.length:Nat):Int)))::(41,.d (.int .i64 x_49))::[],[some (.box (AK p0_))]⟩
def SC:(Unit⊕(Int×Int))->Ex->St->Prop:=xS (xX 0 2 (λ (_:Unit)=>JhM p0_ x_49)) (xR ty Tryz.f75 (λ (y:(Int×Int))=>.tup [.d (.int .i64 y.1),.d (.int .i64 y.2)]))
def Mb:Int->St:=(λ (x:Int)=>JhL p0_ x_49 x73 l28 x)
def SD:(Unit⊕(Int×Int))->Ex->St->Prop:=xS (xX 0 0 (λ (_:Unit)=>JhK)) (xR ty Tryz.f75 (λ (y:(Int×Int))=>.tup [.d (.int .i64 y.1),.d (.int .i64 y.2)]))
def Mc:Int->St:=(λ (x:Int)=>JhJ p0_ x)
variable {p0_ x_49 x73 l28 x_50}
theorem K9 (x:Int) (z:(Int⊕(Unit⊕(Int×Int)))) (H:HC n p0_ x_49 x73 l28 x=some z):WP (cxk 67 0) (Aw Tryz.f75) [1,1,1,1,0,1,0,0,1,1,0,0,1,1,1,0,0] (Au 0 (Mb p0_ x_49 x73 l28) (SC p0_ x_49) z) (Mb p0_ x_49 x73 l28 x):=by
 revert H
 generalize x=x_50
 intro H
 refine sr (ck 1 (en (sq (cn H (λ H=>?_) (λ H=>?_)))))
 ·refine sk (qz (sq (bk 3 (sr (bx H λ x74 h188 H=>sp (Am An h188) (ck 3 (en (sr (ck 2 (bx H λ r40 h189 H=>ca false (Vh h189) (en (cn H (λ H=>?_) (λ H=>?_)))))))))))))
  ·exact sr (ck 3 (en (re (qR (qr (by cases H;exact ro rfl rdT))))))
  ·exact sk (qN (qz (rz (ck 2 (ae (by cases H;exact og (sg [1,4,5,39,40,41,55,56,57])))))))
 ·exact ex 2 (qx (by cases H;exact xo rfl (sg [1,39,40,41])))
theorem La (x:Int) (z:(Int⊕(Unit⊕(Int×Int)))) (H:HD n p0_ x=some z):WP (cxk 67 0) (Aw Tryz.f75) [1,1,1,1,0,1,0,0] (Au 0 (Mc p0_) (SD) z) (Mc p0_ x):=by
 revert H
 generalize x=x_49
 intro H
 refine sr (ck 1 (en (sq (cn H (λ H=>?_) (λ H=>?_)))))
 ·refine sk (qz (sq (bk 1 (sr (ck 1 (bx H λ x73 h185 H=>sp (Am An h185) (ck 4 (en (sq (sr (ck 3 (bx H λ r39 h186 H=>ca false (Vf h186) (ck 1 (en (cn H (λ H=>?_) (λ H=>?_))))))))))))))))
  ·exact sr (ck 3 (en (re (qr (qR (qr (by cases H;exact ro rfl rdT)))))))
  ·refine sk (qz (sr (ck 3 (bx H λ l28 h187 H=>sp (Jgz An 6 h187) (sp (AB An l28) (ck 1 (en (bk 2 (bx H λ y51 h190 H=>?_)))))))))
   rcases y51 with y52|y53
   ·exact lX K9 h190 (sg [1,4,5,39,40,41,55,56,57]) rfl λ s hE41=>qH (qN (qs (hE41) (rz (ck 2 (ae (by cases H;exact og (sg [1,39,40,41])))))))
   ·exact lR K9 h190 (sg [1,4,5,39,40,41,55,56,57]) rfl λ s hE42=>qR (qR (qr (by cases H;exact ro rfl hE42)))
 ·exact ex 0 (qx (by cases H;exact xo rfl (sg [])))
theorem Vi {z} (H:ML n p0_=some z):AD Tryz.prog 75 [.agg (AK p0_)] (.tup [.d (.int .i64 z.1),.d (.int .i64 z.2)]):=by
 refine fO 67 (JhI p0_) Tryz.func75 (sr (ck 3 (en (sq (sr (ck 5 (gc 2 (!(decide (p0_.Modes<1))) (pO (en (cn H (λ H=>?_) (λ H=>?_)))))))))))
 ·exact sr (ck 2 (en (re (qr (by cases H;exact pr rdT)))))
 ·refine sk (qz (sq (sr (ck 5 (gc 2 (!(p0_.Accept==0)) (ck 1 (gc 1 (!(p0_.Accept==0)) (bx H λ gd4 h184 H=>soG (λ hg=>HU (BB h184 hg)) (BY (λ hh=>hh) (Eb)) (gc 1 (!(p0_.Accept==0)) (pO (en (cn H (λ H=>?_) (λ H=>?_)))))))))))))
  ·exact sr (ck 2 (en (re (qr (by cases H;exact pr rdT)))))
  ·refine sk (qz (sq (sr (ck 2 (sp (AB An p0_.Rules) (ck 3 (gc 1 (!(decide (((p0_.Rules.length:Nat):Int)<1))) (sE (g:=(!(decide (((p0_.Rules.length:Nat):Int)<1)))) (λ hg=>AB An p0_.Rules) (gc 1 (!(decide (((p0_.Rules.length:Nat):Int)<1))) (pO (en (cn H (λ H=>?_) (λ H=>?_)))))))))))))
   ·exact sr (ck 2 (en (re (qr (by cases H;exact pr rdT)))))
   ·refine sk (qz (sq (sr (ck 2 (sp (AB An p0_.Rules) (ck 1 (en (bk 0 (bx H λ y54 h191 H=>?_)))))))))
    rcases y54 with y55|y56
    ·exact lX La h191 (sg [1,39,40,41]) rfl λ s hE43=>qH (qs (hE43) (sr (ck 2 (en (re (by cases H;exact pr rdT))))))
    ·exact lR La h191 (sg [1,39,40,41]) rfl λ s hE44=>qR (qr (by cases H;exact pr hE44))
end
section
variable (p0_:Ad)
def JhN:St:=⟨(0,.agg [.d (.int .i64 p0_.Modes),.d (.int .u8 p0_.Accept),.d (.sl (p0_.Rules.map An))])::[],[]⟩
variable {p0_}
theorem Vj {z} (H:MM n p0_=some z):AD Tryz.prog 60 [.agg (AK p0_)] (.d (.bool z)):=by
 exact fO 12 (JhN p0_) Tryz.func60 (sr (ck 2 (en (sr (ck 1 (bx H λ r41 h192 H=>ca false (Vi h192) (ck 5 (en (sr (ck 3 (en (re (by cases H;exact pr rd)))))))))))))
end
section
variable (p0_:Int)
def Je4:St:=⟨(0,.d (.int .i64 p0_))::[],[]⟩
variable {p0_}
theorem IT {z} (H:Ed n p0_=some z):AD Tryz.prog 108 [.d (.int .i64 p0_)] (.d (.bool z)):=by
 exact fO 6 (Je4 p0_) Tryz.func108 (sr (ck 1 (en (sr (ck 4 (en (re (by cases H;exact pr rd))))))))
end
section
variable (p0_:Int) (p1_:Int)
def JhO:St:=⟨(0,.d (.int .i64 p0_))::(1,.d (.int .i64 p1_))::[],[]⟩
variable {p0_ p1_}
theorem PX {z} (H:GL n p0_ p1_=some z):AD Tryz.prog 97 [.d (.int .i64 p0_),.d (.int .i64 p1_)] (.d (.bool z)):=by
 exact fO 17 (JhO p0_ p1_) Tryz.func97 (sr (ck 1 (en (sr (ck 1 (bx H λ r43 h196 H=>ca false (IT h196) (ck 2 (bx H λ r44 h197 H=>cG false (leZ) rfl (λ hg=>IT (BB h197 hg)) (Or.inl rfl) (BY (λ hh=>hh) (Eb)) rfl (gc 1 r43 (pA (ck 3 (gc 1 (!(r43&&(!r44))) (pO (ck 1 (en (re (by cases H;exact pr rd)))))))))))))))))
end
section
variable (p0_:Int)
def Je5:St:=⟨(0,.d (.int .i64 p0_))::[],[]⟩
variable {p0_}
theorem JM {z} (H:EQ n p0_=some z):AD Tryz.prog 102 [.d (.int .i64 p0_)] (.d (.bool z)):=by
 exact fO 6 (Je5 p0_) Tryz.func102 (sr (ck 1 (en (sr (ck 4 (en (re (by cases H;exact pr rd))))))))
end
section
variable (p0_:(List Int)) (p1_:Int) (i_5:Int) (j_3:Int) (i_6:Int)
def JhP:St:=⟨(0,.d (.sl (p0_.map Ae)))::(1,.d (.int .i64 p1_))::[],[]⟩
def JhQ:St:=⟨(0,.d (.sl (p0_.map Ae)))::(1,.d (.int .i64 p1_))::(6,.d (.int .i64 ((p0_.length:Nat):Int)))::(7,.d (.int .i64 i_5))::(8,.d (.int .i64 j_3))::[],[]⟩
def JhR:St:=⟨(0,.d (.sl (p0_.map Ae)))::(1,.d (.int .i64 p1_))::(6,.d (.int .i64 ((p0_.length:Nat):Int)))::(7,.d (.int .i64 i_6))::[],[]⟩
def Ha:Int->Ex->St->Prop:=xX 0 0 (λ (y:Int)=>JhR p0_ p1_ y)
def DA:(Int×Int)->St:=(λ (x:(Int×Int))=>JhQ p0_ p1_ x.1 x.2)
variable {p0_ p1_ i_5 j_3 i_6}
theorem GC (x:(Int×Int)) (z:((Int×Int)⊕Int)) (H:BQ n p0_ p1_ x.1 x.2=some z):WP (cxk 54 0) (Aw Tryz.f87) [1,1,1,0,0,0] (Au 0 (DA p0_ p1_) (Ha p0_ p1_) z) (DA p0_ p1_ x):=by
 obtain ⟨i_5,j_3⟩:=x
 refine sq (sr (ck 3 (en (cn H (λ H=>?_) (λ H=>?_)))))
 ·refine sk (qz (bk 1 (sr (ck 7 (en (sr (ck 2 (bx H λ x76 h198 H=>sp (Am Ae h198) (ck 2 (bx H λ r45 h199 H=>ca false (PX h199) (en (cn H (λ H=>?_) (λ H=>?_)))))))))))))
  ·exact rz (ck 3 (ae (qN (by cases H;exact og (sg [0,1,6,7,8])))))
  ·exact rz (ck 2 (ae (qN (by cases H;exact og (sg [0,1,6,7,8])))))
 ·exact ex 0 (qx (by cases H;exact xo rfl (sg [0,1,6,7])))
theorem HH {z} (H:Cd n p0_ p1_=some z):AD Tryz.prog 87 [.d (.sl (p0_.map Ae)),.d (.int .i64 p1_)] (.tup [.d (.int .i64 z.1),.d (.bool z.2)]):=by
 exact fO 54 (JhP p0_ p1_) Tryz.func87 (sr (ck 2 (en (sr (ck 1 (sp (AB Ae p0_) (ck 1 (en (sr (ck 3 (en (sq (bk 0 (bx H λ y57 h200 H=>lX GC h200 (sg [0,1,6,7,8]) rfl λ s hE45=>qH (qs (hE45) (sr (ck 7 (bx H λ x77 h201 H=>sE (λ hg=>Am Ae (BB h201 hg)) (gc 1 (decide (y57<((p0_.length:Nat):Int))) (ck 1 (gc 2 (decide (y57<((p0_.length:Nat):Int))) (ck 2 (bx H λ x78 h202 H=>sE (λ hg=>Am Ae (BB h202 hg)) (gc 1 ((decide (y57<((p0_.length:Nat):Int)))&&!(x77==p1_)) (bx H λ r46 h203 H=>cG false (leZ) rfl (λ hg=>JM (BB h203 hg)) (Or.inl rfl) (BY (λ hh=>hh) (Eb)) rfl (gc 1 ((decide (y57<((p0_.length:Nat):Int)))&&!(x77==p1_)) (ck 1 (bx H λ r47 h204 H=>cG false (leZ) rfl (λ hg=>JM (BB h204 hg)) (Or.inl rfl) (BY (λ hh=>hh) (Eb)) rfl (pG (g:=((decide (y57<((p0_.length:Nat):Int)))&&!(x77==p1_))) (v:=.d (.bool (r46&&r47))) (λ hg=>Gy (c:=.gv ((decide (y57<((p0_.length:Nat):Int)))&&!(x77==p1_)) (.d (.bool r46))) (a:=.gv (((decide (y57<((p0_.length:Nat):Int)))&&!(x77==p1_))&&r46) (.d (.bool r47))) (b:=.d (.bool false)) rfl rfl rfl ((λ hh=>hh) hg) (λ ht=>by rw [(λ hh=>hh) hg,ht];rfl) trivial) (pG (g:=decide (y57<((p0_.length:Nat):Int))) (v:=.d (.bool ((x77==p1_)||(r46&&r47)))) (λ hg=>Gy (c:=.gv (decide (y57<((p0_.length:Nat):Int))) (.d (.bool (x77==p1_)))) (a:=.d (.bool true)) (b:=.gv ((decide (y57<((p0_.length:Nat):Int)))&&!(x77==p1_)) (.d (.bool (r46&&r47)))) rfl rfl rfl ((λ hh=>hh) hg) trivial (λ ht=>by rw [(λ hh=>hh) hg,ht];rfl)) (pA (ck 2 (en (re (by cases H;exact pr rdT)))))))))))))))))))))))))))))))))))
end
section
variable (p0_:AC) (p1_:Int)
def JhS:St:=⟨(0,.dptr (L3 p0_) 0)::(1,.d (.int .i64 p1_))::[],[]⟩
variable {p0_ p1_}
theorem Fj {z} (H:CV n p0_ p1_=some z):AD Tryz.prog 80 [.dptr (L3 p0_) 0,.d (.int .i64 p1_)] (.d (.int .i64 z)):=by
 refine fO 25 (JhS p0_ p1_) Tryz.func80 (sr (ck 1 (en (sr (ck 5 (bx H λ r48 h205 H=>ca false (HH h205) (ck 5 (en (sq (sr (ck 2 (en (cn H (λ H=>?_) (λ H=>?_))))))))))))))
 ·exact sr (ck 1 (en (re (qr (by cases H;exact pr rd)))))
 ·exact sk (qz (sr (ck 5 (bx H λ x79 h206 H=>sp (Am Ae h206) (ck 2 (en (re (by cases H;exact pr rd))))))))
end
section
variable (p0_:Ad) (p1_:(List UInt8)) (x_52:Af) (r52:(List Ab)) (l31:(List AC)) (number_8:(List (Ab×Int))) (x_53:Int) (number_9:(List (Ab×Int))) (y62:(List (Ab×Int))) (w_1:Af) (x_54:Int) (w_2:Af) (x86:Ab) (w_3:Af) (x_55:Int) (w_4:Af) (w_5:Af)
def JcH:St:=⟨(0,.agg [.d (.int .i64 p0_.Modes),.d (.int .u8 p0_.Accept),.d (.sl (p0_.Rules.map An))])::(1,.d (.str p1_))::[],[]⟩
def JcI:St:=⟨(4,.ptr 0 0)::[],[some (.box (Al x_52 (.osl 1 2 0 (x_52.Columns.length)))),some (.narr 2 (x_52.Columns.map Ac))]⟩
def JcJ:St:=⟨(2,.ptr 0 0)::(5,.ptr 1 0)::(6,.mp 2)::(33,.d (.sl (r52.map Aj)))::(34,.d (.int .i64 ((r52.length:Nat):Int)))::(35,.d (.int .i64 x_53))::[],[some (.box (AK p0_)),some (.box [.d (.int .i64 p0_.Modes),.d (.int .u8 p0_.Accept),.d (.sl (p0_.Rules.map An)),.d (.str p1_),.d (.sl (r52.map Aj)),.osl 3 1 0 (List.length ([]:List (List A8))),.osl 4 2 0 (l31.length),.d (.int .i64 0)]),some (.map true false (Er Aj Ae number_8)),some (.arr 1 (List.map (eL Ai) ([]:List (List A8)))),some (.narr 2 (l31.map Ac))]⟩
def JcK:St:=⟨(2,.ptr 0 0)::(5,.ptr 1 0)::(6,.mp 2)::[],[some (.box (AK p0_)),some (.box [.d (.int .i64 p0_.Modes),.d (.int .u8 p0_.Accept),.d (.sl (p0_.Rules.map An)),.d (.str p1_),.d (.sl (r52.map Aj)),.osl 3 1 0 (List.length ([]:List (List A8))),.osl 4 2 0 (l31.length),.d (.int .i64 0)]),some (.map true false (Er Aj Ae number_9)),some (.arr 1 (List.map (eL Ai) ([]:List (List A8)))),some (.narr 2 (l31.map Ac))]⟩
def N0:(List (Ab×Int))->Ex->St->Prop:=xX 0 0 (λ (y:(List (Ab×Int)))=>JcK p0_ p1_ r52 l31 y)
def H4:((List (Ab×Int))×Int)->St:=(λ (x:((List (Ab×Int))×Int))=>JcJ p0_ p1_ r52 l31 x.1 x.2)
def JcL:St:=⟨(2,.ptr 0 0)::(5,.ptr 1 0)::(6,.mp 2)::(56,.d (.sl (r52.map Aj)))::(57,.d (.int .i64 ((r52.length:Nat):Int)))::(58,.d (.int .i64 x_54))::[],[some (.box (AK p0_)),some (.box (G7 w_1 (.osl 3 1 0 (w_1.Arcs.length)) (.osl 4 2 0 (w_1.Columns.length)))),some (.map true false (Er Aj Ae y62)),some (.narr 1 (w_1.Arcs.map (nL 2 Ai))),some (.narr 2 (w_1.Columns.map Ac))]⟩
def JcM:St:=⟨(5,.ptr 0 0)::[],[some (.box (G7 w_2 (.osl 1 1 0 (w_2.Arcs.length)) (.osl 2 2 0 (w_2.Columns.length)))),some (.narr 1 (w_2.Arcs.map (nL 2 Ai))),some (.narr 2 (w_2.Columns.map Ac))]⟩
def JcN:St:=⟨(2,.ptr 0 0)::(5,.ptr 1 0)::(6,.mp 2)::(9,.d (.int .i64 x_54))::(10,.ptr 3 0)::(56,.d (.sl (r52.map Aj)))::(57,.d (.int .i64 ((r52.length:Nat):Int)))::(58,.d (.int .i64 x_54))::(65,.d (.int .i64 ((p0_.Rules.length:Nat):Int)))::(66,.d (.int .i64 x_55))::[],[some (.box (AK p0_)),some (.box (G7 w_3 (.osl 4 1 0 (w_3.Arcs.length)) (.osl 5 2 0 (w_3.Columns.length)))),some (.map true false (Er Aj Ae y62)),some (.box (Je x86)),some (.narr 1 (w_3.Arcs.map (nL 2 Ai))),some (.narr 2 (w_3.Columns.map Ac))]⟩
def JcO:St:=⟨(2,.ptr 0 0)::(5,.ptr 1 0)::(6,.mp 2)::(56,.d (.sl (r52.map Aj)))::(57,.d (.int .i64 ((r52.length:Nat):Int)))::(58,.d (.int .i64 x_54))::[],[some (.box (AK p0_)),some (.box (G7 w_4 (.osl 3 1 0 (w_4.Arcs.length)) (.osl 4 2 0 (w_4.Columns.length)))),some (.map true false (Er Aj Ae y62)),some (.narr 1 (w_4.Arcs.map (nL 2 Ai))),some (.narr 2 (w_4.Columns.map Ac))]⟩
def JcP:St:=⟨(2,.ptr 0 0)::(5,.ptr 1 0)::(6,.mp 2)::(9,.d (.int .i64 x_54))::(10,.ptr 3 0)::(56,.d (.sl (r52.map Aj)))::(57,.d (.int .i64 ((r52.length:Nat):Int)))::(58,.d (.int .i64 x_54))::(65,.d (.int .i64 ((p0_.Rules.length:Nat):Int)))::(66,.d (.int .i64 x_55))::[],[some (.box (AK p0_)),some (.box (G7 w_5 (.osl 4 1 0 (w_5.Arcs.length)) (.osl 5 2 0 (w_5.Columns.length)))),some (.map true false (Er Aj Ae y62)),some (.box (Je x86)),some (.narr 1 (w_5.Arcs.map (nL 2 Ai))),some (.narr 2 (w_5.Columns.map Ac))]⟩
def N3:Af->Ex->St->Prop:=xX 0 4 (λ (y:Af)=>JcO p0_ r52 y62 x_54 y)
def H5:(Af×Int)->St:=(λ (x:(Af×Int))=>JcN p0_ r52 y62 x_54 x86 x.1 x.2)
def N4:Af->Ex->St->Prop:=xX 0 2 (λ (y:Af)=>JcM y)
def H6:(Af×Int)->St:=(λ (x:(Af×Int))=>JcL p0_ r52 y62 x.1 x.2)
variable {p0_ p1_ x_52 r52 l31 number_8 x_53 number_9 y62 w_1 x_54 w_2 x86 w_3 x_55 w_4 w_5}
theorem Nb (x:((List (Ab×Int))×Int)) (z:(((List (Ab×Int))×Int)⊕(List (Ab×Int)))) (H:Eu n p0_ p1_ r52 l31 x.1 x.2=some z):WP (cxk 100 0) (Aw Tryz.f61) [1,1,1,0,1,0,0] (Au 0 (H4 p0_ p1_ r52 l31) (N0 p0_ p1_ r52 l31) z) (H4 p0_ p1_ r52 l31 x):=by
 obtain ⟨number_8,x_53⟩:=x
 refine sr (ck 1 (en (sq (cn H (λ H=>?_) (λ H=>?_)))))
 ·exact sk (qz (sq (bk 1 (sr (ck 1 (bx H λ x85 h221 H=>sp (Am Aj h221) (ck 4 (en (rz (ck 3 (sp (Rf (enc:=Ae) (encK:=Aj) (k:=2) (e1:=λ x=>.int .i64 x) (m:=number_8) (l:=[.d (.int .i64 x85.Mode),.d (.int .i64 x85.Last),.d (.int .u8 x85.Need)]) (key:=x85) (y:=x_53) (v:=.d (.int .i64 x_53)) (vz:=[.int .i64 0]) Ss) (ae (qN (qz (rz (ck 2 (ae (by cases H;exact og (gP [2,5,6,33,34,35] [0,1,2,3,4] (po1 (po1 (po1 (po1 (pn1 Ac l31 (Pl.z)))))))))))))))))))))))))
 ·exact ex 0 (qx (by cases H;exact xo rfl (gP [2,5,6] [0,1,2,3,4] (po1 (po1 (po1 (po1 (pn1 Ac l31 (Pl.z)))))))))
theorem Nc (x:(Af×Int)) (z:((Af×Int)⊕Af)) (H:Ew n p0_ r52 y62 x_54 x86 x.1 x.2=some z):WP (cxk 100 0) (Aw Tryz.f61) [1,1,1,1,1,0,1,0,0,1,1,0,0,1,1,0,0] (Au 0 (H5 p0_ r52 y62 x_54 x86) (N3 p0_ r52 y62 x_54) z) (H5 p0_ r52 y62 x_54 x86 x):=by
 obtain ⟨w_3,x_55⟩:=x
 refine sr (ck 1 (en (sq (cn H (λ H=>?_) (λ H=>?_)))))
 ·refine sk (qz (sj (λ (x:Af)=>JcP p0_ r52 y62 x_54 x86 x_55 x) (λ (x:Af)=>Dr n x_55 x) z ?_ (λ hFTr_newWriter_J1=>?_)))
  ·intro w_5 H
   exact rz (ck 2 (ae (by cases H;exact og (gP [2,5,6,9,10,56,57,58,65,66] [0,1,2,3,4,5] (po1 (po1 (po1 (po1 (pn1 (nL 2 Ai) w_5.Arcs (pn1 Ac w_5.Columns (Pl.z)))))))))))
  refine bk 5 (sr (ck 2 (en (sr (ck 3 (bx H λ r53 h225 H=>ca false (L6 h225) (ck 6 (en (sr (ck 1 (en (cn H (λ H=>?_) (λ H=>?_)))))))))))))
  ·exact bx H λ x87 h226 H=>rg (tr (so1 (encN:=(nL 2 Ai)) 4 1 h226) (sno (encN:=(nL 2 Ai)) (enc:=Ai) h226 [.own 2 (x87.map Ai)] x87 1 4 0 2)) (ck 10 (sp (Az 4 1 h226) (sp (Ci (encN:=(nL 2 Ai)) (row:=[.osl 7 2 0 (x87.length)]) (k:=4) (sz:=1) (off:=0) (t:=ty 141) (v:=.osl 7 2 0 (x87.length)) h226) (ck 3 (sp (So (enc:=Ae) (encK:=Aj) (k:=2) (e1:=λ x=>.int .i64 x) (m:=y62) (l:=[.d (.int .i64 r53.1.Mode),.d (.int .i64 r53.1.Last),.d (.int .u8 r53.1.Need)]) (key:=r53.1) (z:=0) (vz:=[.int .i64 0]) Ss false) (ck 2 (bx H λ l33 h227 H=>sp (B5 Ai 7 2 h227) (sp (Az 4 1 h226) (sp (LU (encN:=(nL 2 Ai)) (row:=[.osl 7 2 0 (x87.length)]) (row':=[.osl 9 2 0 (l33.length)]) (k:=4) (sz:=1) (off:=0) (t:=ty 141) (v:=.osl 9 2 0 (l33.length)) h226) (ae (qN (qs (tr (tr (tr (tr (tr (sni (encN:=(nL 2 Ai)) (xs:=w_3.Arcs) (n:=x_54) (enc:=Ai) [.osl 9 2 0 (l33.length)] l33 1 4 0 9 2) (scl (encN:=(nL 2 Ai)) (xss:=w_3.Arcs) x_54 [.own 2 (l33.map Ai)] 1 4 l33)) (sn 80 4 1 (lsS w_3.Arcs x_54.toNat l33))) (sn 85 4 1 (lsS w_3.Arcs x_54.toNat l33))) (snc 1 5 4 1 (lsS w_3.Arcs x_54.toNat l33))) (gP [2,5,6,9,10,56,57,58,65,66] [0,1,2,3,4,5] (po1 (po1 (po1 (po1 (pn1 (nL 2 Ai) (List.set w_3.Arcs x_54.toNat l33) (pn1 Ac w_3.Columns (Pl.z))))))))) (hFTr_newWriter_J1 ({ T:=w_3.T,S:=w_3.S,States:=w_3.States,Arcs:=List.set w_3.Arcs x_54.toNat l33,Columns:=w_3.Columns,Last:=w_3.Last }:Af) H)))))))))))))
  ·exact sk (qN (qs (gP [2,5,6,9,10,56,57,58,65,66] [0,1,2,3,4,5] (po1 (po1 (po1 (po1 (pn1 (nL 2 Ai) w_3.Arcs (pn1 Ac w_3.Columns (Pl.z)))))))) (hFTr_newWriter_J1 w_3 H)))
 ·exact ex 4 (qx (by cases H;exact xo rfl (gP [2,5,6,56,57,58] [0,1,2,4,5] (po1 (po1 (po1 (pn1 (nL 2 Ai) w_3.Arcs (pn1 Ac w_3.Columns (Pl.z)))))))))
theorem Nd (x:(Af×Int)) (z:((Af×Int)⊕Af)) (H:Ey n p0_ r52 y62 x.1 x.2=some z):WP (cxk 100 0) (Aw Tryz.f61) [1,1,1,1,1,0,1,0,0] (Au 0 (H6 p0_ r52 y62) (N4) z) (H6 p0_ r52 y62 x):=by
 obtain ⟨w_1,x_54⟩:=x
 refine sr (ck 1 (en (sq (cn H (λ H=>?_) (λ H=>?_)))))
 ·exact sk (qz (sq (bk 3 (sr (ck 1 (bx H λ x86 h224 H=>sp (Am Aj h224) (ck 4 (en (sr (ck 2 (sp (AB An p0_.Rules) (ck 1 (en (bk 4 (bx H λ y63 h228 H=>lX Nc h228 (gP [2,5,6,9,10,56,57,58,65,66] [0,1,2,5,3,4] (po1 (po1 (po1 (po1 (pn1 (nL 2 Ai) w_1.Arcs (pn1 Ac w_1.Columns (Pl.z)))))))) rfl λ s hE50=>qH (qN (qs (hE50) (rz (ck 2 (ae (by cases H;exact og (gP [2,5,6,56,57,58] [0,1,2,3,4] (po1 (po1 (po1 (pn1 (nL 2 Ai) y63.Arcs (pn1 Ac y63.Columns (Pl.z))))))))))))))))))))))))))))
 ·exact ex 2 (qx (by cases H;exact xo rfl (gP [5] [1,3,4] (po1 (pn1 (nL 2 Ai) w_1.Arcs (pn1 Ac w_1.Columns (Pl.z)))))))
theorem PY {z} (H:GM n p0_ p1_=some z):BD Tryz.prog 61 [.agg (AK p0_),.d (.str p1_)] [] 0 (.ptr 0 0) [some (.box (Al z (.osl 1 2 0 (z.Columns.length)))),some (.narr 2 (z.Columns.map Ac))]:=by
 exact fL 100 0 (JcH p0_ p1_) Tryz.func61 (sr (ck 2 (en (sr (ck 3 (bx H λ r52 h219 H=>ca false (Nw h219) (ck 3 (bx H λ l31 h220 H=>sp (Sq 2 (ez:=[.nil,.nil]) h220) (ck 3 (en (sq (rg (tr (tr (U7 (encN:=Ac) (sz:=2) (z:=[.nil,.nil]) (n:=(AE .i64 ((p1_.length:Nat):Int) 1)) 1 (MG h220) (by kernel_rfl) (by kernel_rfl)) (sn 21 1 2 (GJ h220))) (snc 2 6 1 2 (GJ h220))) (ck 4 (sp (AB Aj r52) (ck 2 (en (sq (sr (ck 4 (sp (AB Aj r52) (ck 1 (en (bk 0 (bx H λ y62 h222 H=>lX Nb h222 (tr (BL 2 5 1 (by kernel_rfl)) (gP [2,5,6,33,34,35] [0,2,3,4,1] (po1 (po1 (po1 (po1 (pn1 Ac l31 (Pl.z)))))))) rfl λ s hE49=>qH (qs (hE49) (sr (ck 5 (sp (AB Aj r52) (bx H λ l32 h223 H=>sp (Sq 1 (ez:=[.nil]) h223) (ck 3 (en (sq (sq (rg (tr (tr (U7 (encN:=(nL 2 Ai)) (sz:=1) (z:=[.nil]) (n:=((r52.length:Nat):Int)) 5 (MG h223) (by kernel_rfl) (by kernel_rfl)) (sn 50 5 1 (GJ h223))) (snc 1 5 5 1 (GJ h223))) (ck 4 (sp (AB Aj r52) (ck 1 (en (bk 2 (bx H λ y64 h229 H=>lX Nd h229 (gP [2,5,6,56,57,58] [0,1,2,5,4] (po1 (po1 (po1 (pn1 (nL 2 Ai) l32 (pn1 Ac l31 (Pl.z))))))) rfl λ s hE51=>qH (qs (hE51) (sr (ck 2 (en (re (by cases H;exact pL (rl (s':=JcI z) (tr (ON (encN:=(nL 2 Ai)) (encD:=(eL Ai)) (xss:=z.Arcs) (sz:=1) 0 5 1 (by kernel_rfl) (by kernel_rfl) (λ _=>rfl) (λ _=>rfl)) (gP [4] [0,2] (po1 (pn1 Ac z.Columns (Pl.z))))))))))))))))))))))))))))))))))))))))))))))))))))
end
section
variable (p0_:Int) (p1_:Int) (b2_:Af) (o0_:(List (List Bool))) (x_56:Af) (x_57:(List (List Bool)))
def JcQ:St:=⟨(0,.d (.int .i64 p0_))::(1,.d (.int .i64 p1_))::(2,.eptr 0 1 0 0)::(3,.ptr 1 0)::[],[some (.narr 1 (o0_.map (nL 1 eB))),some (.box [.ptr 2 0]),some (.box (Al b2_ (.osl 3 2 0 (b2_.Columns.length)))),some (.narr 2 (b2_.Columns.map Ac))]⟩
def WX:St:=⟨[],[some (.narr 1 (x_57.map (nL 1 eB))),some (.box [.ptr 2 0]),some (.box (Al x_56 (.osl 3 2 0 (x_56.Columns.length)))),some (.narr 2 (x_56.Columns.map Ac))]⟩
variable {p0_ p1_ b2_ o0_ x_56 x_57}
theorem Gc {z} (H:CL n p0_ p1_ b2_ o0_=some z):BD Tryz.prog 76 [.d (.int .i64 p0_),.d (.int .i64 p1_),.eptr 0 1 0 0,.ptr 1 0] [some (.narr 1 (o0_.map (nL 1 eB))),some (.box [.ptr 2 0]),some (.box (Al b2_ (.osl 3 2 0 (b2_.Columns.length)))),some (.narr 2 (b2_.Columns.map Ac))] 4 (.tup []) [some (.narr 1 (z.2.map (nL 1 eB))),some (.box [.ptr 2 0]),some (.box (Al z.1 (.osl 3 2 0 (z.1.Columns.length)))),some (.narr 2 (z.1.Columns.map Ac))]:=by
 refine fL 37 4 (JcQ p0_ p1_ b2_ o0_) Tryz.func76 (sq (bx H λ x88 h230 H=>rg (tr (so1 (encN:=(nL 1 eB)) 0 1 h230) (sno (encN:=(nL 1 eB)) (enc:=eB) h230 [.own 1 (x88.map eB)] x88 1 0 0 1)) (ck 2 (bx H λ gd5 h231 H=>sp (U9 0 1 0 5 (j:=0) h231) (sp (Ci (encN:=(nL 1 eB)) (row:=[.osl 4 1 0 (x88.length)]) (k:=0) (sz:=1) (off:=0) (t:=ty 113) (v:=.osl 4 1 0 (x88.length)) h230) (ck 1 (en (sr (ck 2 (bx H λ x89 h232 H=>sp (Az 4 1 h232) (sp (CJ eB 4 0 (ty 4) h232) (ck 1 (en (cn H (λ H=>?_) (λ H=>?_)))))))))))))))
 ·exact sr (ck 2 (bx H λ x90 h233 H=>sp (Az 4 1 h233) (bx H λ l34 h234 H=>stA eB 4 0 (ty 4) h233 h234 (en (bx H λ x91 h235 H=>rg (tr (tr (tr (tr (tr (tr (tr (tr (sn 10 4 1 (Bg h234)) (sn 6 4 1 (Bg h234))) (sn 11 4 1 (Bg h234))) (sn 16 4 1 (Bg h234))) (snr (encN:=(nL 1 eB)) (xs:=o0_) (n:=By p0_ 5) [.osl 4 1 0 (x88.length)] 1 0 0 4 1 (Bg h234))) (sni (encN:=(nL 1 eB)) (xs:=o0_) (n:=By p0_ 5) (enc:=eB) [.osl 4 1 0 (l34.length)] l34 1 0 0 4 1)) (scl (encN:=(nL 1 eB)) (xss:=o0_) (By p0_ 5) [.own 1 (l34.map eB)] 1 0 l34)) (so1 (encN:=Ac) 3 2 h235)) (sno (encN:=Ac) (enc:=Ae) h235 [.own 1 (x91.States.map Ae),.own 1 (x91.Costs.map Ae)] x91.States 2 3 0 1)) (ck 10 (sp (Az 3 2 h235) (ck 1 (sp (Ci (encN:=Ac) (row:=[.osl 5 1 0 (x91.States.length),.own 1 (x91.Costs.map Ae)]) (k:=3) (sz:=2) (off:=0) (t:=ty 35) (v:=.osl 5 1 0 (x91.States.length)) h235) (ck 2 (bx H λ l35 h236 H=>sp (B5 Ae 5 1 h236) (sp (Az 3 2 h235) (ck 1 (sp (LU (encN:=Ac) (row:=[.osl 5 1 0 (x91.States.length),.own 1 (x91.Costs.map Ae)]) (row':=[.osl 7 1 0 (l35.length),.own 1 (x91.Costs.map Ae)]) (k:=3) (sz:=2) (off:=0) (t:=ty 35) (v:=.osl 7 1 0 (l35.length)) h235) (ae (by cases H;exact pL' (rl (s':=WX ({ T:=b2_.T,S:=b2_.S,States:=b2_.States,Arcs:=b2_.Arcs,Columns:=List.set b2_.Columns p0_.toNat ({ States:=l35,Costs:=x91.Costs }:AC),Last:=b2_.Last }:Af) (List.set o0_ (Int.toNat (By p0_ 5)) l34)) (tr (tr (tr (tr (tr (sni (encN:=Ac) (xs:=b2_.Columns) (n:=p0_) (enc:=Ae) [.osl 7 1 0 (l35.length),.own 1 (x91.Costs.map Ae)] l35 2 3 0 7 1) (scl (encN:=Ac) (xss:=b2_.Columns) p0_ [.own 1 (l35.map Ae),.own 1 (x91.Costs.map Ae)] 2 3 ({ States:=l35,Costs:=x91.Costs }:AC))) (sn 22 3 2 (lsS b2_.Columns p0_.toNat ({ States:=l35,Costs:=x91.Costs }:AC)))) (sn 27 3 2 (lsS b2_.Columns p0_.toNat ({ States:=l35,Costs:=x91.Costs }:AC)))) (snc 2 6 3 2 (lsS b2_.Columns p0_.toNat ({ States:=l35,Costs:=x91.Costs }:AC)))) (gP [] [0,1,2,3] (pn1 (nL 1 eB) (List.set o0_ (Int.toNat (By p0_ 5)) l34) (po1 (po1 (pn1 Ac (List.set b2_.Columns p0_.toNat ({ States:=l35,Costs:=x91.Costs }:AC)) (Pl.z))))))))))))))))))))))))
 ·exact sk (by cases H;exact pL' (rl (s':=WX b2_ (List.set o0_ (Int.toNat (By p0_ 5)) x88)) (tr (tr (sni (encN:=(nL 1 eB)) (xs:=o0_) (n:=By p0_ 5) (enc:=eB) [.osl 4 1 0 (x88.length)] x88 1 0 0 4 1) (scl (encN:=(nL 1 eB)) (xss:=o0_) (By p0_ 5) [.own 1 (x88.map eB)] 1 0 x88)) (gP [] [0,1,2,3] (pn1 (nL 1 eB) (List.set o0_ (Int.toNat (By p0_ 5)) x88) (po1 (po1 (pn1 Ac b2_.Columns (Pl.z)))))))))
end
section
variable (p1_:Int) (p2_:Int) (b0_:Af) (x_58:Int) (x_59:Bool)
def JcR:St:=⟨(0,.ptr 0 0)::(1,.d (.int .i64 p1_))::(2,.d (.int .i64 p2_))::[],[some (.box (Al b0_ (.osl 1 2 0 (b0_.Columns.length)))),some (.narr 2 (b0_.Columns.map Ac))]⟩
def JcS:St:=⟨(6,.d (.int .i64 x_58))::(7,.d (.bool x_59))::[],[some (.box (Al b0_ (.osl 1 2 0 (b0_.Columns.length)))),some (.narr 2 (b0_.Columns.map Ac))]⟩
variable {p1_ p2_ b0_ x_58 x_59}
theorem D0 {z} (H:Ca n p1_ p2_ b0_=some z):BD Tryz.prog 77 [.ptr 0 0,.d (.int .i64 p1_),.d (.int .i64 p2_)] [some (.box (Al b0_ (.osl 1 2 0 (b0_.Columns.length)))),some (.narr 2 (b0_.Columns.map Ac))] 2 (.tup [.d (.int .i64 z.1),.d (.bool z.2)]) [some (.box (Al b0_ (.osl 1 2 0 (b0_.Columns.length)))),some (.narr 2 (b0_.Columns.map Ac))]:=by
 exact fL 30 2 (JcR p1_ p2_ b0_) Tryz.func77 (sr (ck 2 (en (sr (ck 6 (bx H λ x92 h237 H=>sp (Am An h237) (ck 3 (en (sr (ck 9 (bx H λ s8 h238 H=>sp (Hw h238) (ck 1 (bx H λ r54 h239 H=>ca true (JK h239) (ck 2 (en (re (by cases H;exact pL (rl (s':=JcS b0_ (AE .i64 p1_ ((x92.Print.length:Nat):Int)) r54) (gP [6,7] [0,1] (po1 (pn1 Ac b0_.Columns (Pl.z))))))))))))))))))))))
end
theorem JcT {n:Nat} {o0_:List Int} {z:List Int} (H:Y4 n o0_=some z):BD Tryz.prog 78 [.osl 0 1 0 (o0_.length)] [some (.arr 1 (o0_.map Ae))] 1 (.tup []) [some (.arr 1 (z.map Ae))]:=Z0 Tryz.laysSort ⟨_,_,Tryz.func78,rfl,rfl⟩ H
section
variable (b0_:Af) (x_60:Af) (known_5:(List (List Bool))) (x_61:Int) (known_6:(List (List Bool))) (r55:(Af×(List (List Bool)))) (w_6:Af) (known_7:(List (List Bool))) (x_62:Int) (x_63:Af) (class_1:Int) (w_7:Af) (known_8:(List (List Bool))) (i_7:Int) (w_8:Af) (known_9:(List (List Bool))) (x96:Int) (w_9:Af) (x97:(List A8)) (w_10:Af) (known_10:(List (List Bool))) (x_64:Int) (w_11:Af) (known_11:(List (List Bool))) (w_12:Af) (known_12:(List (List Bool)))
def JcU:St:=⟨(0,.ptr 0 0)::[],[some (.box (Al b0_ (.osl 1 2 0 (b0_.Columns.length)))),some (.narr 2 (b0_.Columns.map Ac))]⟩
def JcV:St:=⟨[],[some (.box (Al x_60 (.osl 1 2 0 (x_60.Columns.length)))),some (.narr 2 (x_60.Columns.map Ac))]⟩
def JcW:St:=⟨(1,.ptr 2 0)::(2,.eptr 3 1 0 0)::(13,.d (.int .i64 x_61))::[],[some (.box (Al b0_ (.osl 1 2 0 (b0_.Columns.length)))),some (.narr 2 (b0_.Columns.map Ac)),some (.box [.ptr 0 0]),some (.narr 1 (known_5.map (nL 1 eB)))]⟩
def JcX:St:=⟨(1,.ptr 2 0)::(2,.eptr 3 1 0 0)::[],[some (.box (Al b0_ (.osl 1 2 0 (b0_.Columns.length)))),some (.narr 2 (b0_.Columns.map Ac)),some (.box [.ptr 0 0]),some (.narr 1 (known_6.map (nL 1 eB)))]⟩
def Lq:(List (List Bool))->Ex->St->Prop:=xX 2 0 (λ (y:(List (List Bool)))=>JcX b0_ y)
def Gd:((List (List Bool))×Int)->St:=(λ (x:((List (List Bool))×Int))=>JcW b0_ x.1 x.2)
def JcY:St:=⟨(1,.ptr 2 0)::(2,.eptr 3 1 0 0)::(4,.clo 76 [.eptr 3 1 0 0,.ptr 2 0])::(32,.d (.int .i64 ((r55.1.Columns.length:Nat):Int)))::(33,.d (.int .i64 x_62))::[],[some (.box (Al w_6 (.osl 1 2 0 (w_6.Columns.length)))),some (.narr 2 (w_6.Columns.map Ac)),some (.box [.ptr 0 0]),some (.narr 1 (known_7.map (nL 1 eB)))]⟩
def JcZ:St:=⟨[],[some (.box (Al x_63 (.osl 1 2 0 (x_63.Columns.length)))),some (.narr 2 (x_63.Columns.map Ac))]⟩
def Jc0:St:=⟨(1,.ptr 2 0)::(2,.eptr 3 1 0 0)::(4,.clo 76 [.eptr 3 1 0 0,.ptr 2 0])::(5,.d (.int .i64 x_62))::(6,.d (.int .i64 class_1))::(32,.d (.int .i64 ((r55.1.Columns.length:Nat):Int)))::(33,.d (.int .i64 x_62))::[],[some (.box (Al w_6 (.osl 1 2 0 (w_6.Columns.length)))),some (.narr 2 (w_6.Columns.map Ac)),some (.box [.ptr 0 0]),some (.narr 1 (known_7.map (nL 1 eB)))]⟩
def Jc1:St:=⟨(1,.ptr 2 0)::(2,.eptr 3 1 0 0)::(4,.clo 76 [.eptr 3 1 0 0,.ptr 2 0])::(5,.d (.int .i64 x_62))::(6,.d (.int .i64 class_1))::(7,.d (.int .i64 i_7))::(32,.d (.int .i64 ((r55.1.Columns.length:Nat):Int)))::(33,.d (.int .i64 x_62))::[],[some (.box (Al w_7 (.osl 1 2 0 (w_7.Columns.length)))),some (.narr 2 (w_7.Columns.map Ac)),some (.box [.ptr 0 0]),some (.narr 1 (known_8.map (nL 1 eB)))]⟩
def Jc2:St:=⟨(1,.ptr 2 0)::(2,.eptr 3 1 0 0)::(4,.clo 76 [.eptr 3 1 0 0,.ptr 2 0])::(5,.d (.int .i64 x_62))::(32,.d (.int .i64 ((r55.1.Columns.length:Nat):Int)))::(33,.d (.int .i64 x_62))::[],[some (.box (Al w_8 (.osl 1 2 0 (w_8.Columns.length)))),some (.narr 2 (w_8.Columns.map Ac)),some (.box [.ptr 0 0]),some (.narr 1 (known_9.map (nL 1 eB)))]⟩
def Z9:St:=⟨(1,.ptr 2 0)::(2,.eptr 3 1 0 0)::(4,.clo 76 [.eptr 3 1 0 0,.ptr 2 0])::(5,.d (.int .i64 x_62))::(6,.d (.int .i64 class_1))::(7,.d (.int .i64 i_7))::(8,.d (.int .i64 x96))::(32,.d (.int .i64 ((r55.1.Columns.length:Nat):Int)))::(33,.d (.int .i64 x_62))::[],[some (.box (Al w_9 (.osl 1 2 0 (w_9.Columns.length)))),some (.narr 2 (w_9.Columns.map Ac)),some (.box [.ptr 0 0]),some (.narr 1 (known_8.map (nL 1 eB)))]⟩
def Jaa:St:=⟨(1,.ptr 2 0)::(2,.eptr 3 1 0 0)::(4,.clo 76 [.eptr 3 1 0 0,.ptr 2 0])::(5,.d (.int .i64 x_62))::(6,.d (.int .i64 class_1))::(7,.d (.int .i64 i_7))::(32,.d (.int .i64 ((r55.1.Columns.length:Nat):Int)))::(33,.d (.int .i64 x_62))::(96,.d (.sl (x97.map Ai)))::(97,.d (.int .i64 ((x97.length:Nat):Int)))::(98,.d (.int .i64 x_64))::[],[some (.box (Al w_10 (.osl 1 2 0 (w_10.Columns.length)))),some (.narr 2 (w_10.Columns.map Ac)),some (.box [.ptr 0 0]),some (.narr 1 (known_10.map (nL 1 eB)))]⟩
def Jab:St:=⟨(1,.ptr 2 0)::(2,.eptr 3 1 0 0)::(4,.clo 76 [.eptr 3 1 0 0,.ptr 2 0])::(5,.d (.int .i64 x_62))::(6,.d (.int .i64 class_1))::(7,.d (.int .i64 i_7))::(32,.d (.int .i64 ((r55.1.Columns.length:Nat):Int)))::(33,.d (.int .i64 x_62))::[],[some (.box (Al w_11 (.osl 1 2 0 (w_11.Columns.length)))),some (.narr 2 (w_11.Columns.map Ac)),some (.box [.ptr 0 0]),some (.narr 1 (known_11.map (nL 1 eB)))]⟩
def Jac:St:=⟨(1,.ptr 2 0)::(2,.eptr 3 1 0 0)::(4,.clo 76 [.eptr 3 1 0 0,.ptr 2 0])::(5,.d (.int .i64 x_62))::(6,.d (.int .i64 class_1))::(7,.d (.int .i64 i_7))::(32,.d (.int .i64 ((r55.1.Columns.length:Nat):Int)))::(33,.d (.int .i64 x_62))::(96,.d (.sl (x97.map Ai)))::(97,.d (.int .i64 ((x97.length:Nat):Int)))::(98,.d (.int .i64 x_64))::[],[some (.box (Al w_12 (.osl 1 2 0 (w_12.Columns.length)))),some (.narr 2 (w_12.Columns.map Ac)),some (.box [.ptr 0 0]),some (.narr 1 (known_12.map (nL 1 eB)))]⟩
def Lr:(Af×(List (List Bool)))->Ex->St->Prop:=xX 2 6 (λ (y:(Af×(List (List Bool))))=>Jab r55 x_62 class_1 i_7 y.1 y.2)
def Ge:(Af×(List (List Bool))×Int)->St:=(λ (x:(Af×(List (List Bool))×Int))=>Jaa r55 x_62 class_1 i_7 x97 x.1 x.2.1 x.2.2)
def Ls:(Af×(List (List Bool)))->Ex->St->Prop:=xX 2 4 (λ (y:(Af×(List (List Bool))))=>Jc2 r55 x_62 y.1 y.2)
def Gf:(Af×(List (List Bool))×Int)->St:=(λ (x:(Af×(List (List Bool))×Int))=>Jc1 r55 x_62 class_1 x.1 x.2.1 x.2.2)
def Lt:Af->Ex->St->Prop:=xX 2 2 (λ (y:Af)=>JcZ y)
def Gg:(Af×(List (List Bool))×Int)->St:=(λ (x:(Af×(List (List Bool))×Int))=>JcY r55 x.1 x.2.1 x.2.2)
variable {b0_ x_60 known_5 x_61 known_6 r55 w_6 known_7 x_62 x_63 class_1 w_7 known_8 i_7 w_8 known_9 x96 w_9 x97 w_10 known_10 x_64 w_11 known_11 w_12 known_12}
theorem Km (x:((List (List Bool))×Int)) (z:(((List (List Bool))×Int)⊕(List (List Bool)))) (H:De n b0_ x.1 x.2=some z):WP (cxk 131 2) (Aw Tryz.f62) [1,1,0,1,0,0] (Au 2 (Gd b0_) (Lq b0_) z) (Gd b0_ x):=by
 obtain ⟨known_5,x_61⟩:=x
 refine sr (ck 1 (en (sq (cn H (λ H=>?_) (λ H=>?_)))))
 ·exact sk (qz (sq (bk 1 (sr (ck 2 (en (bx H λ x93 h240 H=>rg (so1 (encN:=(nL 1 eB)) 3 1 h240) (ck 5 (sp (AB Aj b0_.States) (bx H λ l36 h241 H=>sp (Uh eB 1 h241) (bx H λ gd6 h242 H=>sp (U9 3 1 0 5 (j:=0) h242) (sp (LU (encN:=(nL 1 eB)) (row:=[.own 1 (x93.map eB)]) (row':=[.osl 4 1 0 (l36.length)]) (k:=3) (sz:=1) (off:=0) (t:=ty 113) (v:=.osl 4 1 0 (l36.length)) h240) (ae (qN (qz (rg (tr (sni (encN:=(nL 1 eB)) (xs:=known_5) (n:=x_61) (enc:=eB) [.osl 4 1 0 (l36.length)] l36 1 3 0 4 1) (scl (encN:=(nL 1 eB)) (xss:=known_5) x_61 [.own 1 (l36.map eB)] 1 3 l36)) (ck 2 (ae (by cases H;exact og (gP [1,2,13] [0,1,2,3] (po1 (pn1 Ac b0_.Columns (po1 (pn1 (nL 1 eB) (List.set known_5 x_61.toNat l36) (Pl.z)))))))))))))))))))))))))
 ·exact ex 0 (qx (by cases H;exact xo rfl (gP [1,2] [0,1,2,3] (po1 (pn1 Ac b0_.Columns (po1 (pn1 (nL 1 eB) known_5 (Pl.z))))))))
theorem Ko (x:(Af×(List (List Bool))×Int)) (z:((Af×(List (List Bool))×Int)⊕(Af×(List (List Bool))))) (H:Df n r55 x_62 class_1 i_7 x97 x.1 x.2.1 x.2.2=some z):WP (cxk 131 2) (Aw Tryz.f62) [1,1,1,1,1,1,0,0,1,1,0,0,1,1,1,0,1,0,0,1,0,0,1,1,1,0,0] (Au 2 (Ge r55 x_62 class_1 i_7 x97) (Lr r55 x_62 class_1 i_7) z) (Ge r55 x_62 class_1 i_7 x97 x):=by
 obtain ⟨w_10,known_10,x_64⟩:=x
 refine sr (ck 1 (en (sq (cn H (λ H=>?_) (λ H=>?_)))))
 ·refine sk (qz (sj (λ (x:(Af×(List (List Bool))))=>Jac r55 x_62 class_1 i_7 x97 x_64 x.1 x.2) (λ (x:(Af×(List (List Bool))))=>Cv n x_64 x.1 x.2) z ?_ (λ hFTr_writer_reach_J3=>?_)))
  ·rintro ⟨w_12,known_12⟩ H
   exact rz (ck 2 (ae (by cases H;exact og (gP [1,2,4,5,6,7,32,33,96,97,98] [0,1,2,3] (po1 (pn1 Ac w_12.Columns (po1 (pn1 (nL 1 eB) known_12 (Pl.z)))))))))
  refine bk 7 (sr (bx H λ x98 h249 H=>sp (Am Ai h249) (ck 3 (en (sr (ck 4 (bx H λ r56 h250 H=>ltP [0,1] (D0 h250) (po1 (pn1 Ac w_10.Columns (Pl.z))) (tb (f:=Dy (Cu [0,1] 5 2)) [some (.box (Al w_10 (.osl 1 2 0 (w_10.Columns.length)))),some (.narr 2 (w_10.Columns.map Ac)),some (.box [.ptr 0 0]),some (.narr 1 (known_10.map (nL 1 eB))),some (.box [.d (.int .i64 x98.Rule),.d (.int .i64 x98.To)])] (po1 (pn1 Ac w_10.Columns (po1 (po1 (po1 (Pl.z)))))) (ck 5 (en (sr (ck 1 (en (cn H (λ H=>?_) (λ H=>?_)))))))))))))))
  ·exact rz (ck 4 (bx H λ r57 h251 H=>xcP (xok _ _) [3,2,0,1] (Gc h251) (pn1 (nL 1 eB) known_10 (po1 (po1 (pn1 Ac w_10.Columns (Pl.z))))) (tb (f:=Dy (Cu [3,2,0,1] 5 4)) [some (.box (Al r57.1 (.osl 1 2 0 (r57.1.Columns.length)))),some (.narr 2 (r57.1.Columns.map Ac)),some (.box [.ptr 0 0]),some (.narr 1 (r57.2.map (nL 1 eB))),some (.box [.d (.int .i64 x98.Rule),.d (.int .i64 x98.To)])] (po1 (pn1 Ac r57.1.Columns (po1 (pn1 (nL 1 eB) r57.2 (po1 (Pl.z)))))) (ae (qN (qs (gP [1,2,4,5,6,7,32,33,96,97,98] [0,1,2,3] (po1 (pn1 Ac r57.1.Columns (po1 (pn1 (nL 1 eB) r57.2 (Pl.z)))))) (hFTr_writer_reach_J3 (r57.1,r57.2) H)))))))
  ·exact sk (qN (qs (gP [1,2,4,5,6,7,32,33,96,97,98] [0,1,2,3] (po1 (pn1 Ac w_10.Columns (po1 (pn1 (nL 1 eB) known_10 (Pl.z)))))) (hFTr_writer_reach_J3 (w_10,known_10) H)))
 ·exact ex 6 (qx (by cases H;exact xo rfl (gP [1,2,4,5,6,7,32,33] [0,1,2,3] (po1 (pn1 Ac w_10.Columns (po1 (pn1 (nL 1 eB) known_10 (Pl.z))))))))
theorem Kp (x:(Af×(List (List Bool))×Int)) (z:((Af×(List (List Bool))×Int)⊕(Af×(List (List Bool))))) (H:Dg n r55 x_62 class_1 x.1 x.2.1 x.2.2=some z):WP (cxk 131 2) (Aw Tryz.f62) [1,1,1,1,1,1,0,0,1,1,0,0,1,1,1,0,1,0,0] (Au 2 (Gf r55 x_62 class_1) (Ls r55 x_62) z) (Gf r55 x_62 class_1 x):=by
 obtain ⟨w_7,known_8,i_7⟩:=x
 refine sq (sq (bx H λ x94 h245 H=>rg (tr (so1 (encN:=Ac) 1 2 h245) (sno (encN:=Ac) (enc:=Ae) h245 [.own 1 (x94.States.map Ae),.own 1 (x94.Costs.map Ae)] x94.States 2 1 0 1)) (ck 6 (sp (Az 1 2 h245) (ck 1 (sp (Ci (encN:=Ac) (row:=[.osl 4 1 0 (x94.States.length),.own 1 (x94.Costs.map Ae)]) (k:=1) (sz:=2) (off:=0) (t:=ty 35) (v:=.osl 4 1 0 (x94.States.length)) h245) (ck 2 (en (cn H (λ H=>?_) (λ H=>?_))))))))))
 ·refine sk (qz (sq (bk 5 (sq (bx H λ x95 h246 H=>rg (tr (tr (tr (tr (tr (sni (encN:=Ac) (xs:=w_7.Columns) (n:=x_62) (enc:=Ae) [.osl 4 1 0 (x94.States.length),.own 1 (x94.Costs.map Ae)] x94.States 2 1 0 4 1) (scl (encN:=Ac) (xss:=w_7.Columns) x_62 [.own 1 (x94.States.map Ae),.own 1 (x94.Costs.map Ae)] 2 1 x94)) (sn 54 1 2 (lsS w_7.Columns x_62.toNat x94))) (snc 0 6 1 2 (lsS w_7.Columns x_62.toNat x94))) (so1 (encN:=Ac) 1 2 h246)) (sno (encN:=Ac) (enc:=Ae) h246 [.own 1 (x95.States.map Ae),.own 1 (x95.Costs.map Ae)] x95.States 2 1 0 1)) (ck 5 (sp (Az 1 2 h246) (ck 1 (sp (Ci (encN:=Ac) (row:=[.osl 5 1 0 (x95.States.length),.own 1 (x95.Costs.map Ae)]) (k:=1) (sz:=2) (off:=0) (t:=ty 35) (v:=.osl 5 1 0 (x95.States.length)) h246) (ck 1 (bx H λ x96 h247 H=>sp (Az 5 1 h247) (sp (CJ Ae 5 0 (ty 3) h247) (ck 1 (en (sj (λ (x:Af)=>Z9 r55 x_62 class_1 known_8 i_7 x96 x) (λ (x:Af)=>Cw n r55 x_62 class_1 known_8 i_7 x96 x) z ?_ (λ hFTr_writer_reach_J2=>?_))))))))))))))))
  ·intro w_9 H
   exact sr (ck 5 (bx H λ x97 h248 H=>sp (Am (eL Ai) h248) (ck 1 (sp (AB Ai x97) (ck 1 (en (bk 6 (bx H λ y66 h252 H=>lX Ko h252 (gP [1,2,4,5,6,7,32,33,96,97,98] [0,1,2,3] (po1 (pn1 Ac w_9.Columns (po1 (pn1 (nL 1 eB) known_8 (Pl.z)))))) rfl λ s hE53=>qH (qN (qs (hE53) (rz (ck 3 (ae (by cases H;exact og (gP [1,2,4,5,6,7,32,33] [0,1,2,3] (po1 (pn1 Ac y66.1.Columns (po1 (pn1 (nL 1 eB) y66.2 (Pl.z))))))))))))))))))))
  refine sq (rg (tr (tr (tr (tr (sni (encN:=Ac) (xs:=List.set w_7.Columns x_62.toNat x94) (n:=x_62) (enc:=Ae) [.osl 5 1 0 (x95.States.length),.own 1 (x95.Costs.map Ae)] x95.States 2 1 0 5 1) (scl (encN:=Ac) (xss:=List.set w_7.Columns x_62.toNat x94) x_62 [.own 1 (x95.States.map Ae),.own 1 (x95.Costs.map Ae)] 2 1 x95)) (sn 54 1 2 (lsS (List.set w_7.Columns x_62.toNat x94) x_62.toNat x95))) (sn 66 1 2 (lsS (List.set w_7.Columns x_62.toNat x94) x_62.toNat x95))) (snc 0 6 1 2 (lsS (List.set w_7.Columns x_62.toNat x94) x_62.toNat x95))) (ck 5 (bx H λ x99 h253 H=>sp (Am Aj h253) (ck 3 (bx H λ gd7 h254 H=>so (HU h254) (ck 2 (en (cn H (λ H=>?_) (λ H=>?_)))))))))
  ·exact rz (ck 5 (ae (qs (gP [1,2,4,5,6,7,8,32,33] [0,1,2,3] (po1 (pn1 Ac (List.set (List.set w_7.Columns x_62.toNat x94) x_62.toNat x95) (po1 (pn1 (nL 1 eB) known_8 (Pl.z)))))) (hFTr_writer_reach_J2 ({ T:=w_7.T,S:=w_7.S,States:=w_7.States,Arcs:=w_7.Arcs,Columns:=List.set (List.set w_7.Columns x_62.toNat x94) x_62.toNat x95,Last:=x_62 }:Af) H))))
  ·exact sk (qs (gP [1,2,4,5,6,7,8,32,33] [0,1,2,3] (po1 (pn1 Ac (List.set (List.set w_7.Columns x_62.toNat x94) x_62.toNat x95) (po1 (pn1 (nL 1 eB) known_8 (Pl.z)))))) (hFTr_writer_reach_J2 ({ T:=w_7.T,S:=w_7.S,States:=w_7.States,Arcs:=w_7.Arcs,Columns:=List.set (List.set w_7.Columns x_62.toNat x94) x_62.toNat x95,Last:=w_7.Last }:Af) H))
 ·exact ex 4 (qx (by cases H;exact xo rfl (tr (tr (tr (tr (sni (encN:=Ac) (xs:=w_7.Columns) (n:=x_62) (enc:=Ae) [.osl 4 1 0 (x94.States.length),.own 1 (x94.Costs.map Ae)] x94.States 2 1 0 4 1) (scl (encN:=Ac) (xss:=w_7.Columns) x_62 [.own 1 (x94.States.map Ae),.own 1 (x94.Costs.map Ae)] 2 1 x94)) (sn 54 1 2 (lsS w_7.Columns x_62.toNat x94))) (snc 0 6 1 2 (lsS w_7.Columns x_62.toNat x94))) (gP [1,2,4,5,32,33] [0,1,2,3] (po1 (pn1 Ac (List.set w_7.Columns x_62.toNat x94) (po1 (pn1 (nL 1 eB) known_8 (Pl.z)))))))))
theorem Kq (x:(Af×(List (List Bool))×Int)) (z:((Af×(List (List Bool))×Int)⊕Af)) (H:Dh n r55 x.1 x.2.1 x.2.2=some z):WP (cxk 131 2) (Aw Tryz.f62) [1,1,1,1,1,1,0,0] (Au 2 (Gg r55) (Lt) z) (Gg r55 x):=by
 obtain ⟨w_6,known_7,x_62⟩:=x
 refine sr (ck 1 (en (sq (cn H (λ H=>?_) (λ H=>?_)))))
 ·refine sk (qz (sq (bk 3 (sr (ck 2 (en (sr (ck 1 (en (sj (λ (x:Int)=>Jc0 r55 w_6 known_7 x_62 x) (λ (x:Int)=>Cy n r55 w_6 known_7 x_62 x) z ?_ (λ hFTr_writer_reach_J1=>?_)))))))))))
  ·intro class_1 H
   exact sq (sr (ck 1 (en (bk 4 (bx H λ y67 h255 H=>lX Kp h255 (gP [1,2,4,5,6,7,32,33] [0,1,2,3] (po1 (pn1 Ac w_6.Columns (po1 (pn1 (nL 1 eB) known_7 (Pl.z)))))) rfl λ s hE54=>qH (qs (hE54) (sq (bx H λ x100 h256 H=>rg (tr (so1 (encN:=Ac) 1 2 h256) (sno (encN:=Ac) (enc:=Ae) h256 [.own 1 (x100.States.map Ae),.own 1 (x100.Costs.map Ae)] x100.States 2 1 0 1)) (ck 5 (sp (Az 1 2 h256) (ck 1 (sp (Ci (encN:=Ac) (row:=[.osl 4 1 0 (x100.States.length),.own 1 (x100.Costs.map Ae)]) (k:=1) (sz:=2) (off:=0) (t:=ty 35) (v:=.osl 4 1 0 (x100.States.length)) h256) (bx H λ r58 h257 H=>lt [4] (JcT h257) (bx H λ _ h258 H=>en (bx H λ x101 h259 H=>rg (tr (tr (tr (tr (tr (tr (tr (sn 124 4 1 (Ui h258)) (snr (encN:=Ac) (xs:=y67.1.Columns) (n:=x_62) [.osl 4 1 0 (x100.States.length),.own 1 (x100.Costs.map Ae)] 2 1 0 4 1 (Ui h258))) (sni (encN:=Ac) (xs:=y67.1.Columns) (n:=x_62) (enc:=Ae) [.osl 4 1 0 (r58.length),.own 1 (x100.Costs.map Ae)] r58 2 1 0 4 1)) (scl (encN:=Ac) (xss:=y67.1.Columns) x_62 [.own 1 (r58.map Ae),.own 1 (x100.Costs.map Ae)] 2 1 ({ States:=r58,Costs:=x100.Costs }:AC))) (sn 120 1 2 (lsS y67.1.Columns x_62.toNat ({ States:=r58,Costs:=x100.Costs }:AC)))) (snc 0 6 1 2 (lsS y67.1.Columns x_62.toNat ({ States:=r58,Costs:=x100.Costs }:AC)))) (so1 (encN:=(nL 1 eB)) 3 1 h259)) (sno (encN:=(nL 1 eB)) (enc:=eB) h259 [.own 1 (x101.map eB)] x101 1 3 0 1)) (ck 2 (bx H λ gd8 h260 H=>sp (U9 3 1 0 5 (j:=0) h260) (sp (Ci (encN:=(nL 1 eB)) (row:=[.osl 5 1 0 (x101.length)]) (k:=3) (sz:=1) (off:=0) (t:=ty 113) (v:=.osl 5 1 0 (x101.length)) h259) (xz (xok _ _) (xs:=x101) eB (false:Bool) 5 1 (ae (qN (qz (rg (tr (tr (tr (sn 129 5 1 (lrS (x101.length) (false:Bool))) (snr (encN:=(nL 1 eB)) (xs:=y67.2) (n:=By x_62 5) [.osl 5 1 0 (x101.length)] 1 3 0 5 1 (lrS (x101.length) (false:Bool)))) (sni (encN:=(nL 1 eB)) (xs:=y67.2) (n:=By x_62 5) (enc:=eB) [.osl 5 1 0 (List.length (List.replicate (x101.length) (false:Bool)))] (List.replicate (x101.length) (false:Bool)) 1 3 0 5 1)) (scl (encN:=(nL 1 eB)) (xss:=y67.2) (By x_62 5) [.own 1 (List.map eB (List.replicate (x101.length) (false:Bool)))] 1 3 (List.replicate (x101.length) (false:Bool)))) (ck 2 (ae (by cases H;exact og (gP [1,2,4,32,33] [0,1,2,3] (po1 (pn1 Ac (List.set y67.1.Columns x_62.toNat ({ States:=r58,Costs:=x100.Costs }:AC)) (po1 (pn1 (nL 1 eB) (List.set y67.2 (Int.toNat (By x_62 5)) (List.replicate (x101.length) (false:Bool))) (Pl.z))))))))))))))))))))))))))))))))
  refine sr (ck 7 (en (cn H (λ H=>?_) (λ H=>?_))))
  ·exact rz (ck 5 (bx H λ b5 h261 H=>sp (Hv h261) (bx H λ r59 h262 H=>ca false (HG h262) (ck 1 (ae (qs (gP [1,2,4,5,6,32,33] [0,1,2,3] (po1 (pn1 Ac w_6.Columns (po1 (pn1 (nL 1 eB) known_7 (Pl.z)))))) (hFTr_writer_reach_J1 r59 H)))))))
  ·exact sk (qs (gP [1,2,4,5,6,32,33] [0,1,2,3] (po1 (pn1 Ac w_6.Columns (po1 (pn1 (nL 1 eB) known_7 (Pl.z)))))) (hFTr_writer_reach_J1 0 H))
 ·exact ex 2 (qx (by cases H;exact xo rfl (gP [] [0,1] (po1 (pn1 Ac w_6.Columns (Pl.z))))))
theorem Nf {z} (H:Ez n b0_=some z):BD Tryz.prog 62 [.ptr 0 0] [some (.box (Al b0_ (.osl 1 2 0 (b0_.Columns.length)))),some (.narr 2 (b0_.Columns.map Ac))] 2 (.tup []) [some (.box (Al z (.osl 1 2 0 (z.Columns.length)))),some (.narr 2 (z.Columns.map Ac))]:=by
 exact fL 131 2 (JcU b0_) Tryz.func62 (sr (ck 1 (en (sr (ck 1 (en (sq (sq (rg (tr (tr (JeO 3 [.nil,.nil,.nil,.nil,.nil] (by kernel_rfl)) (Jbx (sz:=1) (es:=[[.nil],[.nil],[.nil],[.nil],[.nil]]) 3 (List.map (nL 1 eB) ([[],[],[],[],[]]:List (List Bool))) (by kernel_rfl) (by kernel_rfl))) (JjG 2 3 1 (by kernel_rfl))) (ck 1 (en (bk 0 (bx H λ y65 h243 H=>lX Km h243 (gP [1,2,13] [0,1,2,3] (po1 (pn1 Ac b0_.Columns (po1 (pn1 (nL 1 eB) ([[],[],[],[],[]]:List (List Bool)) (Pl.z)))))) rfl λ s hE52=>qH (qs (hE52) (sr (xm (xok _ _) (ck 1 (en (sr (ck 1 (bx H λ r55 h244 H=>xcP (xok _ _) [3,2,0,1] (Gc h244) (pn1 (nL 1 eB) y65 (po1 (po1 (pn1 Ac b0_.Columns (Pl.z))))) (tb (f:=Dy (Cu [3,2,0,1] 4 4)) [some (.box (Al r55.1 (.osl 1 2 0 (r55.1.Columns.length)))),some (.narr 2 (r55.1.Columns.map Ac)),some (.box [.ptr 0 0]),some (.narr 1 (r55.2.map (nL 1 eB)))] (po1 (pn1 Ac r55.1.Columns (po1 (pn1 (nL 1 eB) r55.2 (Pl.z))))) (en (sr (ck 6 (en (bk 2 (bx H λ y68 h263 H=>lX Kq h263 (gP [1,2,4,32,33] [0,1,2,3] (po1 (pn1 Ac r55.1.Columns (po1 (pn1 (nL 1 eB) r55.2 (Pl.z)))))) rfl λ s hE55=>qH (by cases H;exact pL' (rl (s':=JcV z) (tr (hE55) (gP [] [0,1] (po1 (pn1 Ac z.Columns (Pl.z)))))))))))))))))))))))))))))))))))
end
section
variable (p0_:Int) (p1_:Bool) (b1_0_:Int) (b2_0_:Int) (b3_:Af) (x_65:Af) (x_66:Bool) (x104:(List A8)) (x_67:Af) (better_7:Bool) (x_68:Int) (x_69:Af) (better_8:Bool) (x_70:Af) (better_9:Bool)
def Jc3:St:=⟨(0,.d (.int .i64 p0_))::(1,.d (.bool p1_))::(2,.ptr 0 0)::(3,.ptr 1 0)::(4,.ptr 2 0)::[],[some (.box [.ptr 3 0]),some (.box [.eptr 4 2 (0+Int.toNat b1_0_) 0]),some (.box [.d (.int .i64 b2_0_)]),some (.box (Al b3_ (.osl 4 2 0 (b3_.Columns.length)))),some (.narr 2 (b3_.Columns.map Ac))]⟩
def Jc4:St:=⟨(7,.d (.bool x_66))::[],[some (.box [.ptr 3 0]),some (.box [.eptr 4 2 (0+Int.toNat b1_0_) 0]),some (.box [.d (.int .i64 b2_0_)]),some (.box (Al x_65 (.osl 4 2 0 (x_65.Columns.length)))),some (.narr 2 (x_65.Columns.map Ac))]⟩
def Jc5:St:=⟨(0,.d (.int .i64 p0_))::(1,.d (.bool p1_))::(2,.ptr 0 0)::(3,.ptr 1 0)::(4,.ptr 2 0)::(8,.d (.bool better_7))::(27,.d (.sl (x104.map Ai)))::(28,.d (.int .i64 ((x104.length:Nat):Int)))::(29,.d (.int .i64 x_68))::[],[some (.box [.ptr 3 0]),some (.box [.eptr 4 2 (0+Int.toNat b1_0_) 0]),some (.box [.d (.int .i64 b2_0_)]),some (.box (Al x_67 (.osl 4 2 0 (x_67.Columns.length)))),some (.narr 2 (x_67.Columns.map Ac))]⟩
def Jc6:St:=⟨(8,.d (.bool better_8))::[],[some (.box [.ptr 3 0]),some (.box [.eptr 4 2 (0+Int.toNat b1_0_) 0]),some (.box [.d (.int .i64 b2_0_)]),some (.box (Al x_69 (.osl 4 2 0 (x_69.Columns.length)))),some (.narr 2 (x_69.Columns.map Ac))]⟩
def Jc7:St:=⟨(0,.d (.int .i64 p0_))::(1,.d (.bool p1_))::(2,.ptr 0 0)::(3,.ptr 1 0)::(4,.ptr 2 0)::(8,.d (.bool better_9))::(27,.d (.sl (x104.map Ai)))::(28,.d (.int .i64 ((x104.length:Nat):Int)))::(29,.d (.int .i64 x_68))::[],[some (.box [.ptr 3 0]),some (.box [.eptr 4 2 (0+Int.toNat b1_0_) 0]),some (.box [.d (.int .i64 b2_0_)]),some (.box (Al x_70 (.osl 4 2 0 (x_70.Columns.length)))),some (.narr 2 (x_70.Columns.map Ac))]⟩
def JN:(Af×Bool)->Ex->St->Prop:=xX 5 0 (λ (y:(Af×Bool))=>Jc6 b1_0_ b2_0_ y.1 y.2)
def FJ:(Af×Bool×Int)->St:=(λ (x:(Af×Bool×Int))=>Jc5 p0_ p1_ b1_0_ b2_0_ x104 x.1 x.2.1 x.2.2)
variable {p0_ p1_ b1_0_ b2_0_ b3_ x_65 x_66 x104 x_67 better_7 x_68 x_69 better_8 x_70 better_9}
theorem Jl (x:(Af×Bool×Int)) (z:((Af×Bool×Int)⊕(Af×Bool))) (H:CP n p0_ p1_ b1_0_ b2_0_ x104 x.1 x.2.1 x.2.2=some z):WP (cxk 104 5) (Aw Tryz.f79) [1,1,0,1,0,0] (Au 5 (FJ p0_ p1_ b1_0_ b2_0_ x104) (JN b1_0_ b2_0_) z) (FJ p0_ p1_ b1_0_ b2_0_ x104 x):=by
 obtain ⟨x_67,better_7,x_68⟩:=x
 refine sr (ck 1 (en (sq (cn H (λ H=>?_) (λ H=>?_)))))
 ·refine sk (qz (sj (λ (x:(Af×Bool))=>Jc7 p0_ p1_ b1_0_ b2_0_ x104 x_68 x.1 x.2) (λ (x:(Af×Bool))=>BI n x_68 x.1 x.2) z ?_ (λ hFTr_writer_price_1_J1=>?_)))
  ·rintro ⟨x_70,better_9⟩ H
   exact rz (ck 2 (ae (by cases H;exact og (gP [0,1,2,3,4,8,27,28,29] [0,1,2,3,4] (po1 (po1 (po1 (po1 (pn1 Ac x_70.Columns (Pl.z))))))))))
  refine bk 1 (sr (bx H λ x105 h267 H=>sp (Am Ai h267) (ck 3 (en (sr (ck 4 (bx H λ r60 h268 H=>ltP [3,4] (D0 h268) (po1 (pn1 Ac x_67.Columns (Pl.z))) (tb (f:=Dy (Cu [3,4] 6 2)) [some (.box [.ptr 3 0]),some (.box [.eptr 4 2 (0+Int.toNat b1_0_) 0]),some (.box [.d (.int .i64 b2_0_)]),some (.box (Al x_67 (.osl 4 2 0 (x_67.Columns.length)))),some (.narr 2 (x_67.Columns.map Ac)),some (.box [.d (.int .i64 x105.Rule),.d (.int .i64 x105.To)])] (po1 (po1 (po1 (po1 (pn1 Ac x_67.Columns (po1 (Pl.z))))))) (ck 5 (en (sq (sr (ck 5 (gc 1 (!(!r60.2)) (ck 1 (gc 1 (!(!r60.2)) (pO (en (cn H (λ H=>?_) (λ H=>?_))))))))))))))))))))
  ·exact ex 1 (qx (qH (qs (gP [0,1,2,3,4,8,27,28,29] [0,1,2,3,4] (po1 (po1 (po1 (po1 (pn1 Ac x_67.Columns (Pl.z))))))) (hFTr_writer_price_1_J1 (x_67,better_7) H))))
  ·refine sk (qz (sr (ck 5 (bx H λ x106 h269 H=>sp (Az 4 2 h269) (ck 2 (bx H λ r61 h270 H=>cb (ks:=[4]) (obl:=[(0+Int.toNat r60.1+1,List.length (x_67.Columns.map Ac)),(Ol (x_67.Columns.map Ac),0)]) false (leK (JgB (encN:=Ac) h269) (leK (JeX λ _=>rfl) (leZ))) (Dz (JbE (encN:=Ac) (encD:=L3) h269 λ _=>rfl) (Dz rfl rfl)) (Fj h270) (Or.inr trivial) rfl (ck 1 (en (sr (ck 8 (bx H λ x107 h271 H=>sp (Am An h271) (ck 2 (sp (AB eU8 x107.Cells) (ck 2 (en (sq (bx H λ x108 h272 H=>rg (tr (so1 (encN:=Ac) 4 2 h272) (sno (encN:=Ac) (enc:=Ae) h272 [.own 1 (x108.States.map Ae),.own 1 (x108.Costs.map Ae)] x108.Costs 2 4 1 1)) (ck 4 (gc 2 (decide (r61>=0)) (sE (g:=decide (r61>=0)) (λ hg=>Ci (encN:=Ac) (row:=[.own 1 (x108.States.map Ae),.osl 6 1 0 (x108.Costs.length)]) (k:=4) (sz:=2) (off:=1) (t:=ty 35) (v:=.osl 6 1 0 (x108.Costs.length)) h272) (ck 1 (bx H λ x109 h273 H=>sE (λ hg=>Az 6 1 (BB h273 hg)) (sE (g:=decide (r61>=0)) (λ hg=>CJ Ae 6 0 (ty 3) (BB h273 hg)) (gc 2 (decide (r61>=0)) (ck 2 (gc 2 ((decide (r61>=0))&&!(decide (x109<0))) (sE (g:=((decide (r61>=0))&&!(decide (x109<0)))) (λ hg=>Ci (encN:=Ac) (row:=[.own 1 (x108.States.map Ae),.osl 6 1 0 (x108.Costs.length)]) (k:=4) (sz:=2) (off:=1) (t:=ty 35) (v:=.osl 6 1 0 (x108.Costs.length)) h272) (ck 1 (bx H λ x110 h274 H=>sE (λ hg=>Az 6 1 (BB h274 hg)) (sE (g:=((decide (r61>=0))&&!(decide (x109<0)))) (λ hg=>CJ Ae 6 0 (ty 3) (BB h274 hg)) (gc 1 ((decide (r61>=0))&&!(decide (x109<0))) (pG (g:=decide (r61>=0)) (v:=.d (.bool ((decide (x109<0))||(decide (AE .i64 r61 ((x107.Cells.length:Nat):Int)<x110))))) (λ hg=>Gy (c:=.gv (decide (r61>=0)) (.d (.bool (decide (x109<0))))) (a:=.d (.bool true)) (b:=.gv ((decide (r61>=0))&&!(decide (x109<0))) (.d (.bool (decide (AE .i64 r61 ((x107.Cells.length:Nat):Int)<x110))))) rfl rfl rfl ((λ hh=>hh) hg) trivial (λ ht=>by rw [(λ hh=>hh) hg,ht];rfl)) (pA (en (cn H (λ H=>?_) (λ H=>?_))))))))))))))))))))))))))))))))))))
   ·exact sq (bx H λ x111 h275 H=>rg (tr (tr (tr (tr (tr (sni (encN:=Ac) (xs:=x_67.Columns) (n:=b1_0_) (enc:=Ae) [.own 1 (x108.States.map Ae),.osl 6 1 0 (x108.Costs.length)] x108.Costs 2 4 1 6 1) (scl (encN:=Ac) (xss:=x_67.Columns) b1_0_ [.own 1 (x108.States.map Ae),.own 1 (x108.Costs.map Ae)] 2 4 x108)) (sn 53 4 2 (lsS x_67.Columns b1_0_.toNat x108))) (snc 3 6 4 2 (lsS x_67.Columns b1_0_.toNat x108))) (so1 (encN:=Ac) 4 2 h275)) (sno (encN:=Ac) (enc:=Ae) h275 [.own 1 (x111.States.map Ae),.own 1 (x111.Costs.map Ae)] x111.Costs 2 4 1 1)) (ck 3 (sp (Ci (encN:=Ac) (row:=[.own 1 (x111.States.map Ae),.osl 7 1 0 (x111.Costs.length)]) (k:=4) (sz:=2) (off:=1) (t:=ty 35) (v:=.osl 7 1 0 (x111.Costs.length)) h275) (ck 2 (bx H λ x112 h276 H=>sp (Az 7 1 h276) (bx H λ l37 h277 H=>stA Ae 7 0 (ty 3) h276 h277 (en (rg (tr (tr (tr (tr (tr (sn 98 7 1 (Bg h277)) (snr (encN:=Ac) (xs:=List.set x_67.Columns b1_0_.toNat x108) (n:=b1_0_) [.own 1 (x111.States.map Ae),.osl 7 1 0 (x111.Costs.length)] 2 4 1 7 1 (Bg h277))) (sni (encN:=Ac) (xs:=List.set x_67.Columns b1_0_.toNat x108) (n:=b1_0_) (enc:=Ae) [.own 1 (x111.States.map Ae),.osl 7 1 0 (l37.length)] l37 2 4 1 7 1)) (scl (encN:=Ac) (xss:=List.set x_67.Columns b1_0_.toNat x108) b1_0_ [.own 1 (x111.States.map Ae),.own 1 (l37.map Ae)] 2 4 ({ States:=x111.States,Costs:=l37 }:AC))) (sn 53 4 2 (lsS (List.set x_67.Columns b1_0_.toNat x108) b1_0_.toNat ({ States:=x111.States,Costs:=l37 }:AC)))) (snc 3 6 4 2 (lsS (List.set x_67.Columns b1_0_.toNat x108) b1_0_.toNat ({ States:=x111.States,Costs:=l37 }:AC)))) (ck 1 (ae (qN (qs (gP [0,1,2,3,4,8,27,28,29] [0,1,2,3,4] (po1 (po1 (po1 (po1 (pn1 Ac (List.set (List.set x_67.Columns b1_0_.toNat x108) b1_0_.toNat ({ States:=x111.States,Costs:=l37 }:AC)) (Pl.z))))))) (hFTr_writer_price_1_J1 (({ T:=x_67.T,S:=x_67.S,States:=x_67.States,Arcs:=x_67.Arcs,Columns:=List.set (List.set x_67.Columns b1_0_.toNat x108) b1_0_.toNat ({ States:=x111.States,Costs:=l37 }:AC),Last:=x_67.Last }:Af),true) H)))))))))))))
   ·exact sk (qN (qs (tr (tr (tr (tr (sni (encN:=Ac) (xs:=x_67.Columns) (n:=b1_0_) (enc:=Ae) [.own 1 (x108.States.map Ae),.osl 6 1 0 (x108.Costs.length)] x108.Costs 2 4 1 6 1) (scl (encN:=Ac) (xss:=x_67.Columns) b1_0_ [.own 1 (x108.States.map Ae),.own 1 (x108.Costs.map Ae)] 2 4 x108)) (sn 53 4 2 (lsS x_67.Columns b1_0_.toNat x108))) (snc 3 6 4 2 (lsS x_67.Columns b1_0_.toNat x108))) (gP [0,1,2,3,4,8,27,28,29] [0,1,2,3,4] (po1 (po1 (po1 (po1 (pn1 Ac (List.set x_67.Columns b1_0_.toNat x108) (Pl.z)))))))) (hFTr_writer_price_1_J1 (({ T:=x_67.T,S:=x_67.S,States:=x_67.States,Arcs:=x_67.Arcs,Columns:=List.set x_67.Columns b1_0_.toNat x108,Last:=x_67.Last }:Af),better_7) H)))
 ·exact ex 0 (qx (by cases H;exact xo rfl (gP [8] [0,1,2,3,4] (po1 (po1 (po1 (po1 (pn1 Ac x_67.Columns (Pl.z)))))))))
theorem Gh {z} (H:CM n p0_ p1_ b1_0_ b2_0_ b3_=some z):BD Tryz.prog 79 [.d (.int .i64 p0_),.d (.bool p1_),.ptr 0 0,.ptr 1 0,.ptr 2 0] [some (.box [.ptr 3 0]),some (.box [.eptr 4 2 (0+Int.toNat b1_0_) 0]),some (.box [.d (.int .i64 b2_0_)]),some (.box (Al b3_ (.osl 4 2 0 (b3_.Columns.length)))),some (.narr 2 (b3_.Columns.map Ac))] 5 (.d (.bool z.2)) [some (.box [.ptr 3 0]),some (.box [.eptr 4 2 (0+Int.toNat b1_0_) 0]),some (.box [.d (.int .i64 b2_0_)]),some (.box (Al z.1 (.osl 4 2 0 (z.1.Columns.length)))),some (.narr 2 (z.1.Columns.map Ac))]:=by
 exact fL 104 5 (Jc3 p0_ p1_ b1_0_ b2_0_ b3_) Tryz.func79 (sr (ck 1 (en (sr (ck 1 (en (sq (sq (bx H λ x102 h264 H=>rg (tr (so1 (encN:=Ac) 4 2 h264) (sno (encN:=Ac) (enc:=Ae) h264 [.own 1 (x102.States.map Ae),.own 1 (x102.Costs.map Ae)] x102.States 2 4 0 1)) (ck 7 (sp (Ci (encN:=Ac) (row:=[.osl 5 1 0 (x102.States.length),.own 1 (x102.Costs.map Ae)]) (k:=4) (sz:=2) (off:=0) (t:=ty 35) (v:=.osl 5 1 0 (x102.States.length)) h264) (ck 1 (bx H λ x103 h265 H=>sp (Az 5 1 h265) (sp (CJ Ae 5 0 (ty 3) h265) (bx H λ x104 h266 H=>sp (Am (eL Ai) h266) (ck 1 (sp (AB Ai x104) (ck 1 (en (bk 0 (bx H λ y69 h278 H=>lX Jl h278 (tr (tr (tr (sni (encN:=Ac) (xs:=b3_.Columns) (n:=b1_0_) (enc:=Ae) [.osl 5 1 0 (x102.States.length),.own 1 (x102.Costs.map Ae)] x102.States 2 4 0 5 1) (scl (encN:=Ac) (xss:=b3_.Columns) b1_0_ [.own 1 (x102.States.map Ae),.own 1 (x102.Costs.map Ae)] 2 4 x102)) (snc 3 6 4 2 (lsS b3_.Columns b1_0_.toNat x102))) (gP [0,1,2,3,4,8,27,28,29] [0,1,2,3,4] (po1 (po1 (po1 (po1 (pn1 Ac (List.set b3_.Columns b1_0_.toNat x102) (Pl.z)))))))) rfl λ s hE56=>qH (qs (hE56) (sr (ck 2 (en (re (by cases H;exact pL (rl (s':=Jc4 b1_0_ b2_0_ y69.1 y69.2) (gP [7] [0,1,2,3,4] (po1 (po1 (po1 (po1 (pn1 Ac y69.1.Columns (Pl.z)))))))))))))))))))))))))))))))))))
end
end Go.AI
end
section
namespace Go.AI
open Go.Proofs
set_option maxRecDepth 10000
variable {n:Nat}
section
variable (b0_:Af) (x_71:Af) (w_13:Af) (place_3:Int) (x_72:Af) (x114:AC) (l38:(List Int)) (x115:AC) (r_1:(List Int)) (x_73:Int) (w_14:Af) (r_2:(List Int)) (x121:AC) (w_15:Af) (x_74:Int) (w_16:Af) (w_17:Af) (w_18:Af) (x122:AC) (w_19:Af) (better_10:Bool) (x_75:Int) (w_20:Af) (better_11:Bool)
def Jc8:St:=⟨(0,.ptr 0 0)::[],[some (.box (Al b0_ (.osl 1 2 0 (b0_.Columns.length)))),some (.narr 2 (b0_.Columns.map Ac))]⟩
def Jc9:St:=⟨[],[some (.box (Al x_71 (.osl 1 2 0 (x_71.Columns.length)))),some (.narr 2 (x_71.Columns.map Ac))]⟩
def Jda:St:=⟨(1,.ptr 2 0)::(2,.ptr 3 0)::[],[some (.box (Al w_13 (.osl 1 2 0 (w_13.Columns.length)))),some (.narr 2 (w_13.Columns.map Ac)),some (.box [.ptr 0 0]),some (.box [.d (.int .i64 place_3)])]⟩
def Jdb:St:=⟨[],[some (.box (Al x_72 (.osl 1 2 0 (x_72.Columns.length)))),some (.narr 2 (x_72.Columns.map Ac))]⟩
def Jdc:St:=⟨(1,.ptr 2 0)::(2,.ptr 3 0)::(3,.ptr 4 0)::(37,.osl 5 1 0 (x115.States.length))::(38,.d (.int .i64 ((x115.States.length:Nat):Int)))::(39,.d (.int .i64 x_73))::[],[some (.box (Al w_13 (.osl 1 2 0 (List.length (List.set w_13.Columns place_3.toNat ({ States:=x114.States,Costs:=l38 }:AC)))))),some (.narr 2 (List.set (List.map Ac (List.set w_13.Columns place_3.toNat ({ States:=x114.States,Costs:=l38 }:AC))) place_3.toNat [.osl 5 1 0 (x115.States.length),.own 1 (r_1.map Ae)])),some (.box [.ptr 0 0]),some (.box [.d (.int .i64 place_3)]),some (.box [.eptr 1 2 (0+Int.toNat place_3) 0]),some (.arr 1 (x115.States.map Ae))]⟩
def Jdd:St:=⟨(1,.ptr 2 0)::(2,.ptr 3 0)::(3,.ptr 4 0)::[],[some (.box (Al w_14 (.osl 1 2 0 (w_14.Columns.length)))),some (.narr 2 (w_14.Columns.map Ac)),some (.box [.ptr 0 0]),some (.box [.d (.int .i64 place_3)]),some (.box [.eptr 1 2 (0+Int.toNat place_3) 0])]⟩
def Jde:St:=⟨(1,.ptr 2 0)::(2,.ptr 3 0)::(3,.ptr 4 0)::(37,.osl 5 1 0 (x115.States.length))::(38,.d (.int .i64 ((x115.States.length:Nat):Int)))::(39,.d (.int .i64 x_73))::[],[some (.box (Al w_13 (.osl 1 2 0 (List.length (List.set w_13.Columns place_3.toNat ({ States:=x114.States,Costs:=l38 }:AC)))))),some (.narr 2 (List.set (List.map Ac (List.set w_13.Columns place_3.toNat ({ States:=x114.States,Costs:=l38 }:AC))) place_3.toNat [.osl 5 1 0 (x115.States.length),.own 1 (r_2.map Ae)])),some (.box [.ptr 0 0]),some (.box [.d (.int .i64 place_3)]),some (.box [.eptr 1 2 (0+Int.toNat place_3) 0]),some (.arr 1 (x115.States.map Ae))]⟩
def Lu:Af->Ex->St->Prop:=xX 2 2 (λ (y:Af)=>Jdd place_3 y)
def Gi:((List Int)×Int)->St:=(λ (x:((List Int)×Int))=>Jdc w_13 place_3 x114 l38 x115 x.1 x.2)
def Jdf:St:=⟨(1,.ptr 2 0)::(2,.ptr 3 0)::(3,.ptr 4 0)::(6,.clo 79 [.ptr 2 0,.ptr 4 0,.ptr 3 0])::(83,.d (.int .i64 ((x121.States.length:Nat):Int)))::(84,.d (.int .i64 x_74))::[],[some (.box (Al w_15 (.osl 1 2 0 (w_15.Columns.length)))),some (.narr 2 (w_15.Columns.map Ac)),some (.box [.ptr 0 0]),some (.box [.d (.int .i64 place_3)]),some (.box [.eptr 1 2 (0+Int.toNat place_3) 0])]⟩
def Jdg:St:=⟨(1,.ptr 2 0)::(2,.ptr 3 0)::(3,.ptr 4 0)::(6,.clo 79 [.ptr 2 0,.ptr 4 0,.ptr 3 0])::[],[some (.box (Al w_16 (.osl 1 2 0 (w_16.Columns.length)))),some (.narr 2 (w_16.Columns.map Ac)),some (.box [.ptr 0 0]),some (.box [.d (.int .i64 place_3)]),some (.box [.eptr 1 2 (0+Int.toNat place_3) 0])]⟩
def Lv:Af->Ex->St->Prop:=xX 2 4 (λ (y:Af)=>Jdg place_3 y)
def Gj:(Af×Int)->St:=(λ (x:(Af×Int))=>Jdf place_3 x121 x.1 x.2)
def Jad:St:=⟨(1,.ptr 2 0)::(2,.ptr 3 0)::(3,.ptr 4 0)::(6,.clo 79 [.ptr 2 0,.ptr 4 0,.ptr 3 0])::[],[some (.box (Al w_17 (.osl 1 2 0 (w_17.Columns.length)))),some (.narr 2 (w_17.Columns.map Ac)),some (.box [.ptr 0 0]),some (.box [.d (.int .i64 place_3)]),some (.box [.eptr 1 2 (0+Int.toNat place_3) 0])]⟩
def Jae:St:=⟨(1,.ptr 2 0)::(2,.ptr 3 0)::[],[some (.box (Al w_18 (.osl 1 2 0 (w_18.Columns.length)))),some (.narr 2 (w_18.Columns.map Ac)),some (.box [.ptr 0 0]),some (.box [.d (.int .i64 place_3)])]⟩
def Jaf:St:=⟨(1,.ptr 2 0)::(2,.ptr 3 0)::(3,.ptr 4 0)::(6,.clo 79 [.ptr 2 0,.ptr 4 0,.ptr 3 0])::(8,.d (.bool better_10))::(95,.d (.int .i64 ((x122.States.length:Nat):Int)))::(96,.d (.int .i64 x_75))::[],[some (.box (Al w_19 (.osl 1 2 0 (w_19.Columns.length)))),some (.narr 2 (w_19.Columns.map Ac)),some (.box [.ptr 0 0]),some (.box [.d (.int .i64 place_3)]),some (.box [.eptr 1 2 (0+Int.toNat place_3) 0])]⟩
def Jag:St:=⟨(1,.ptr 2 0)::(2,.ptr 3 0)::(3,.ptr 4 0)::(6,.clo 79 [.ptr 2 0,.ptr 4 0,.ptr 3 0])::(8,.d (.bool better_11))::[],[some (.box (Al w_20 (.osl 1 2 0 (w_20.Columns.length)))),some (.narr 2 (w_20.Columns.map Ac)),some (.box [.ptr 0 0]),some (.box [.d (.int .i64 place_3)]),some (.box [.eptr 1 2 (0+Int.toNat place_3) 0])]⟩
def Lw:(Af×Bool)->Ex->St->Prop:=xX 2 8 (λ (y:(Af×Bool))=>Jag place_3 y.1 y.2)
def Gk:(Af×Bool×Int)->St:=(λ (x:(Af×Bool×Int))=>Jaf place_3 x122 x.1 x.2.1 x.2.2)
def Lx:Af->Ex->St->Prop:=xX 2 6 (λ (y:Af)=>Jae place_3 y)
def Gl:Af->St:=(λ (x:Af)=>Jad place_3 x)
def Ly:Af->Ex->St->Prop:=xX 2 0 (λ (y:Af)=>Jdb y)
def Gm:(Af×Int)->St:=(λ (x:(Af×Int))=>Jda x.1 x.2)
variable {b0_ x_71 w_13 place_3 x_72 x114 l38 x115 r_1 x_73 w_14 r_2 x121 w_15 x_74 w_16 w_17 w_18 x122 w_19 better_10 x_75 w_20 better_11}
theorem Kr (x:((List Int)×Int)) (z:(((List Int)×Int)⊕Af)) (H:Di n w_13 place_3 x114 l38 x115 x.1 x.2=some z):WP (cxk 109 2) (Aw Tryz.f63) [1,1,0,0,1,0,0,0,1,1,0,1,0,0] (Au 2 (Gi w_13 place_3 x114 l38 x115) (Lu place_3) z) (Gi w_13 place_3 x114 l38 x115 x):=by
 obtain ⟨r_1,x_73⟩:=x
 refine sr (ck 1 (en (sq (cn H (λ H=>?_) (λ H=>?_)))))
 ·refine sk (qz (sj (λ (x:(List Int))=>Jde w_13 place_3 x114 l38 x115 x_73 x) (λ (x:(List Int))=>Cz n x_73 x) z ?_ (λ hFTr_writer_price_J1=>?_)))
  ·intro r_2 H
   exact rz (ck 2 (ae (by cases H;exact og (gP [1,2,3,37,38,39] [0,1,2,3,4,5] (po1 (Pl.n _ (nrH (n:=Int.toNat place_3) (row:=[.osl 5 1 0 (x115.States.length),.own 1 (r_2.map Ae)]) (row':=[.osl 5 1 0 (x115.States.length),.own 1 (r_2.map Ae)]) (nrM (encN:=Ac) (xss:=List.set w_13.Columns place_3.toNat ({ States:=x114.States,Costs:=l38 }:AC)) λ _=>rfl) rfl) (po1 (po1 (po1 (po1 (Pl.z)))))))))))
  refine bk 3 (sr (ck 1 (bx H λ x116 h283 H=>sp (Az 5 1 h283) (sp (CJ Ae 5 0 (ty 3) h283) (ck 2 (en (sq (bx H λ x117 h284 H=>rg (sno (encN:=Ac) (enc:=Ae) h284 [.osl 5 1 0 (x115.States.length),.own 1 (r_1.map Ae)] r_1 2 1 1 1) (ck 3 (sp (Ci (encN:=Ac) (row:=[.osl 5 1 0 (x115.States.length),.osl 6 1 0 (r_1.length)]) (k:=1) (sz:=2) (off:=1) (t:=ty 35) (v:=.osl 6 1 0 (r_1.length)) h284) (ck 1 (bx H λ x118 h285 H=>sp (Az 6 1 h285) (bx H λ l39 h286 H=>stA Ae 6 0 (ty 3) h285 h286 (en (sq (rg (tr (tr (sn 47 6 1 (Bg h286)) (snr (encN:=Ac) (xs:=List.set w_13.Columns place_3.toNat ({ States:=x114.States,Costs:=l38 }:AC)) (n:=place_3) [.osl 5 1 0 (x115.States.length),.osl 6 1 0 (r_1.length)] 2 1 1 6 1 (Bg h286))) (sni (encN:=Ac) (xs:=List.set w_13.Columns place_3.toNat ({ States:=x114.States,Costs:=l38 }:AC)) (n:=place_3) (enc:=Ae) [.osl 5 1 0 (x115.States.length),.osl 6 1 0 (l39.length)] l39 2 1 1 6 1)) (ck 9 (gc 3 (place_3==((w_13.S.length:Nat):Int)) (ck 1 (gc 3 (place_3==((w_13.S.length:Nat):Int)) (ck 1 (bx H λ x119 h287 H=>sE (λ hg=>Am Aj (BB h287 hg)) (gc 1 (place_3==((w_13.S.length:Nat):Int)) (bx H λ r62 h288 H=>cG false (leZ) rfl (λ hg=>L7 (BB h288 hg)) (Or.inl rfl) (BY (λ hh=>hh) (BY (λ hh=>hh) (Eb))) rfl (pA (en (cn H (λ H=>?_) (λ H=>?_))))))))))))))))))))))))))))
  ·exact rg (sno (encN:=Ac) (enc:=Ae) h284 [.osl 5 1 0 (x115.States.length),.own 1 (l39.map Ae)] l39 2 1 1 1) (ck 3 (sp (Ci (encN:=Ac) (row:=[.osl 5 1 0 (x115.States.length),.osl 7 1 0 (l39.length)]) (k:=1) (sz:=2) (off:=1) (t:=ty 35) (v:=.osl 7 1 0 (l39.length)) h284) (ck 1 (bx H λ x120 h289 H=>sp (Az 7 1 h289) (bx H λ l40 h290 H=>stA Ae 7 0 (ty 3) h289 h290 (ae (qN (qs (tr (tr (tr (sn 74 7 1 (Bg h290)) (snr (encN:=Ac) (xs:=List.set w_13.Columns place_3.toNat ({ States:=x114.States,Costs:=l38 }:AC)) (n:=place_3) [.osl 5 1 0 (x115.States.length),.osl 7 1 0 (l39.length)] 2 1 1 7 1 (Bg h290))) (sni (encN:=Ac) (xs:=List.set w_13.Columns place_3.toNat ({ States:=x114.States,Costs:=l38 }:AC)) (n:=place_3) (enc:=Ae) [.osl 5 1 0 (x115.States.length),.osl 7 1 0 (l40.length)] l40 2 1 1 7 1)) (gP [1,2,3,37,38,39] [0,1,2,3,4,5] (po1 (Pl.n _ (nrH (n:=Int.toNat place_3) (row:=[.osl 5 1 0 (x115.States.length),.own 1 (l40.map Ae)]) (row':=[.osl 5 1 0 (x115.States.length),.own 1 (l40.map Ae)]) (nrM (encN:=Ac) (xss:=List.set w_13.Columns place_3.toNat ({ States:=x114.States,Costs:=l38 }:AC)) λ _=>rfl) rfl) (po1 (po1 (po1 (po1 (Pl.z))))))))) (hFTr_writer_price_J1 l40 H)))))))))
  ·exact sk (qN (qs (gP [1,2,3,37,38,39] [0,1,2,3,4,5] (po1 (Pl.n _ (nrH (n:=Int.toNat place_3) (row:=[.osl 5 1 0 (x115.States.length),.own 1 (l39.map Ae)]) (row':=[.osl 5 1 0 (x115.States.length),.own 1 (l39.map Ae)]) (nrM (encN:=Ac) (xss:=List.set w_13.Columns place_3.toNat ({ States:=x114.States,Costs:=l38 }:AC)) λ _=>rfl) rfl) (po1 (po1 (po1 (po1 (Pl.z)))))))) (hFTr_writer_price_J1 l39 H)))
 ·exact ex 2 (qx (by cases H;exact xo rfl (tr (tr (tr (sni (encN:=Ac) (xs:=List.set w_13.Columns place_3.toNat ({ States:=x114.States,Costs:=l38 }:AC)) (n:=place_3) (enc:=Ae) [.osl 5 1 0 (x115.States.length),.own 1 (r_1.map Ae)] x115.States 2 1 0 5 1) (scl (encN:=Ac) (xss:=List.set w_13.Columns place_3.toNat ({ States:=x114.States,Costs:=l38 }:AC)) place_3 [.own 1 (x115.States.map Ae),.own 1 (r_1.map Ae)] 2 1 ({ States:=x115.States,Costs:=r_1 }:AC))) (snc 0 6 1 2 (lsS (List.set w_13.Columns place_3.toNat ({ States:=x114.States,Costs:=l38 }:AC)) place_3.toNat ({ States:=x115.States,Costs:=r_1 }:AC)))) (gP [1,2,3] [0,1,2,3,4] (po1 (pn1 Ac (List.set (List.set w_13.Columns place_3.toNat ({ States:=x114.States,Costs:=l38 }:AC)) place_3.toNat ({ States:=x115.States,Costs:=r_1 }:AC)) (po1 (po1 (po1 (Pl.z))))))))))
theorem Ks (x:(Af×Int)) (z:((Af×Int)⊕Af)) (H:Dj n place_3 x121 x.1 x.2=some z):WP (cxk 109 2) (Aw Tryz.f63) [1,1,0,0,1,0,0,0,1,1,1,1,0,1,0,0] (Au 2 (Gj place_3 x121) (Lv place_3) z) (Gj place_3 x121 x):=by
 obtain ⟨w_15,x_74⟩:=x
 refine sr (ck 1 (en (sq (cn H (λ H=>?_) (λ H=>?_)))))
 ·exact sk (qz (sq (bk 5 (sr (ck 2 (en (rz (ck 2 (bx H λ r63 h293 H=>xcP (xok _ _) [2,4,3,0,1] (Gh h293) (po1 (po1 (po1 (po1 (pn1 Ac w_15.Columns (Pl.z)))))) (tb (f:=Dy (Cu [2,4,3,0,1] 5 5)) [some (.box (Al r63.1 (.osl 1 2 0 (r63.1.Columns.length)))),some (.narr 2 (r63.1.Columns.map Ac)),some (.box [.ptr 0 0]),some (.box [.d (.int .i64 place_3)]),some (.box [.eptr 1 2 (0+Int.toNat place_3) 0])] (po1 (pn1 Ac r63.1.Columns (po1 (po1 (po1 (Pl.z)))))) (ae (qN (qz (rz (ck 2 (ae (by cases H;exact og (gP [1,2,3,6,83,84] [0,1,2,3,4] (po1 (pn1 Ac r63.1.Columns (po1 (po1 (po1 (Pl.z))))))))))))))))))))))))
 ·exact ex 4 (qx (by cases H;exact xo rfl (gP [1,2,3,6] [0,1,2,3,4] (po1 (pn1 Ac w_15.Columns (po1 (po1 (po1 (Pl.z)))))))))
theorem Kt (x:(Af×Bool×Int)) (z:((Af×Bool×Int)⊕(Af×Bool))) (H:Dk n place_3 x122 x.1 x.2.1 x.2.2=some z):WP (cxk 109 2) (Aw Tryz.f63) [1,1,0,0,1,0,0,0,1,1,1,1,1,1,0,0,0,1,0,1,0,0] (Au 2 (Gk place_3 x122) (Lw place_3) z) (Gk place_3 x122 x):=by
 obtain ⟨w_19,better_10,x_75⟩:=x
 refine sr (ck 1 (en (sq (cn H (λ H=>?_) (λ H=>?_)))))
 ·exact sk (qz (sq (bk 9 (sr (ck 2 (en (rz (ck 2 (bx H λ r64 h296 H=>xcP (xok _ _) [2,4,3,0,1] (Gh h296) (po1 (po1 (po1 (po1 (pn1 Ac w_19.Columns (Pl.z)))))) (tb (f:=Dy (Cu [2,4,3,0,1] 5 5)) [some (.box (Al r64.1 (.osl 1 2 0 (r64.1.Columns.length)))),some (.narr 2 (r64.1.Columns.map Ac)),some (.box [.ptr 0 0]),some (.box [.d (.int .i64 place_3)]),some (.box [.eptr 1 2 (0+Int.toNat place_3) 0])] (po1 (pn1 Ac r64.1.Columns (po1 (po1 (po1 (Pl.z)))))) (ck 2 (pO (ck 1 (ae (qN (qz (rz (ck 2 (ae (by cases H;exact og (gP [1,2,3,6,8,95,96] [0,1,2,3,4] (po1 (pn1 Ac r64.1.Columns (po1 (po1 (po1 (Pl.z)))))))))))))))))))))))))))
 ·exact ex 8 (qx (by cases H;exact xo rfl (gP [1,2,3,6,8] [0,1,2,3,4] (po1 (pn1 Ac w_19.Columns (po1 (po1 (po1 (Pl.z)))))))))
theorem Ku (x:Af) (z:(Af⊕Af)) (H:Dl n place_3 x=some z):WP (cxk 109 2) (Aw Tryz.f63) [1,1,0,0,1,0,0,0,1,1,1,1,1,1,0,0] (Au 2 (Gl place_3) (Lx place_3) z) (Gl place_3 x):=by
 revert H
 generalize x=w_17
 intro H
 refine bk 7 (sr (ck 1 (en (sq (sq (bx H λ x122 h295 H=>rg (tr (so1 (encN:=Ac) 1 2 h295) (sno (encN:=Ac) (enc:=Ae) h295 [.own 1 (x122.States.map Ae),.own 1 (x122.Costs.map Ae)] x122.States 2 1 0 1)) (ck 3 (sp (Ci (encN:=Ac) (row:=[.osl 5 1 0 (x122.States.length),.own 1 (x122.Costs.map Ae)]) (k:=1) (sz:=2) (off:=0) (t:=ty 35) (v:=.osl 5 1 0 (x122.States.length)) h295) (ck 2 (en (bk 8 (bx H λ y72 h297 H=>lX Kt h297 (tr (tr (tr (sni (encN:=Ac) (xs:=w_17.Columns) (n:=place_3) (enc:=Ae) [.osl 5 1 0 (x122.States.length),.own 1 (x122.Costs.map Ae)] x122.States 2 1 0 5 1) (scl (encN:=Ac) (xss:=w_17.Columns) place_3 [.own 1 (x122.States.map Ae),.own 1 (x122.Costs.map Ae)] 2 1 x122)) (snc 0 6 1 2 (lsS w_17.Columns place_3.toNat x122))) (gP [1,2,3,6,8,95,96] [0,1,2,3,4] (po1 (pn1 Ac (List.set w_17.Columns place_3.toNat x122) (po1 (po1 (po1 (Pl.z)))))))) rfl λ s hE59=>qH (qs (hE59) (sr (ck 2 (en (cn H (λ H=>?_) (λ H=>?_))))))))))))))))))
 ·exact ex 6 (qX rfl (by cases H;exact xo rfl (gP [1,2] [0,1,2,3] (po1 (pn1 Ac y72.1.Columns (po1 (po1 (Pl.z))))))))
 ·exact sk (qN (by cases H;exact og (gP [1,2,3,6] [0,1,2,3,4] (po1 (pn1 Ac y72.1.Columns (po1 (po1 (po1 (Pl.z)))))))))
theorem Kv (x:(Af×Int)) (z:((Af×Int)⊕Af)) (H:Dm n x.1 x.2=some z):WP (cxk 109 2) (Aw Tryz.f63) [1,1,0,0] (Au 2 (Gm) (Ly) z) (Gm x):=by
 obtain ⟨w_13,place_3⟩:=x
 refine sq (sr (ck 2 (en (cn H (λ H=>?_) (λ H=>?_)))))
 ·exact sk (qz (sq (bk 1 (sc (sr (ck 5 (bx H λ x113 h279 H=>sp (Az 1 2 h279) (ck 2 (en (sq (bx H λ x114 h280 H=>rg (tr (so1 (encN:=Ac) 1 2 h280) (sno (encN:=Ac) (enc:=Ae) h280 [.own 1 (x114.States.map Ae),.own 1 (x114.Costs.map Ae)] x114.States 2 1 0 1)) (ck 4 (sp (Ci (encN:=Ac) (row:=[.osl 5 1 0 (x114.States.length),.own 1 (x114.Costs.map Ae)]) (k:=1) (sz:=2) (off:=0) (t:=ty 35) (v:=.osl 5 1 0 (x114.States.length)) h280) (ck 1 (bx H λ l38 h281 H=>sp (Uh Ae 1 h281) (ck 2 (sp (LU (encN:=Ac) (row:=[.osl 5 1 0 (x114.States.length),.own 1 (x114.Costs.map Ae)]) (row':=[.osl 5 1 0 (x114.States.length),.osl 6 1 0 (l38.length)]) (k:=1) (sz:=2) (off:=1) (t:=ty 35) (v:=.osl 6 1 0 (l38.length)) h280) (en (sq (sq (bx H λ x115 h282 H=>rg (tr (tr (tr (tr (tr (tr (sni (encN:=Ac) (xs:=w_13.Columns) (n:=place_3) (enc:=Ae) [.osl 5 1 0 (x114.States.length),.osl 6 1 0 (l38.length)] x114.States 2 1 0 5 1) (sni (encN:=Ac) (xs:=w_13.Columns) (n:=place_3) (enc:=Ae) [.own 1 (x114.States.map Ae),.osl 6 1 0 (l38.length)] l38 2 1 1 6 1)) (scl (encN:=Ac) (xss:=w_13.Columns) place_3 [.own 1 (x114.States.map Ae),.own 1 (l38.map Ae)] 2 1 ({ States:=x114.States,Costs:=l38 }:AC))) (sn 22 1 2 (lsS w_13.Columns place_3.toNat ({ States:=x114.States,Costs:=l38 }:AC)))) (snc 0 6 1 2 (lsS w_13.Columns place_3.toNat ({ States:=x114.States,Costs:=l38 }:AC)))) (so1 (encN:=Ac) 1 2 h282)) (sno (encN:=Ac) (enc:=Ae) h282 [.own 1 (x115.States.map Ae),.own 1 (x115.Costs.map Ae)] x115.States 2 1 0 1)) (ck 3 (sp (Ci (encN:=Ac) (row:=[.osl 7 1 0 (x115.States.length),.own 1 (x115.Costs.map Ae)]) (k:=1) (sz:=2) (off:=0) (t:=ty 35) (v:=.osl 7 1 0 (x115.States.length)) h282) (ck 2 (en (bk 2 (bx H λ y70 h291 H=>lX Kr h291 (gP [1,2,3,37,38,39] [0,1,2,3,4,7] (po1 (Pl.n _ (nrH (n:=Int.toNat place_3) (row:=[.osl 7 1 0 (x115.States.length),.own 1 (x115.Costs.map Ae)]) (row':=[.osl 5 1 0 (x115.States.length),.own 1 (x115.Costs.map Ae)]) (nrM (encN:=Ac) (xss:=List.set w_13.Columns place_3.toNat ({ States:=x114.States,Costs:=l38 }:AC)) λ _=>rfl) rfl) (po1 (po1 (po1 (po1 (Pl.z)))))))) rfl λ s hE57=>qH (qs (hE57) (sr (xm (xok _ _) (ck 1 (en (sq (sq (bx H λ x121 h292 H=>rg (tr (so1 (encN:=Ac) 1 2 h292) (sno (encN:=Ac) (enc:=Ae) h292 [.own 1 (x121.States.map Ae),.own 1 (x121.Costs.map Ae)] x121.States 2 1 0 1)) (ck 3 (sp (Ci (encN:=Ac) (row:=[.osl 5 1 0 (x121.States.length),.own 1 (x121.Costs.map Ae)]) (k:=1) (sz:=2) (off:=0) (t:=ty 35) (v:=.osl 5 1 0 (x121.States.length)) h292) (ck 2 (en (bk 4 (bx H λ y71 h294 H=>lX Ks h294 (tr (tr (tr (sni (encN:=Ac) (xs:=y70.Columns) (n:=place_3) (enc:=Ae) [.osl 5 1 0 (x121.States.length),.own 1 (x121.Costs.map Ae)] x121.States 2 1 0 5 1) (scl (encN:=Ac) (xss:=y70.Columns) place_3 [.own 1 (x121.States.map Ae),.own 1 (x121.Costs.map Ae)] 2 1 x121)) (snc 0 6 1 2 (lsS y70.Columns place_3.toNat x121))) (gP [1,2,3,6,83,84] [0,1,2,3,4] (po1 (pn1 Ac (List.set y70.Columns place_3.toNat x121) (po1 (po1 (po1 (Pl.z)))))))) rfl λ s hE58=>qH (qs (hE58) (sq (lbl (qz (bk 6 (bx H λ y73 h298 H=>lX Ku h298 (gP [1,2,3,6] [0,1,2,3,4] (po1 (pn1 Ac y71.Columns (po1 (po1 (po1 (Pl.z))))))) rfl λ s hE60=>qH (qN (qs (hE60) (sq (sr (ck 1 (en (rz (ck 2 (en (rz (ck 3 (ae (by cases H;exact og (gP [1,2] [0,1,2,4] (po1 (pn1 Ac y73.Columns (po1 (po1 (Pl.z))))))))))))))))))))))))))))))))))))))))))))))))))))))))))))))))))
 ·exact ex 0 (qx (by cases H;exact xo rfl (gP [] [0,1] (po1 (pn1 Ac w_13.Columns (Pl.z))))))
theorem Ng {z} (H:EA n b0_=some z):BD Tryz.prog 63 [.ptr 0 0] [some (.box (Al b0_ (.osl 1 2 0 (b0_.Columns.length)))),some (.narr 2 (b0_.Columns.map Ac))] 2 (.tup []) [some (.box (Al z (.osl 1 2 0 (z.Columns.length)))),some (.narr 2 (z.Columns.map Ac))]:=by
 exact fL 109 2 (Jc8 b0_) Tryz.func63 (sr (ck 1 (en (sr (ck 7 (en (bk 0 (bx H λ y74 h299 H=>lX Kv h299 (gP [1,2] [0,1,2,3] (po1 (pn1 Ac b0_.Columns (po1 (po1 (Pl.z)))))) rfl λ s hE61=>qH (by cases H;exact pL' (rl (s':=Jc9 z) (tr (hE61) (gP [] [0,1] (po1 (pn1 Ac z.Columns (Pl.z)))))))))))))))
end
section
variable (b0_:Af) (x_76:AT) (result_12:AT) (place_4:Int) (state_3:Int) (cost_3:Int) (result_13:AT) (x124:(List A8)) (x_77:Int) (result_14:AT) (place_5:Int) (state_4:Int) (cost_4:Int)
def Jdh:St:=⟨(0,.ptr 0 0)::[],[some (.box (Al b0_ (.osl 1 2 0 (b0_.Columns.length)))),some (.narr 2 (b0_.Columns.map Ac))]⟩
def Jdi:St:=⟨(2,.ptr 2 0)::[],[some (.box (Al b0_ (.osl 1 2 0 (b0_.Columns.length)))),some (.narr 2 (b0_.Columns.map Ac)),some (.box [.osl 3 1 0 (x_76.Cells.length),.osl 4 1 0 (x_76.Path.length)]),some (.arr 1 (x_76.Cells.map eU8)),some (.arr 1 (x_76.Path.map Ae))]⟩
def Jdj:St:=⟨(0,.ptr 0 0)::(2,.ptr 2 0)::(3,.ptr 3 0)::(4,.d (.int .i64 place_4))::(5,.d (.int .i64 state_3))::(6,.d (.int .i64 cost_3))::[],[some (.box (Al b0_ (.osl 1 2 0 (b0_.Columns.length)))),some (.narr 2 (b0_.Columns.map Ac)),some (.box [.osl 4 1 0 (List.length ([]:List Int)),.osl 5 1 0 (List.length ([]:List Int))]),some (.box [.osl 6 1 0 (result_12.Cells.length),.osl 7 1 0 (result_12.Path.length)]),some (.arr 1 (List.map eU8 ([]:List Int))),some (.arr 1 (List.map Ae ([]:List Int))),some (.arr 1 (result_12.Cells.map eU8)),some (.arr 1 (result_12.Path.map Ae))]⟩
def Jdk:St:=⟨(2,.ptr 2 0)::(3,.ptr 3 0)::[],[some (.box (Al b0_ (.osl 1 2 0 (b0_.Columns.length)))),some (.narr 2 (b0_.Columns.map Ac)),some (.box [.osl 4 1 0 (List.length ([]:List Int)),.osl 5 1 0 (List.length ([]:List Int))]),some (.box [.osl 6 1 0 (result_13.Cells.length),.osl 7 1 0 (result_13.Path.length)]),some (.arr 1 (List.map eU8 ([]:List Int))),some (.arr 1 (List.map Ae ([]:List Int))),some (.arr 1 (result_13.Cells.map eU8)),some (.arr 1 (result_13.Path.map Ae))]⟩
def Jdl:St:=⟨(0,.ptr 0 0)::(2,.ptr 2 0)::(3,.ptr 3 0)::(4,.d (.int .i64 place_4))::(6,.d (.int .i64 cost_3))::(27,.d (.sl (x124.map Ai)))::(28,.d (.int .i64 ((x124.length:Nat):Int)))::(29,.d (.int .i64 x_77))::[],[some (.box (Al b0_ (.osl 1 2 0 (b0_.Columns.length)))),some (.narr 2 (b0_.Columns.map Ac)),some (.box [.osl 4 1 0 (List.length ([]:List Int)),.osl 5 1 0 (List.length ([]:List Int))]),some (.box [.osl 6 1 0 (result_12.Cells.length),.osl 7 1 0 (result_12.Path.length)]),some (.arr 1 (List.map eU8 ([]:List Int))),some (.arr 1 (List.map Ae ([]:List Int))),some (.arr 1 (result_12.Cells.map eU8)),some (.arr 1 (result_12.Path.map Ae))]⟩
def Jdm:St:=⟨(0,.ptr 0 0)::(2,.ptr 2 0)::(3,.ptr 3 0)::(4,.d (.int .i64 place_5))::(5,.d (.int .i64 state_4))::(6,.d (.int .i64 cost_4))::[],[some (.box (Al b0_ (.osl 1 2 0 (b0_.Columns.length)))),some (.narr 2 (b0_.Columns.map Ac)),some (.box [.osl 4 1 0 (List.length ([]:List Int)),.osl 5 1 0 (List.length ([]:List Int))]),some (.box [.osl 6 1 0 (result_14.Cells.length),.osl 7 1 0 (result_14.Path.length)]),some (.arr 1 (List.map eU8 ([]:List Int))),some (.arr 1 (List.map Ae ([]:List Int))),some (.arr 1 (result_14.Cells.map eU8)),some (.arr 1 (result_14.Path.map Ae))]⟩
def Jdn:St:=⟨(2,.ptr 2 0)::(3,.ptr 3 0)::[],[some (.box (Al b0_ (.osl 1 2 0 (b0_.Columns.length)))),some (.narr 2 (b0_.Columns.map Ac)),some (.box [.osl 4 1 0 (List.length ([]:List Int)),.osl 5 1 0 (List.length ([]:List Int))]),some (.box [.osl 6 1 0 (result_12.Cells.length),.osl 7 1 0 (result_12.Path.length)]),some (.arr 1 (List.map eU8 ([]:List Int))),some (.arr 1 (List.map Ae ([]:List Int))),some (.arr 1 (result_12.Cells.map eU8)),some (.arr 1 (result_12.Path.map Ae))]⟩
def Jdo:St:=⟨(0,.ptr 0 0)::(2,.ptr 2 0)::(3,.ptr 3 0)::(4,.d (.int .i64 place_4))::(6,.d (.int .i64 cost_3))::(27,.d (.sl (x124.map Ai)))::(28,.d (.int .i64 ((x124.length:Nat):Int)))::(29,.d (.int .i64 x_77))::[],[some (.box (Al b0_ (.osl 1 2 0 (b0_.Columns.length)))),some (.narr 2 (b0_.Columns.map Ac)),some (.box [.osl 4 1 0 (List.length ([]:List Int)),.osl 5 1 0 (List.length ([]:List Int))]),some (.box [.osl 6 1 0 (result_12.Cells.length),.osl 7 1 0 (result_12.Path.length)]),some (.arr 1 (List.map eU8 ([]:List Int))),some (.arr 1 (List.map Ae ([]:List Int))),some (.arr 1 (result_12.Cells.map eU8)),some (.arr 1 (result_12.Path.map Ae))]⟩
def Jm:((AT×Int×Int×Int)⊕Unit)->Ex->St->Prop:=xS (xX 2 1 (λ (y:(AT×Int×Int×Int))=>Jdm b0_ y.1 y.2.1 y.2.2.1 y.2.2.2)) (xX 2 2 (λ (_:Unit)=>Jdn b0_ result_12))
def E2:Int->St:=(λ (x:Int)=>Jdl b0_ result_12 place_4 cost_3 x124 x)
def Jn:AT->Ex->St->Prop:=xX 2 0 (λ (y:AT)=>Jdk b0_ y)
def E3:(AT×Int×Int×Int)->St:=(λ (x:(AT×Int×Int×Int))=>Jdj b0_ x.1 x.2.1 x.2.2.1 x.2.2.2)
variable {b0_ x_76 result_12 place_4 state_3 cost_3 result_13 x124 x_77 result_14 place_5 state_4 cost_4}
theorem EF (x:Int) (z:(Int⊕((AT×Int×Int×Int)⊕Unit))) (H:CB n b0_ result_12 place_4 cost_3 x124 x=some z):WP (cxk 93 2) (Aw Tryz.f64) [1,0,1,1,1,0,1,0,0,1,0,0,1,0,0] (Au 2 (E2 b0_ result_12 place_4 cost_3 x124) (Jm b0_ result_12) z) (E2 b0_ result_12 place_4 cost_3 x124 x):=by
 revert H
 generalize x=x_77
 intro H
 refine sr (ck 1 (en (sq (cn H (λ H=>?_) (λ H=>?_)))))
 ·refine sk (qz (sj (λ (x:Unit)=>Jdo b0_ result_12 place_4 cost_3 x124 x_77) (λ (x:Unit)=>BX n x_77) z ?_ (λ hFTr_writer_writingx_J1=>?_)))
  ·intro _ H
   exact rz (ck 2 (ae (by cases H;exact og (gP [0,2,3,4,6,27,28,29] [0,1,2,3,4,5,6,7] (po1 (pn1 Ac b0_.Columns (po1 (po1 (po1 (po1 (po1 (po1 (Pl.z)))))))))))))
  refine bk 3 (sr (bx H λ x125 h303 H=>sp (Am Ai h303) (ck 3 (en (sr (ck 4 (bx H λ r66 h304 H=>ltP [0,1] (D0 h304) (po1 (pn1 Ac b0_.Columns (Pl.z))) (tb (f:=Dy (Cu [0,1] 9 2)) [some (.box (Al b0_ (.osl 1 2 0 (b0_.Columns.length)))),some (.narr 2 (b0_.Columns.map Ac)),some (.box [.osl 4 1 0 (List.length ([]:List Int)),.osl 5 1 0 (List.length ([]:List Int))]),some (.box [.osl 6 1 0 (result_12.Cells.length),.osl 7 1 0 (result_12.Path.length)]),some (.arr 1 (List.map eU8 ([]:List Int))),some (.arr 1 (List.map Ae ([]:List Int))),some (.arr 1 (result_12.Cells.map eU8)),some (.arr 1 (result_12.Path.map Ae)),some (.box [.d (.int .i64 x125.Rule),.d (.int .i64 x125.To)])] (po1 (pn1 Ac b0_.Columns (po1 (po1 (po1 (po1 (po1 (po1 (po1 (Pl.z)))))))))) (ck 5 (en (sq (sr (ck 2 (en (cn H (λ H=>?_) (λ H=>?_))))))))))))))))
  ·exact ex 3 (qx (qH (qs (gP [0,2,3,4,6,27,28,29] [0,1,2,3,4,5,6,7] (po1 (pn1 Ac b0_.Columns (po1 (po1 (po1 (po1 (po1 (po1 (Pl.z)))))))))) (hFTr_writer_writingx_J1 () H))))
  ·refine sk (qz (sr (ck 7 (bx H λ x126 h305 H=>sp (Am An h305) (ck 3 (en (sq (sr (ck 5 (bx H λ x127 h306 H=>sp (Az 1 2 h306) (ck 2 (bx H λ r67 h307 H=>cb (ks:=[1]) (obl:=[(0+Int.toNat r66.1+1,List.length (b0_.Columns.map Ac)),(Ol (b0_.Columns.map Ac),0)]) false (leK (JgB (encN:=Ac) h306) (leK (JeX λ _=>rfl) (leZ))) (Dz (JbE (encN:=Ac) (encD:=L3) h306 λ _=>rfl) (Dz rfl rfl)) (Fj h307) (Or.inr trivial) rfl (ck 1 (en (sr (ck 6 (sE (g:=(!(decide (r67<0)))) (λ hg=>AB eU8 x126.Cells) (gc 2 (!(decide (r67<0))) (pO (en (cn H (λ H=>?_) (λ H=>?_))))))))))))))))))))))
   ·exact ex 3 (qx (qH (qs (gP [0,2,3,4,6,27,28,29] [0,1,2,3,4,5,6,7] (po1 (pn1 Ac b0_.Columns (po1 (po1 (po1 (po1 (po1 (po1 (Pl.z)))))))))) (hFTr_writer_writingx_J1 () H))))
   ·exact sk (qz (sr (ck 3 (bx H λ l41 h308 H=>sp (Jgy eU8 6 1 h308) (ck 2 (en (sr (ck 5 (bx H λ l42 h309 H=>sp (B5 Ae 7 1 h309) (ck 2 (en (sr (ck 5 (sp (AB eU8 x126.Cells) (ck 4 (en (ex 1 (qX rfl (qx (by cases H;exact xo rfl (gP [0,2,3,4,5,6] [0,1,2,3,4,5,9,11] (po1 (pn1 Ac b0_.Columns (po1 (po1 (po1 (po1 (po1 (po1 (Pl.z))))))))))))))))))))))))))))))
 ·exact ex 2 (qx (by cases H;exact xo rfl (gP [2,3] [0,1,2,3,4,5,6,7] (po1 (pn1 Ac b0_.Columns (po1 (po1 (po1 (po1 (po1 (po1 (Pl.z))))))))))))
theorem Io (x:(AT×Int×Int×Int)) (z:((AT×Int×Int×Int)⊕AT)) (H:CC n b0_ x.1 x.2.1 x.2.2.1 x.2.2.2=some z):WP (cxk 93 2) (Aw Tryz.f64) [1,0,1,1,1,0,1,0,0] (Au 2 (E3 b0_) (Jn b0_) z) (E3 b0_ x):=by
 obtain ⟨result_12,place_4,state_3,cost_3⟩:=x
 refine sq (sr (ck 2 (en (cn H (λ H=>?_) (λ H=>?_)))))
 ·refine sk (qz (bk 1 (sq (sr (ck 5 (bx H λ x124 h302 H=>sp (Am (eL Ai) h302) (ck 1 (sp (AB Ai x124) (ck 1 (en (bk 2 (bx H λ y75 h310 H=>?_))))))))))))
  rcases y75 with y76|y77
  ·exact lX EF h310 (gP [0,2,3,4,6,27,28,29] [0,1,2,3,4,5,6,7] (po1 (pn1 Ac b0_.Columns (po1 (po1 (po1 (po1 (po1 (po1 (Pl.z)))))))))) rfl λ s hE62=>qX rfl (qx (qH (by cases H;exact og (tr (hE62) (gP [0,2,3,4,5,6] [0,1,2,3,4,5,6,7] (po1 (pn1 Ac b0_.Columns (po1 (po1 (po1 (po1 (po1 (po1 (Pl.z))))))))))))))
  ·exact lX EF h310 (gP [0,2,3,4,6,27,28,29] [0,1,2,3,4,5,6,7] (po1 (pn1 Ac b0_.Columns (po1 (po1 (po1 (po1 (po1 (po1 (Pl.z)))))))))) rfl λ s hE63=>qH (qs (hE63) (ex 0 (qX rfl (by cases H;exact xo rfl (gP [2,3] [0,1,2,3,4,5,6,7] (po1 (pn1 Ac b0_.Columns (po1 (po1 (po1 (po1 (po1 (po1 (Pl.z))))))))))))))
 ·exact ex 0 (qx (by cases H;exact xo rfl (gP [2,3] [0,1,2,3,4,5,6,7] (po1 (pn1 Ac b0_.Columns (po1 (po1 (po1 (po1 (po1 (po1 (Pl.z))))))))))))
theorem Kw {z} (H:Dn n b0_=some z):BD Tryz.prog 64 [.ptr 0 0] [some (.box (Al b0_ (.osl 1 2 0 (b0_.Columns.length)))),some (.narr 2 (b0_.Columns.map Ac))] 2 (.agg [.osl 3 1 0 (z.Cells.length),.osl 4 1 0 (z.Path.length)]) [some (.box (Al b0_ (.osl 1 2 0 (b0_.Columns.length)))),some (.narr 2 (b0_.Columns.map Ac)),some (.box [.osl 3 1 0 (z.Cells.length),.osl 4 1 0 (z.Path.length)]),some (.arr 1 (z.Cells.map eU8)),some (.arr 1 (z.Path.map Ae))]:=by
 exact fL 93 2 (Jdh b0_) Tryz.func64 (sr (ck 1 (en (sc (sr (ck 1 (en (sr (ck 2 (en (sq (lbl (qz (sq (sr (ck 4 (bx H λ x123 h300 H=>sp (Az 1 2 h300) (bx H λ r65 h301 H=>cb (ks:=[1]) (obl:=[(0+Int.toNat 0+1,List.length (b0_.Columns.map Ac)),(Ol (b0_.Columns.map Ac),0)]) false (leK (JgB (encN:=Ac) h300) (leK (JeX λ _=>rfl) (leZ))) (Dz (JbE (encN:=Ac) (encD:=L3) h300 λ _=>rfl) (Dz rfl rfl)) (Fj h301) (Or.inr trivial) rfl (ck 1 (en (bk 0 (bx H λ y78 h311 H=>lX Io h311 (tr (tr (tr (tr (BL 2 0 1 (by kernel_rfl)) (BL 2 1 1 (by kernel_rfl))) (BL 3 0 1 (by kernel_rfl))) (BL 3 1 1 (by kernel_rfl))) (gP [0,2,3,4,5,6] [0,1,2,3,4,5,6,7] (po1 (pn1 Ac b0_.Columns (po1 (po1 (po1 (po1 (po1 (po1 (Pl.z))))))))))) rfl λ s hE64=>qH (qs (hE64) (sr (ck 2 (en (re (by cases H;exact pL (rl (s':=Jdi b0_ z) (gP [2] [0,1,2,6,7] (po1 (pn1 Ac b0_.Columns (po1 (po1 (po1 (Pl.z))))))))))))))))))))))))))))))))))))
end
section
variable (p0_:Ad) (p1_:(List UInt8))
def JhT:St:=⟨(0,.agg [.d (.int .i64 p0_.Modes),.d (.int .u8 p0_.Accept),.d (.sl (p0_.Rules.map An))])::(1,.d (.str p1_))::[],[]⟩
variable {p0_ p1_}
theorem Vk {z} (H:MN n p0_ p1_=some z):AD Tryz.prog 34 [.agg (AK p0_),.d (.str p1_)] (.tup [.agg [.own 1 (z.1.Cells.map eU8),.own 1 (z.1.Path.map Ae)],.d (.int .i64 z.2.1),.d (.int .i64 z.2.2)]):=by
 refine fO 50 (JhT p0_ p1_) Tryz.func34 (sr (ck 4 (en (sq (sr (ck 1 (bx H λ r68 h312 H=>ca true (IM h312) (ck 5 (en (sr (ck 2 (en (cn H (λ H=>?_) (λ H=>?_))))))))))))))
 ·exact sr (ck 6 (en (re (qr (by cases H;exact pr (rT (vs:=[.agg [.d (.nil),.d (.nil)],.d (.int .i64 r68.1),.d (.int .i64 r68.2)]) [] (t1 (a1 (c1 vz (c1 vz (c0)))) (t1 (ad vd) (t1 (ad vd) (t0))))))))))
 ·refine sk (qz (sq (sr (ck 1 (bx H λ r69 h313 H=>ca false (Vj h313) (ck 1 (en (cn H (λ H=>?_) (λ H=>?_)))))))))
  ·exact sr (ck 4 (en (re (qr (by cases H;exact pr (rT (vs:=[.agg [.d (.nil),.d (.nil)],.d (.int .i64 0),.d (.int .i64 61)]) [] (t1 (a1 (c1 vz (c1 vz (c0)))) (t1 (ad vd) (t1 (ad vd) (t0))))))))))
  ·refine sk (qz (sr (ck 2 (bx H λ r70 h314 H=>lt [] (PY h314) (tb (f:=Dy (Cu [] 2 0)) [some (.box (AK p0_)),some (.box [.d (.nil),.d (.nil)]),some (.box (Al r70 (.osl 3 2 0 (r70.Columns.length)))),some (.narr 2 (r70.Columns.map Ac))] (po1 (po1 (po1 (pn1 Ac r70.Columns (Pl.z))))) (ck 1 (en (sr (ck 1 (bx H λ r71 h315 H=>ltP [2,3] (Nf h315) (po1 (pn1 Ac r70.Columns (Pl.z))) (tb (f:=Dy (Cu [2,3] 4 2)) [some (.box (AK p0_)),some (.box [.d (.nil),.d (.nil)]),some (.box (Al r71 (.osl 3 2 0 (r71.Columns.length)))),some (.narr 2 (r71.Columns.map Ac))] (po1 (po1 (po1 (pn1 Ac r71.Columns (Pl.z))))) (en (sr (ck 1 (bx H λ r72 h316 H=>ltP [2,3] (Ng h316) (po1 (pn1 Ac r71.Columns (Pl.z))) (tb (f:=Dy (Cu [2,3] 4 2)) [some (.box (AK p0_)),some (.box [.d (.nil),.d (.nil)]),some (.box (Al r72 (.osl 3 2 0 (r72.Columns.length)))),some (.narr 2 (r72.Columns.map Ac))] (po1 (po1 (po1 (pn1 Ac r72.Columns (Pl.z))))) (en (sq (sq (bx H λ x128 h317 H=>rg (tr (so1 (encN:=Ac) 3 2 h317) (sno (encN:=Ac) (enc:=Ae) h317 [.own 1 (x128.States.map Ae),.own 1 (x128.Costs.map Ae)] x128.Costs 2 3 1 1)) (ck 4 (sp (Az 3 2 h317) (ck 1 (sp (Ci (encN:=Ac) (row:=[.own 1 (x128.States.map Ae),.osl 4 1 0 (x128.Costs.length)]) (k:=3) (sz:=2) (off:=1) (t:=ty 35) (v:=.osl 4 1 0 (x128.Costs.length)) h317) (bx H λ x129 h318 H=>sp (Az 4 1 h318) (sp (CJ Ae 4 0 (ty 3) h318) (ck 1 (en (cn H (λ H=>?_) (λ H=>?_))))))))))))))))))))))))))))))
   ·exact sq (rg (tr (tr (tr (sni (encN:=Ac) (xs:=r72.Columns) (n:=0) (enc:=Ae) [.own 1 (x128.States.map Ae),.osl 4 1 0 (x128.Costs.length)] x128.Costs 2 3 1 4 1) (scl (encN:=Ac) (xss:=r72.Columns) 0 [.own 1 (x128.States.map Ae),.own 1 (x128.Costs.map Ae)] 2 3 x128)) (sn 34 3 2 (lsS r72.Columns (Int.toNat 0) x128))) (snc 2 6 3 2 (lsS r72.Columns (Int.toNat 0) x128))) (ck 8 (en (re (qr (by cases H;exact pr (rT (vs:=[.agg [.d (.nil),.d (.nil)],.d (.int .i64 r72.Last),.d (.int .i64 61)]) [] (t1 (a1 (c1 vz (c1 vz (c0)))) (t1 (ad vd) (t1 (ad vd) (t0)))))))))))
   ·exact sk (qz (sq (rg (tr (tr (tr (sni (encN:=Ac) (xs:=r72.Columns) (n:=0) (enc:=Ae) [.own 1 (x128.States.map Ae),.osl 4 1 0 (x128.Costs.length)] x128.Costs 2 3 1 4 1) (scl (encN:=Ac) (xss:=r72.Columns) 0 [.own 1 (x128.States.map Ae),.own 1 (x128.Costs.map Ae)] 2 3 x128)) (sn 34 3 2 (lsS r72.Columns (Int.toNat 0) x128))) (snc 2 6 3 2 (lsS r72.Columns (Int.toNat 0) x128))) (ck 1 (bx H λ r73 h319 H=>ltP [2,3] (Kw h319) (po1 (pn1 Ac (List.set r72.Columns (Int.toNat 0) x128) (Pl.z))) (tb (f:=Dy (Cu [2,3] 5 2)) [some (.box (AK p0_)),some (.box [.d (.nil),.d (.nil)]),some (.box (Al r72 (.osl 3 2 0 (List.length (List.set r72.Columns (Int.toNat 0) x128))))),some (.narr 2 (List.map Ac (List.set r72.Columns (Int.toNat 0) x128))),none,some (.box [.osl 6 1 0 (r73.Cells.length),.osl 7 1 0 (r73.Path.length)]),some (.arr 1 (r73.Cells.map eU8)),some (.arr 1 (r73.Path.map Ae))] (po1 (po1 (po1 (pn1 Ac (List.set r72.Columns (Int.toNat 0) x128) (po1 (po1 (po1 (po1 (Pl.z))))))))) (ck 5 (en (re (by cases H;exact pr (rT (vs:=[.agg [.osl 6 1 0 (r73.Cells.length),.osl 7 1 0 (r73.Path.length)],.d (.int .i64 ((p1_.length:Nat):Int)),.d (.int .i64 0)]) [6,7] (t1 (a1 (c1 vo (c1 vo (c0)))) (t1 (ad vd) (t1 (ad vd) (t0)))))))))))))))
end
section
variable (p0_:Ad) (p1_:AX)
def JhU:St:=⟨(0,.agg [.d (.int .i64 p0_.Modes),.d (.int .u8 p0_.Accept),.d (.sl (p0_.Rules.map An))])::(1,.agg [.d (.str p1_.Text),.d (.sl (p1_.Costs.map (eL Ae))),.d (.sl (p1_.Least.map Ae))])::[],[]⟩
variable {p0_ p1_}
theorem Nx {z} (H:HY n p0_ p1_=some z):AD Tryz.prog 16 [.agg (AK p0_),.agg (CQ p1_)] (.tup [.agg [.d (.sl (z.1.Cells.map eU8)),.d (.sl (z.1.Path.map Ae))],.d (.int .i64 z.2)]):=by
 refine fO 21 (JhU p0_ p1_) Tryz.func16 (sr (ck 4 (en (sr (ck 3 (bx H λ r74 h320 H=>ca false (Vk h320) (ck 8 (en (sq (sr (ck 2 (en (cn H (λ H=>?_) (λ H=>?_))))))))))))))
 ·exact sr (ck 3 (en (re (qr (by cases H;exact pr (rT (vs:=[.agg [.d (.nil),.d (.nil)],.d (.int .i64 61)]) [] (t1 (a1 (c1 vn (c1 vn (c0)))) (t1 (ad vd) (t0)))))))))
 ·exact sk (qz (sr (ck 3 (en (re (by cases H;exact pr rdT))))))
end
section
variable (p0_:(List Int)) (p1_:(List Int)) (i_8:Int)
def JhV:St:=⟨(0,.d (.sl (p0_.map Ae)))::(1,.d (.sl (p1_.map Ae)))::[],[]⟩
def JhW:St:=⟨(0,.d (.sl (p0_.map Ae)))::(1,.d (.sl (p1_.map Ae)))::(5,.d (.int .i64 i_8))::[],[]⟩
def JhX:St:=⟨[],[]⟩
def Tq:(Unit⊕Bool)->Ex->St->Prop:=xS (xX 0 0 (λ (_:Unit)=>JhX)) (xR ty Tryz.f20 (λ (y:Bool)=>.d (.bool y)))
def Ny:Int->St:=(λ (x:Int)=>JhW p0_ p1_ x)
variable {p0_ p1_ i_8}
theorem Md (x:Int) (z:(Int⊕(Unit⊕Bool))) (H:Fy n p0_ p1_ x=some z):WP (cxk 26 0) (Aw Tryz.f20) [1,1,0,1,0,0] (Au 0 (Ny p0_ p1_) (Tq) z) (Ny p0_ p1_ x):=by
 revert H
 generalize x=i_8
 intro H
 refine sq (sr (ck 2 (sp (AB Ae p0_) (ck 1 (en (cn H (λ H=>?_) (λ H=>?_)))))))
 ·refine sk (qz (sq (bk 1 (sr (ck 2 (bx H λ x130 h321 H=>sp (Am Ae h321) (ck 3 (bx H λ x131 h322 H=>sp (Am Ae h322) (ck 2 (en (cn H (λ H=>?_) (λ H=>?_))))))))))))
  ·exact sr (ck 1 (en (re (qR (qr (by cases H;exact ro rfl rd))))))
  ·exact sk (qN (qz (rz (ck 3 (ae (by cases H;exact og (sg [0,1,5])))))))
 ·exact ex 0 (qx (by cases H;exact xo rfl (sg [])))
theorem Eg {z} (H:DN n p0_ p1_=some z):AD Tryz.prog 20 [.d (.sl (p0_.map Ae)),.d (.sl (p1_.map Ae))] (.d (.bool z)):=by
 refine fO 26 (JhV p0_ p1_) Tryz.func20 (sr (ck 1 (en (sq (sr (ck 1 (sp (AB Ae p0_) (ck 1 (sp (AB Ae p1_) (ck 1 (en (cn H (λ H=>?_) (λ H=>?_)))))))))))))
 ·exact sr (ck 1 (en (re (qr (by cases H;exact pr rd)))))
 ·refine sk (qz (sq (sr (ck 1 (en (bk 0 (bx H λ y79 h323 H=>?_)))))))
  rcases y79 with y80|y81
  ·exact lX Md h323 (sg [0,1,5]) rfl λ s hE65=>qH (qs (hE65) (sr (ck 1 (en (re (by cases H;exact pr rd))))))
  ·exact lR Md h323 (sg [0,1,5]) rfl λ s hE66=>qR (qr (by cases H;exact pr hE66))
end
section
variable (p0_:(List Int)) (p1_:(List Int)) (i_9:Int)
def JhY:St:=⟨(0,.d (.sl (p0_.map eU8)))::(1,.d (.sl (p1_.map eU8)))::[],[]⟩
def JhZ:St:=⟨(0,.d (.sl (p0_.map eU8)))::(1,.d (.sl (p1_.map eU8)))::(5,.d (.int .i64 i_9))::[],[]⟩
def Jh0:St:=⟨[],[]⟩
def N5:(Unit⊕Bool)->Ex->St->Prop:=xS (xX 0 0 (λ (_:Unit)=>Jh0)) (xR ty Tryz.f42 (λ (y:Bool)=>.d (.bool y)))
def H7:Int->St:=(λ (x:Int)=>JhZ p0_ p1_ x)
variable {p0_ p1_ i_9}
theorem Hp (x:Int) (z:(Int⊕(Unit⊕Bool))) (H:CH n p0_ p1_ x=some z):WP (cxk 26 0) (Aw Tryz.f42) [1,1,0,1,0,0] (Au 0 (H7 p0_ p1_) (N5) z) (H7 p0_ p1_ x):=by
 revert H
 generalize x=i_9
 intro H
 refine sq (sr (ck 2 (sp (AB eU8 p0_) (ck 1 (en (cn H (λ H=>?_) (λ H=>?_)))))))
 ·refine sk (qz (sq (bk 1 (sr (ck 2 (bx H λ x132 h324 H=>sp (Am eU8 h324) (ck 3 (bx H λ x133 h325 H=>sp (Am eU8 h325) (ck 2 (en (cn H (λ H=>?_) (λ H=>?_))))))))))))
  ·exact sr (ck 1 (en (re (qR (qr (by cases H;exact ro rfl rd))))))
  ·exact sk (qN (qz (rz (ck 3 (ae (by cases H;exact og (sg [0,1,5])))))))
 ·exact ex 0 (qx (by cases H;exact xo rfl (sg [])))
theorem JO {z} (H:Db n p0_ p1_=some z):AD Tryz.prog 42 [.d (.sl (p0_.map eU8)),.d (.sl (p1_.map eU8))] (.d (.bool z)):=by
 refine fO 26 (JhY p0_ p1_) Tryz.func42 (sr (ck 1 (en (sq (sr (ck 1 (sp (AB eU8 p0_) (ck 1 (sp (AB eU8 p1_) (ck 1 (en (cn H (λ H=>?_) (λ H=>?_)))))))))))))
 ·exact sr (ck 1 (en (re (qr (by cases H;exact pr rd)))))
 ·refine sk (qz (sq (sr (ck 1 (en (bk 0 (bx H λ y82 h326 H=>?_)))))))
  rcases y82 with y83|y84
  ·exact lX Hp h326 (sg [0,1,5]) rfl λ s hE67=>qH (qs (hE67) (sr (ck 1 (en (re (by cases H;exact pr rd))))))
  ·exact lR Hp h326 (sg [0,1,5]) rfl λ s hE68=>qR (qr (by cases H;exact pr hE68))
end
section
variable (p0_:AT) (p1_:AT)
def Jh1:St:=⟨(0,.agg [.d (.sl (p0_.Cells.map eU8)),.d (.sl (p0_.Path.map Ae))])::(1,.agg [.d (.sl (p1_.Cells.map eU8)),.d (.sl (p1_.Path.map Ae))])::[],[]⟩
variable {p0_ p1_}
theorem WY {z} (H:OQ n p0_ p1_=some z):AD Tryz.prog 18 [.agg [.d (.sl (p0_.Cells.map eU8)),.d (.sl (p0_.Path.map Ae))],.agg [.d (.sl (p1_.Cells.map eU8)),.d (.sl (p1_.Path.map Ae))]] (.d (.bool z)):=by
 exact fO 17 (Jh1 p0_ p1_) Tryz.func18 (sr (ck 3 (en (sr (ck 4 (bx H λ r75 h327 H=>ca false (JO h327) (ck 2 (gc 1 r75 (ck 1 (gc 1 r75 (bx H λ r76 h328 H=>cG false (leZ) rfl (λ hg=>Eg (BB h328 hg)) (Or.inl rfl) (BY (λ hh=>hh) (BY (λ hh=>hh) (Eb))) rfl (pA (ck 1 (en (re (by cases H;exact pr rd))))))))))))))))
end
def Jkn:St:=⟨[],[]⟩
theorem Tr {z} (H:HZ n=some z):AD Tryz.prog 6 [] (.d (.bool z)):=by
 exact fO 139 Jkn Tryz.func6 (sr (ck 1 (en (sr (bx H λ r77 h329 H=>ca false (Tm h329) (ck 2 (en (sr (ck 1 (bx H λ r78 h330 H=>ca false (Kl h330) (ck 6 (en (sr (ck 1 (bx H λ r79 h331 H=>ca false (Kl h331) (ck 6 (en (sr (ck 3 (bx H λ r80 h332 H=>ca false (GP h332) (ck 8 (en (sr (ck 3 (bx H λ r81 h333 H=>ca false (GP h333) (ck 8 (en (sr (ck 3 (bx H λ r82 h334 H=>ca false (GP h334) (ck 8 (en (sr (ck 2 (bx H λ r83 h335 H=>ca false (Nx h335) (ck 6 (en (sr (ck 1 (bx H λ r84 h336 H=>ca false (Kl h336) (ck 6 (en (sr (ck 2 (bx H λ r85 h337 H=>ca false (Nx h337) (ck 6 (en (sr (ck 4 (gc 1 (r78.2==0) (pA (ck 2 (gc 1 ((r78.2==0)&&(r79.2==60)) (pA (ck 2 (gc 1 (((r78.2==0)&&(r79.2==60))&&(r80.2.2==0)) (pA (ck 2 (gc 1 ((((r78.2==0)&&(r79.2==60))&&(r80.2.2==0))&&(r81.2.2==1)) (pA (ck 2 (gc 1 (((((r78.2==0)&&(r79.2==60))&&(r80.2.2==0))&&(r81.2.2==1))&&(r82.2.2==60)) (pA (ck 2 (gc 1 ((((((r78.2==0)&&(r79.2==60))&&(r80.2.2==0))&&(r81.2.2==1))&&(r82.2.2==60))&&(r83.2==0)) (pA (ck 2 (gc 1 (((((((r78.2==0)&&(r79.2==60))&&(r80.2.2==0))&&(r81.2.2==1))&&(r82.2.2==60))&&(r83.2==0))&&(r84.2==0)) (pA (ck 1 (en (sr (ck 3 (gc 1 ((((((((r78.2==0)&&(r79.2==60))&&(r80.2.2==0))&&(r81.2.2==1))&&(r82.2.2==60))&&(r83.2==0))&&(r84.2==0))&&(r85.2==61)) (ck 1 (bx H λ r86 h338 H=>cG (ks:=[9]) (obl:=[(0+List.length [2,1,1,0],List.length (List.map Ae [2,1,1,0]))]) false (leK leM (leZ)) (Dz rfl (Dz Sj rfl)) (λ hg=>Eg (BB h338 hg)) (Or.inr trivial) (BY (λ hh=>hh) (BY (λ hh=>hh) (Eb))) rfl (pA (ck 2 (gc 1 (((((((((r78.2==0)&&(r79.2==60))&&(r80.2.2==0))&&(r81.2.2==1))&&(r82.2.2==60))&&(r83.2==0))&&(r84.2==0))&&(r85.2==61))&&r86) (pA (ck 2 (gc 2 ((((((((((r78.2==0)&&(r79.2==60))&&(r80.2.2==0))&&(r81.2.2==1))&&(r82.2.2==60))&&(r83.2==0))&&(r84.2==0))&&(r85.2==61))&&r86)&&(r80.2.1==1)) (pA (ck 2 (gc 1 (((((((((((r78.2==0)&&(r79.2==60))&&(r80.2.2==0))&&(r81.2.2==1))&&(r82.2.2==60))&&(r83.2==0))&&(r84.2==0))&&(r85.2==61))&&r86)&&(r80.2.1==1))&&(r80.1.Text==[98,97,98])) (ck 1 (bx H λ r87 h339 H=>cG (ks:=[10]) (obl:=[(0+List.length [2,1,1,0],List.length (List.map Ae [2,1,1,0]))]) false (leK leM (leZ)) (Dz rfl (Dz Sj rfl)) (λ hg=>Eg (BB h339 hg)) (Or.inr trivial) (BY (λ hh=>hh) (BY (λ hh=>hh) (Eb))) rfl (pA (ck 4 (gc 1 ((((((((((((r78.2==0)&&(r79.2==60))&&(r80.2.2==0))&&(r81.2.2==1))&&(r82.2.2==60))&&(r83.2==0))&&(r84.2==0))&&(r85.2==61))&&r86)&&(r80.2.1==1))&&(r80.1.Text==[98,97,98]))&&r87) (bx H λ r88 h340 H=>cG (ks:=[11,12]) (obl:=[(0+List.length [1,7],List.length (List.map eU8 [1,7])),(0+List.length [0,2],List.length (List.map Ae [0,2]))]) false (leK leM (leK leM (leZ))) (Dz rfl (Dz (JjA (Dz Sj (Dz Sj rfl))) rfl)) (λ hg=>WY (BB h340 hg)) (Or.inr trivial) (BY (λ hh=>hh) (BY (λ hh=>hh) (Eb))) rfl (pA (ck 2 (gc 1 (((((((((((((r78.2==0)&&(r79.2==60))&&(r80.2.2==0))&&(r81.2.2==1))&&(r82.2.2==60))&&(r83.2==0))&&(r84.2==0))&&(r85.2==61))&&r86)&&(r80.2.1==1))&&(r80.1.Text==[98,97,98]))&&r87)&&r88) (ck 1 (bx H λ r89 h341 H=>cG (ks:=[13]) (obl:=[(0+List.length [(-1),0],List.length (List.map Ae [(-1),0]))]) false (leK leM (leZ)) (Dz rfl (Dz Sj rfl)) (λ hg=>Eg (BB h341 hg)) (Or.inr trivial) (BY (λ hh=>hh) (BY (λ hh=>hh) (Eb))) rfl (pA (ck 1 (en (re (by cases H;exact pr rd)))))))))))))))))))))))))))))))))))))))))))))))))))))))))))))))))))))))))))))))))))))))))))))))))))))
section
variable (p0_:(List UInt8)) (p1_:(List Int)) (p2_:(FL Int))
def Jh2:St:=⟨(0,.d (.str p0_))::(1,.d (.sl (p1_.map eU8)))::(2,.agg [.d (.int .i64 p2_.a0),.d (.int .i64 p2_.a1)])::[],[]⟩
variable {p0_ p1_ p2_}
theorem AQ {z} (H:A7 n p0_ p1_ p2_=some z):AD Tryz.prog 45 [.d (.str p0_),.d (.sl (p1_.map eU8)),.agg [.d (.int .i64 p2_.a0),.d (.int .i64 p2_.a1)]] (.agg [.d (.str z.Print),.d (.sl (z.Cells.map eU8)),.d (.int .u8 z.Left),.d (.int .u8 z.Right),.d (.int .i64 z.From),.d (.int .i64 z.To)]):=by
 exact fO 14 (Jh2 p0_ p1_ p2_) Tryz.func45 (sr (ck 2 (en (sr (ck 8 (en (re (by cases H;exact pr rd))))))))
end
def Jh3:St:=⟨[],[]⟩
theorem SE {z} (H:QE n=some z):AD Tryz.prog 43 [] (.own 6 (z.map An)):=by
 exact fO 16 Jh3 Tryz.func43 (sr (ck 1 (en (sr (ck 3 (en (sr (sF (ck 1 (bx H λ r90 h342 H=>ca false (AQ h342) (sF (ck 1 (bx H λ r91 h343 H=>ca false (AQ h343) (sF (ck 1 (bx H λ r92 h344 H=>ca false (AQ h344) (sF (ck 1 (bx H λ r93 h345 H=>ca false (AQ h345) (ck 2 (en (re (by cases H;exact pr (rO (v:=.osl 1 6 0 (List.length [r90,r91,r92,r93])) [1] (ao vo)))))))))))))))))))))))))
section
variable (p0_:Int) (p1_:Int) (p2_:(FL Int))
def Jh4:St:=⟨(0,.d (.int .u8 p0_))::(1,.d (.int .i64 p1_))::(2,.agg [.d (.int .i64 p2_.a0),.d (.int .i64 p2_.a1)])::[],[]⟩
variable {p0_ p1_ p2_}
theorem GD {z} (H:GN n p0_ p1_ p2_=some z):AD Tryz.prog 44 [.d (.int .u8 p0_),.d (.int .i64 p1_),.agg [.d (.int .i64 p2_.a0),.d (.int .i64 p2_.a1)]] (.agg [.d (.str z.Print),.d (.sl (z.Cells.map eU8)),.d (.int .u8 z.Left),.d (.int .u8 z.Right),.d (.int .i64 z.From),.d (.int .i64 z.To)]):=by
 exact fO 16 (Jh4 p0_ p1_ p2_) Tryz.func44 (sr (ck 2 (en (sr (ck 1 (sF (ck 1 (bx H λ r94 h346 H=>ca false (AQ h346) (ck 2 (en (sr (ck 1 (bx H λ gd9 h347 H=>so (HU h347) (ck 2 (en (sr (ck 2 (en (re (by cases H;exact pr rd))))))))))))))))))))
end
section
variable (p0_:Int) (l_1:(List Ax))
def Jh5:St:=⟨(0,.d (.int .u8 p0_))::[],[]⟩
def Jh6:St:=⟨(2,.ptr 0 0)::(3,.osl 1 6 0 (l_1.length))::[],[some (.box [.d (.int .i64 0),.d (.int .u8 0),.osl 2 6 0 (List.length ([]:List Ax))]),some (.arr 6 (l_1.map An)),some (.arr 6 (List.map An ([]:List Ax)))]⟩
variable {p0_ l_1}
theorem WZ {z} (H:JE n p0_=some z):AD Tryz.prog 21 [.d (.int .u8 p0_)] (.agg [.d (.int .i64 z.Modes),.d (.int .u8 z.Accept),.own 6 (z.Rules.map An)]):=by
 refine fO 121 (Jh5 p0_) Tryz.func21 (sr (ck 1 (en (sr (bx H λ r95 h348 H=>cl [List.length r95] (SE h348) (ck 13 (en (sj (λ (x:(List Ax))=>Jh6 x) (λ (x:(List Ax))=>Fz n x) z ?_ (λ hFR2_Base_J1=>?_)))))))))
 ·intro l_1 H
  exact sr (ck 3 (en (re (by cases H;exact pr (rO (v:=.agg [.d (.int .i64 1),.d (.int .u8 1),.osl 1 6 0 (l_1.length)]) [1] (a1 (c1 vd (c1 vd (c1 vo (c0))))))))))
 refine sr (ck 2 (en (bk 0 (sr (ck 2 (en (cn H (λ H=>?_) (λ H=>?_))))))))
 ·exact sr (ck 2 (bx H λ r96 h349 H=>ca false (GD h349) (sF (ck 1 (bx H λ r97 h350 H=>ca false (AQ h350) (sF (ck 1 (bx H λ r98 h351 H=>ca false (AQ h351) (sF (ck 1 (bx H λ r99 h352 H=>ca false (AQ h352) (ck 1 (bx H λ l43 h353 H=>sp (B5 An 1 6 h353) (ck 1 (en (sr (ck 3 (en (re (qR (qr (by cases H;exact pr (rO (v:=.agg [.d (.int .i64 2),.d (.int .u8 3),.osl 7 6 0 (l43.length)]) [7] (a1 (c1 vd (c1 vd (c1 vo (c0))))))))))))))))))))))))))))
 ·refine sr (ck 2 (en (cn H (λ H=>?_) (λ H=>?_))))
  ·exact sr (ck 2 (bx H λ r100 h354 H=>ca false (GD h354) (sF (ck 1 (bx H λ r101 h355 H=>ca false (AQ h355) (sF (ck 1 (bx H λ r102 h356 H=>ca false (AQ h356) (ck 1 (bx H λ l44 h357 H=>sp (B5 An 1 6 h357) (ck 1 (en (sr (ck 3 (en (re (qR (qr (by cases H;exact pr (rO (v:=.agg [.d (.int .i64 2),.d (.int .u8 1),.osl 7 6 0 (l44.length)]) [7] (a1 (c1 vd (c1 vd (c1 vo (c0)))))))))))))))))))))))))
  ·refine sr (ck 2 (en (cn H (λ H=>?_) (λ H=>?_))))
   ·exact rz (ck 1 (sF (ck 1 (bx H λ r103 h358 H=>ca false (AQ h358) (sF (ck 1 (bx H λ r104 h359 H=>ca false (AQ h359) (sF (ck 1 (bx H λ r105 h360 H=>ca false (AQ h360) (ck 1 (bx H λ l45 h361 H=>sp (B5 An 1 6 h361) (ck 1 (ae (qN (qs (tr (BL 0 2 6 (by kernel_rfl)) (sg [2,3])) (hFR2_Base_J1 l45 H)))))))))))))))))
   ·refine sr (ck 2 (en (cn H (λ H=>?_) (λ H=>?_))))
    ·exact rz (ck 1 (sF (ck 1 (bx H λ r106 h362 H=>ca false (AQ h362) (ck 1 (bx H λ l46 h363 H=>sp (B5 An 1 6 h363) (ck 1 (ae (qN (qs (tr (BL 0 2 6 (by kernel_rfl)) (sg [2,3])) (hFR2_Base_J1 l46 H)))))))))))
    ·refine sr (ck 2 (en (cn H (λ H=>?_) (λ H=>?_))))
     ·exact sr (sF (ck 1 (bx H λ r107 h364 H=>ca false (AQ h364) (sF (ck 1 (bx H λ r108 h365 H=>ca false (AQ h365) (ck 4 (en (sr (ck 4 (en (rz (ck 3 (sF (ck 1 (bx H λ r109 h366 H=>ca false (AQ h366) (ck 1 (bx H λ l47 h367 H=>sp (B5 An 1 6 h367) (ck 1 (ae (qN (qs (tr (BL 0 2 6 (by kernel_rfl)) (sg [2,3])) (hFR2_Base_J1 l47 H)))))))))))))))))))))))
     ·refine sr (ck 2 (en (cn H (λ H=>?_) (λ H=>?_))))
      ·exact sr (ck 2 (bx H λ r110 h368 H=>ca false (GD h368) (sF (ck 1 (bx H λ r111 h369 H=>ca false (AQ h369) (sF (ck 1 (bx H λ r112 h370 H=>ca false (AQ h370) (ck 1 (bx H λ l48 h371 H=>sp (B5 An 1 6 h371) (ck 1 (en (sr (ck 3 (en (re (qR (qr (by cases H;exact pr (rO (v:=.agg [.d (.int .i64 2),.d (.int .u8 1),.osl 7 6 0 (l48.length)]) [7] (a1 (c1 vd (c1 vd (c1 vo (c0)))))))))))))))))))))))))
      ·refine sr (ck 2 (en (cn H (λ H=>?_) (λ H=>?_))))
       ·exact rz (ck 1 (sF (ck 1 (bx H λ r113 h372 H=>ca false (AQ h372) (sF (ck 1 (bx H λ r114 h373 H=>ca false (AQ h373) (sF (ck 1 (bx H λ r115 h374 H=>ca false (AQ h374) (ck 1 (bx H λ l49 h375 H=>sp (B5 An 1 6 h375) (ck 1 (ae (qN (qs (tr (BL 0 2 6 (by kernel_rfl)) (sg [2,3])) (hFR2_Base_J1 l49 H)))))))))))))))))
       ·exact sk (qN (qs (tr (BL 0 2 6 (by kernel_rfl)) (sg [2,3])) (hFR2_Base_J1 r95 H)))
end
section
variable (p0_:Dp) (p1_:Int) (out_1:Ax) (i_10:Int) (out_2:Ax) (out_3:Ax) (i_11:Int) (out_4:Ax)
def Jh7:St:=⟨(0,.agg [.d (.sl (p0_.P.map eU8)),.d (.sl (p0_.C.map eU8)),.d (.int .u8 p0_.L),.d (.int .u8 p0_.R),.d (.int .u8 p0_.W.a0),.d (.int .u8 p0_.W.a1)])::(1,.d (.int .i64 p1_))::[],[]⟩
def Jh8:St:=⟨(2,.ptr 0 0)::(4,.ptr 1 0)::(5,.d (.str [97,98,99,65,66,49,50,45,46]))::(7,.ptr 2 0)::(8,.d (.int .i64 i_10))::[],[some (.box (OU p0_)),some (.box [.d (.str []),.osl 3 1 0 (List.length ([]:List Int)),.d (.int .u8 0),.d (.int .u8 0),.d (.int .i64 0),.d (.int .i64 0)]),some (.box (Rh out_1 (.osl 4 1 0 (out_1.Cells.length)))),some (.arr 1 (List.map eU8 ([]:List Int))),some (.arr 1 (out_1.Cells.map eU8))]⟩
def Jh9:St:=⟨(2,.ptr 0 0)::(4,.ptr 1 0)::(7,.ptr 2 0)::[],[some (.box (OU p0_)),some (.box [.d (.str []),.osl 3 1 0 (List.length ([]:List Int)),.d (.int .u8 0),.d (.int .u8 0),.d (.int .i64 0),.d (.int .i64 0)]),some (.box (Rh out_2 (.osl 4 1 0 (out_2.Cells.length)))),some (.arr 1 (List.map eU8 ([]:List Int))),some (.arr 1 (out_2.Cells.map eU8))]⟩
def Ts:Ax->Ex->St->Prop:=xX 0 0 (λ (y:Ax)=>Jh9 p0_ y)
def Nz:(Ax×Int)->St:=(λ (x:(Ax×Int))=>Jh8 p0_ x.1 x.2)
def Jia:St:=⟨(2,.ptr 0 0)::(4,.ptr 1 0)::(7,.ptr 2 0)::(10,.osl 3 1 0 (List.length [1,3,9,5,7,32,44,60]))::(11,.d (.int .i64 i_11))::[],[some (.box (OU p0_)),some (.box [.d (.str []),.osl 4 1 0 (List.length ([]:List Int)),.d (.int .u8 0),.d (.int .u8 0),.d (.int .i64 0),.d (.int .i64 0)]),some (.box (Rh out_3 (.osl 5 1 0 (out_3.Cells.length)))),some (.arr 1 (List.map eU8 [1,3,9,5,7,32,44,60])),some (.arr 1 (List.map eU8 ([]:List Int))),some (.arr 1 (out_3.Cells.map eU8))]⟩
def Jib:St:=⟨(4,.ptr 0 0)::(7,.ptr 1 0)::[],[some (.box [.d (.str []),.osl 2 1 0 (List.length ([]:List Int)),.d (.int .u8 0),.d (.int .u8 0),.d (.int .i64 0),.d (.int .i64 0)]),some (.box (Rh out_4 (.osl 3 1 0 (out_4.Cells.length)))),some (.arr 1 (List.map eU8 ([]:List Int))),some (.arr 1 (out_4.Cells.map eU8))]⟩
def Tt:Ax->Ex->St->Prop:=xX 0 2 (λ (y:Ax)=>Jib y)
def NA:(Ax×Int)->St:=(λ (x:(Ax×Int))=>Jia p0_ x.1 x.2)
variable {p0_ p1_ out_1 i_10 out_2 out_3 i_11 out_4}
theorem SF (x:(Ax×Int)) (z:((Ax×Int)⊕Ax)) (H:FA n p0_ x.1 x.2=some z):WP (cxk 101 0) (Aw Tryz.f22) [1,1,1,0,1,0,0] (Au 0 (Nz p0_) (Ts p0_) z) (Nz p0_ x):=by
 obtain ⟨out_1,i_10⟩:=x
 refine sq (sr (ck 3 (sp (AB eU8 p0_.P) (ck 3 (gc 1 (decide (i_10<((p0_.P.length:Nat):Int))) (pA (en (cn H (λ H=>?_) (λ H=>?_)))))))))
 ·exact sk (qz (sq (bk 1 (sr (ck 3 (bx H λ x136 h380 H=>sp (Am eU8 h380) (ck 4 (en (rz (ck 6 (bx H λ s9 h381 H=>sp (Hw h381) (bx H λ s10 h382 H=>sp (PF h382) (ck 2 (ae (qN (qz (rz (ck 3 (ae (by cases H;exact og (sg [2,4,5,7,8])))))))))))))))))))))
 ·exact ex 0 (qx (by cases H;exact xo rfl (sg [2,4,7])))
theorem SG (x:(Ax×Int)) (z:((Ax×Int)⊕Ax)) (H:FB n p0_ x.1 x.2=some z):WP (cxk 101 0) (Aw Tryz.f22) [1,1,1,1,1,1,0,1,0,0] (Au 0 (NA p0_) (Tt) z) (NA p0_ x):=by
 obtain ⟨out_3,i_11⟩:=x
 refine sq (sr (ck 3 (sp (AB eU8 p0_.C) (ck 3 (gc 1 (decide (i_11<((p0_.C.length:Nat):Int))) (pA (en (cn H (λ H=>?_) (λ H=>?_)))))))))
 ·exact sk (qz (sq (bk 3 (rz (ck 6 (bx H λ x138 h385 H=>sp (Am eU8 h385) (ck 2 (bx H λ x139 h386 H=>sp (Az 3 1 h386) (sp (CJ eU8 3 0 (ty 64) h386) (ck 1 (bx H λ l50 h387 H=>sp (B5 eU8 5 1 h387) (ck 2 (ae (qN (qz (rz (ck 3 (ae (by cases H;exact og (sg [2,4,7,10,11]))))))))))))))))))))
 ·exact ex 2 (qx (by cases H;exact xo rfl (sg [4,7])))
theorem W2 {z} (H:OR n p0_ p1_=some z):AD Tryz.prog 22 [.agg (OU p0_),.d (.int .i64 p1_)] (.agg [.d (.str z.Print),.own 1 (z.Cells.map eU8),.d (.int .u8 z.Left),.d (.int .u8 z.Right),.d (.int .i64 z.From),.d (.int .i64 z.To)]):=by
 exact fO 101 (Jh7 p0_ p1_) Tryz.func22 (sr (ck 2 (en (sr (ck 3 (en (sr (ck 4 (bx H λ x134 h376 H=>sp (Az 2 1 h376) (sp (CJ eU8 2 0 (ty 5) h376) (ck 4 (bx H λ x135 h377 H=>sp (Az 2 1 h377) (sp (CJ eU8 2 0 (ty 5) h377) (ck 5 (bx H λ gd10 h378 H=>so (Sk h378) (ck 5 (bx H λ gd11 h379 H=>so (Sk h379) (ck 3 (en (sq (sr (ck 1 (en (bk 0 (bx H λ y85 h383 H=>lX SF h383 (tr (tr (BL 1 1 1 (by kernel_rfl)) (BL 3 1 1 (by kernel_rfl))) (sg [2,4,5,7,8])) rfl λ s hE69=>qH (qs (hE69) (sr (ck 2 (en (sr (ck 5 (bx H λ x137 h384 H=>sp (Az 5 1 h384) (sp (CJ eU8 5 0 (ty 64) h384) (ck 3 (en (sq (sr (ck 1 (en (bk 2 (bx H λ y86 h388 H=>lX SG h388 (sg [2,4,7,10,11]) rfl λ s hE70=>qH (qs (hE70) (sr (ck 2 (en (re (by cases H;exact pr (rO (v:=.agg [.d (.str z.Print),.osl 3 1 0 (z.Cells.length),.d (.int .u8 z.Left),.d (.int .u8 z.Right),.d (.int .i64 z.From),.d (.int .i64 z.To)]) [3] (a1 (c1 vd (c1 vo (c1 vd (c1 vd (c1 vd (c1 vd (c0))))))))))))))))))))))))))))))))))))))))))))))))))))))))
end
section
variable (p0_:Int)
def Jic:St:=⟨(0,.d (.int .u8 p0_))::[],[]⟩
variable {p0_}
theorem PZ {z} (H:Jd n p0_=some z):AD Tryz.prog 65 [.d (.int .u8 p0_)] (.d (.bool z)):=by
 exact fO 11 (Jic p0_) Tryz.func65 (sr (ck 1 (en (sr (ck 5 (gc 2 (decide (Ch .u8 p0_ 127>=32)) (pA (ck 1 (en (re (by cases H;exact pr rd)))))))))))
end
section
variable (p0_:(List UInt8)) (i_12:Int)
def Jid:St:=⟨(0,.d (.str p0_))::[],[]⟩
def Jie:St:=⟨(0,.d (.str p0_))::(4,.d (.int .i64 i_12))::[],[]⟩
def Jif:St:=⟨(0,.d (.str p0_))::[],[]⟩
def Tu:(Unit⊕(Int×Int))->Ex->St->Prop:=xS (xX 0 0 (λ (_:Unit)=>Jif p0_)) (xR ty Tryz.f35 (λ (y:(Int×Int))=>.tup [.d (.int .i64 y.1),.d (.int .i64 y.2)]))
def NB:Int->St:=(λ (x:Int)=>Jie p0_ x)
variable {p0_ i_12}
theorem Me (x:Int) (z:(Int⊕(Unit⊕(Int×Int)))) (H:II n p0_ x=some z):WP (cxk 19 0) (Aw Tryz.f35) [1,0,1,0,0] (Au 0 (NB p0_) (Tu p0_) z) (NB p0_ x):=by
 revert H
 generalize x=i_12
 intro H
 refine sq (sr (ck 4 (en (cn H (λ H=>?_) (λ H=>?_)))))
 ·refine sk (qz (sq (bk 1 (sr (ck 2 (bx H λ b6 h389 H=>sp (Hv h389) (bx H λ r116 h390 H=>ca false (PZ h390) (ck 1 (en (cn H (λ H=>?_) (λ H=>?_)))))))))))
  ·exact sr (ck 3 (en (re (qR (qr (by cases H;exact ro rfl rdT))))))
  ·exact sk (qN (qz (rz (ck 3 (ae (by cases H;exact og (sg [0,4])))))))
 ·exact ex 0 (qx (by cases H;exact xo rfl (sg [0])))
theorem W3 {z} (H:OS n p0_=some z):AD Tryz.prog 35 [.d (.str p0_)] (.tup [.d (.int .i64 z.1),.d (.int .i64 z.2)]):=by
 refine fO 19 (Jid p0_) Tryz.func35 (sr (ck 2 (en (sq (sr (ck 1 (en (bk 0 (bx H λ y87 h391 H=>?_)))))))))
 rcases y87 with y88|y89
 ·exact lX Me h391 (sg [0,4]) rfl λ s hE71=>qH (qs (hE71) (sr (ck 4 (en (re (by cases H;exact pr rdT))))))
 ·exact lR Me h391 (sg [0,4]) rfl λ s hE72=>qR (qr (by cases H;exact pr hE72))
end
section
variable (p0_:(List UInt8))
def Jig:St:=⟨(0,.d (.str p0_))::[],[]⟩
variable {p0_}
theorem NC {z} (H:H1 n p0_=some z):AD Tryz.prog 32 [.d (.str p0_)] (.d (.bool z)):=by
 exact fO 12 (Jig p0_) Tryz.func32 (sr (ck 1 (en (sr (ck 1 (bx H λ r117 h392 H=>ca false (W3 h392) (ck 5 (en (sr (ck 3 (en (re (by cases H;exact pr rd)))))))))))))
end
section
variable (p0_:Int)
def Jih:St:=⟨(0,.d (.int .u8 p0_))::[],[]⟩
variable {p0_}
theorem Vl {z} (H:PL n p0_=some z):AD Tryz.prog 81 [.d (.int .u8 p0_)] (.d (.bool z)):=by
 exact fO 6 (Jih p0_) Tryz.func81 (sr (ck 1 (en (sr (ck 4 (en (re (by cases H;exact pr rd))))))))
end
section
variable (p0_:Ax) (p1_:Int) (space_1:Bool) (i_13:Int) (space_2:Bool) (y90:Bool) (blank_1:Bool) (i_14:Int) (blank_2:Bool)
def Jii:St:=⟨(0,.agg [.d (.str p0_.Print),.d (.sl (p0_.Cells.map eU8)),.d (.int .u8 p0_.Left),.d (.int .u8 p0_.Right),.d (.int .i64 p0_.From),.d (.int .i64 p0_.To)])::(1,.d (.int .i64 p1_))::[],[]⟩
def Jij:St:=⟨(2,.ptr 0 0)::(5,.d (.bool space_1))::(6,.d (.bool false))::(7,.d (.int .i64 i_13))::[],[some (.box (L4 p0_))]⟩
def Jik:St:=⟨(2,.ptr 0 0)::(5,.d (.bool space_2))::(6,.d (.bool false))::[],[some (.box (L4 p0_))]⟩
def SH:Bool->Ex->St->Prop:=xX 0 0 (λ (y:Bool)=>Jik p0_ y)
def Mf:(Bool×Int)->St:=(λ (x:(Bool×Int))=>Jij p0_ x.1 x.2)
def Jil:St:=⟨(2,.ptr 0 0)::(5,.d (.bool y90))::(6,.d (.bool blank_1))::(8,.d (.int .i64 i_14))::[],[some (.box (L4 p0_))]⟩
def Jim:St:=⟨(2,.ptr 0 0)::(5,.d (.bool y90))::(6,.d (.bool blank_2))::[],[some (.box (L4 p0_))]⟩
def SI:(Bool⊕Bool)->Ex->St->Prop:=xS (xX 0 2 (λ (y:Bool)=>Jim p0_ y90 y)) (xR ty Tryz.f69 (λ (y:Bool)=>.d (.bool y)))
def Mg:(Bool×Int)->St:=(λ (x:(Bool×Int))=>Jil p0_ y90 x.1 x.2)
variable {p0_ p1_ space_1 i_13 space_2 y90 blank_1 i_14 blank_2}
theorem QW (x:(Bool×Int)) (z:((Bool×Int)⊕Bool)) (H:EB n p0_ x.1 x.2=some z):WP (cxk 125 0) (Aw Tryz.f69) [1,1,1,1,0,1,0,0] (Au 0 (Mf p0_) (SH p0_) z) (Mf p0_ x):=by
 obtain ⟨space_1,i_13⟩:=x
 refine sq (sr (ck 5 (en (cn H (λ H=>?_) (λ H=>?_)))))
 ·exact sk (qz (sq (bk 1 (rz (ck 3 (gc 1 (!space_1) (ck 1 (bx H λ b7 h394 H=>sE (λ hg=>Hv (BB h394 hg)) (bx H λ r119 h395 H=>cG false (leZ) rfl (λ hg=>Vl (BB h395 hg)) (Or.inl rfl) (BY (λ hh=>hh) (Eb)) rfl (pO (ck 1 (ae (qN (qz (rz (ck 3 (ae (by cases H;exact og (sg [2,5,6,7])))))))))))))))))))
 ·exact ex 0 (qx (by cases H;exact xo rfl (sg [2,5,6])))
theorem Lc (x:(Bool×Int)) (z:((Bool×Int)⊕(Bool⊕Bool))) (H:DE n p0_ y90 x.1 x.2=some z):WP (cxk 125 0) (Aw Tryz.f69) [1,1,1,1,1,0,1,0,0] (Au 0 (Mg p0_ y90) (SI p0_ y90) z) (Mg p0_ y90 x):=by
 obtain ⟨blank_1,i_14⟩:=x
 refine sq (sr (ck 3 (sp (AB eU8 p0_.Cells) (ck 1 (en (cn H (λ H=>?_) (λ H=>?_)))))))
 ·refine sk (qz (sq (bk 3 (sq (sr (ck 3 (bx H λ x140 h397 H=>sp (Am eU8 h397) (ck 2 (en (cn H (λ H=>?_) (λ H=>?_)))))))))))
  ·exact sr (ck 1 (en (re (qr (qR (qr (by cases H;exact ro rfl rd)))))))
  ·exact sk (qz (rz (ck 3 (gc 1 (!blank_1) (ck 1 (bx H λ x141 h398 H=>sE (λ hg=>Am eU8 (BB h398 hg)) (gc 2 (!blank_1) (pO (ck 1 (ae (qN (qz (rz (ck 3 (ae (by cases H;exact og (sg [2,5,6,8])))))))))))))))))
 ·exact ex 2 (qx (by cases H;exact xo rfl (sg [2,5,6])))
theorem Vm {z} (H:MO n p0_ p1_=some z):AD Tryz.prog 69 [.agg (L4 p0_),.d (.int .i64 p1_)] (.d (.bool z)):=by
 refine fO 125 (Jii p0_ p1_) Tryz.func69 (sr (ck 2 (en (sq (sr (ck 2 (bx H λ r118 h393 H=>ca false (NC h393) (ck 3 (gc 3 (!(!r118)) (pO (ck 2 (gc 1 (!((!r118)||(decide (((p0_.Print.length:Nat):Int)>4)))) (sE (g:=(!((!r118)||(decide (((p0_.Print.length:Nat):Int)>4))))) (λ hg=>AB eU8 p0_.Cells) (gc 1 (!((!r118)||(decide (((p0_.Print.length:Nat):Int)>4)))) (pO (ck 2 (gc 1 (!(((!r118)||(decide (((p0_.Print.length:Nat):Int)>4)))||(decide (((p0_.Cells.length:Nat):Int)<1)))) (sE (g:=(!(((!r118)||(decide (((p0_.Print.length:Nat):Int)>4)))||(decide (((p0_.Cells.length:Nat):Int)<1))))) (λ hg=>AB eU8 p0_.Cells) (gc 1 (!(((!r118)||(decide (((p0_.Print.length:Nat):Int)>4)))||(decide (((p0_.Cells.length:Nat):Int)<1)))) (pO (en (cn H (λ H=>?_) (λ H=>?_)))))))))))))))))))))))
 ·exact sr (ck 1 (en (re (qr (by cases H;exact pr rd)))))
 ·refine sk (qz (sq (sr (ck 5 (gc 2 (!(decide (p0_.Left<1))) (pO (ck 2 (gc 2 (!((decide (p0_.Left<1))||(decide (p0_.Left>63)))) (pO (ck 2 (gc 2 (!(((decide (p0_.Left<1))||(decide (p0_.Left>63)))||(decide (p0_.Right<1)))) (pO (ck 2 (gc 2 (!((((decide (p0_.Left<1))||(decide (p0_.Left>63)))||(decide (p0_.Right<1)))||(decide (p0_.Right>63)))) (pO (ck 2 (gc 1 (!(((((decide (p0_.Left<1))||(decide (p0_.Left>63)))||(decide (p0_.Right<1)))||(decide (p0_.Right>63)))||(decide (p0_.From<0)))) (ck 1 (gc 1 (!(((((decide (p0_.Left<1))||(decide (p0_.Left>63)))||(decide (p0_.Right<1)))||(decide (p0_.Right>63)))||(decide (p0_.From<0)))) (pO (ck 2 (gc 2 (!((((((decide (p0_.Left<1))||(decide (p0_.Left>63)))||(decide (p0_.Right<1)))||(decide (p0_.Right>63)))||(decide (p0_.From<0)))||(decide (p0_.From>=p1_)))) (pO (ck 2 (gc 1 (!(((((((decide (p0_.Left<1))||(decide (p0_.Left>63)))||(decide (p0_.Right<1)))||(decide (p0_.Right>63)))||(decide (p0_.From<0)))||(decide (p0_.From>=p1_)))||(decide (p0_.To<0)))) (ck 1 (gc 1 (!(((((((decide (p0_.Left<1))||(decide (p0_.Left>63)))||(decide (p0_.Right<1)))||(decide (p0_.Right>63)))||(decide (p0_.From<0)))||(decide (p0_.From>=p1_)))||(decide (p0_.To<0)))) (pO (en (cn H (λ H=>?_) (λ H=>?_)))))))))))))))))))))))))))))))
  ·exact sr (ck 1 (en (re (qr (by cases H;exact pr rd)))))
  ·refine sk (qz (sr (ck 2 (en (sq (sr (ck 1 (en (bk 0 (bx H λ y90 h396 H=>lX QW h396 (sg [2,5,6,7]) rfl λ s hE73=>qH (qs (hE73) (sq (sr (ck 1 (en (bk 2 (bx H λ y91 h399 H=>?_)))))))))))))))))
   rcases y91 with y92|y93
   ·refine lX Lc h399 (sg [2,5,6,8]) rfl λ s hE74=>qH (qs (hE74) (sq (sr (ck 2 (en (cn H (λ H=>?_) (λ H=>?_)))))))
    ·exact sr (ck 3 (en (re (qr (by cases H;exact pr rd)))))
    ·exact sk (qz (sr (ck 6 (gc 1 (((p0_.Print.length:Nat):Int)==1) (sE (g:=(((p0_.Print.length:Nat):Int)==1)) (λ hg=>AB eU8 p0_.Cells) (gc 1 (((p0_.Print.length:Nat):Int)==1) (pA (ck 2 (pA (ck 1 (en (re (by cases H;exact pr rd)))))))))))))
   ·exact lR Lc h399 (sg [2,5,6,8]) rfl λ s hE75=>qR (qr (by cases H;exact pr hE75))
end
section
variable (p0_:Ax) (p1_:Ax)
def Jin:St:=⟨(0,.agg [.d (.str p0_.Print),.d (.sl (p0_.Cells.map eU8)),.d (.int .u8 p0_.Left),.d (.int .u8 p0_.Right),.d (.int .i64 p0_.From),.d (.int .i64 p0_.To)])::(1,.agg [.d (.str p1_.Print),.d (.sl (p1_.Cells.map eU8)),.d (.int .u8 p1_.Left),.d (.int .u8 p1_.Right),.d (.int .i64 p1_.From),.d (.int .i64 p1_.To)])::[],[]⟩
variable {p0_ p1_}
theorem QX {z} (H:HE n p0_ p1_=some z):AD Tryz.prog 70 [.agg (L4 p0_),.agg (L4 p1_)] (.d (.bool z)):=by
 exact fO 45 (Jin p0_ p1_) Tryz.func70 (sr (ck 3 (en (sr (ck 7 (gc 1 (p0_.Print==p1_.Print) (ck 1 (gc 1 (p0_.Print==p1_.Print) (bx H λ r120 h400 H=>cG false (leZ) rfl (λ hg=>JO (BB h400 hg)) (Or.inl rfl) (BY (λ hh=>hh) (BY (λ hh=>hh) (Eb))) rfl (pA (ck 2 (gc 1 ((p0_.Print==p1_.Print)&&r120) (ck 1 (gc 2 ((p0_.Print==p1_.Print)&&r120) (pA (ck 2 (gc 1 (((p0_.Print==p1_.Print)&&r120)&&(p0_.Left==p1_.Left)) (ck 1 (gc 2 (((p0_.Print==p1_.Print)&&r120)&&(p0_.Left==p1_.Left)) (pA (ck 2 (gc 1 ((((p0_.Print==p1_.Print)&&r120)&&(p0_.Left==p1_.Left))&&(p0_.Right==p1_.Right)) (ck 1 (gc 2 ((((p0_.Print==p1_.Print)&&r120)&&(p0_.Left==p1_.Left))&&(p0_.Right==p1_.Right)) (pA (ck 2 (gc 1 (((((p0_.Print==p1_.Print)&&r120)&&(p0_.Left==p1_.Left))&&(p0_.Right==p1_.Right))&&(p0_.From==p1_.From)) (ck 1 (gc 2 (((((p0_.Print==p1_.Print)&&r120)&&(p0_.Left==p1_.Left))&&(p0_.Right==p1_.Right))&&(p0_.From==p1_.From)) (pA (ck 1 (en (re (by cases H;exact pr rd))))))))))))))))))))))))))))))))))
end
section
variable (p0_:Ad) (i_15:Int) (k_2:Int)
def Jio:St:=⟨(0,.agg [.d (.int .i64 p0_.Modes),.d (.int .u8 p0_.Accept),.d (.sl (p0_.Rules.map An))])::[],[]⟩
def Jip:St:=⟨(1,.ptr 0 0)::(4,.d (.int .i64 i_15))::[],[some (.box (AK p0_))]⟩
def Jiq:St:=⟨[],[]⟩
def Jir:St:=⟨(1,.ptr 0 0)::(4,.d (.int .i64 i_15))::(5,.d (.int .i64 k_2))::[],[some (.box (AK p0_))]⟩
def Jis:St:=⟨(1,.ptr 0 0)::(4,.d (.int .i64 i_15))::[],[some (.box (AK p0_))]⟩
def SJ:(Unit⊕(Int×Int))->Ex->St->Prop:=xS (xX 0 2 (λ (_:Unit)=>Jis p0_ i_15)) (xR ty Tryz.f46 (λ (y:(Int×Int))=>.tup [.d (.int .i64 y.1),.d (.int .i64 y.2)]))
def Mh:Int->St:=(λ (x:Int)=>Jir p0_ i_15 x)
def SK:(Unit⊕(Int×Int))->Ex->St->Prop:=xS (xX 0 0 (λ (_:Unit)=>Jiq)) (xR ty Tryz.f46 (λ (y:(Int×Int))=>.tup [.d (.int .i64 y.1),.d (.int .i64 y.2)]))
def Mi:Int->St:=(λ (x:Int)=>Jip p0_ x)
variable {p0_ i_15 k_2}
theorem Ld (x:Int) (z:(Int⊕(Unit⊕(Int×Int)))) (H:FR n p0_ i_15 x=some z):WP (cxk 74 0) (Aw Tryz.f46) [1,1,0,1,0,0,1,0,0,1,1,0,0] (Au 0 (Mh p0_ i_15) (SJ p0_ i_15) z) (Mh p0_ i_15 x):=by
 revert H
 generalize x=k_2
 intro H
 refine sq (sr (ck 3 (en (cn H (λ H=>?_) (λ H=>?_)))))
 ·refine sk (qz (sq (bk 3 (sr (ck 3 (bx H λ x143 h404 H=>sp (Am An h404) (ck 4 (bx H λ x144 h405 H=>sp (Am An h405) (ck 1 (bx H λ r122 h406 H=>ca false (QX h406) (en (cn H (λ H=>?_) (λ H=>?_)))))))))))))
  ·exact sr (ck 3 (en (re (qR (qr (by cases H;exact ro rfl rdT))))))
  ·exact sk (qN (qz (rz (ck 3 (ae (by cases H;exact og (sg [1,4,5])))))))
 ·exact ex 2 (qx (by cases H;exact xo rfl (sg [1,4])))
theorem Lf (x:Int) (z:(Int⊕(Unit⊕(Int×Int)))) (H:FS n p0_ x=some z):WP (cxk 74 0) (Aw Tryz.f46) [1,1,0,1,0,0] (Au 0 (Mi p0_) (SK) z) (Mi p0_ x):=by
 revert H
 generalize x=i_15
 intro H
 refine sq (sr (ck 3 (sp (AB An p0_.Rules) (ck 1 (en (cn H (λ H=>?_) (λ H=>?_)))))))
 ·refine sk (qz (sq (bk 1 (sq (sr (ck 3 (bx H λ x142 h402 H=>sp (Am An h402) (ck 3 (bx H λ r121 h403 H=>ca false (Vm h403) (ck 1 (en (cn H (λ H=>?_) (λ H=>?_)))))))))))))
  ·exact sr (ck 3 (en (re (qr (qR (qr (by cases H;exact ro rfl rdT)))))))
  ·refine sk (qz (sr (ck 1 (en (bk 2 (bx H λ y94 h407 H=>?_))))))
   rcases y94 with y95|y96
   ·exact lX Ld h407 (sg [1,4,5]) rfl λ s hE76=>qH (qN (qs (hE76) (rz (ck 3 (ae (by cases H;exact og (sg [1,4])))))))
   ·exact lR Ld h407 (sg [1,4,5]) rfl λ s hE77=>qR (qR (qr (by cases H;exact ro rfl hE77)))
 ·exact ex 0 (qx (by cases H;exact xo rfl (sg [])))
theorem Vn {z} (H:MP n p0_=some z):AD Tryz.prog 46 [.agg (AK p0_)] (.tup [.d (.int .i64 z.1),.d (.int .i64 z.2)]):=by
 refine fO 74 (Jio p0_) Tryz.func46 (sr (ck 3 (en (sq (sr (ck 5 (gc 2 (!(decide (p0_.Modes<1))) (pO (ck 2 (gc 2 (!((decide (p0_.Modes<1))||(decide (p0_.Modes>8)))) (pO (ck 2 (gc 2 (!(((decide (p0_.Modes<1))||(decide (p0_.Modes>8)))||(p0_.Accept==0))) (ck 1 (gc 1 (!(((decide (p0_.Modes<1))||(decide (p0_.Modes>8)))||(p0_.Accept==0))) (bx H λ gd12 h401 H=>soG (λ hg=>HU (BB h401 hg)) (BY (λ hh=>hh) (Eb)) (gc 1 (!(((decide (p0_.Modes<1))||(decide (p0_.Modes>8)))||(p0_.Accept==0))) (pO (ck 2 (gc 1 (!((((decide (p0_.Modes<1))||(decide (p0_.Modes>8)))||(p0_.Accept==0))||(decide (IntKind.i64.wrap p0_.Accept>=Tj .i64 1 p0_.Modes)))) (sE (g:=(!((((decide (p0_.Modes<1))||(decide (p0_.Modes>8)))||(p0_.Accept==0))||(decide (IntKind.i64.wrap p0_.Accept>=Tj .i64 1 p0_.Modes))))) (λ hg=>AB An p0_.Rules) (gc 1 (!((((decide (p0_.Modes<1))||(decide (p0_.Modes>8)))||(p0_.Accept==0))||(decide (IntKind.i64.wrap p0_.Accept>=Tj .i64 1 p0_.Modes)))) (pO (ck 2 (gc 1 (!(((((decide (p0_.Modes<1))||(decide (p0_.Modes>8)))||(p0_.Accept==0))||(decide (IntKind.i64.wrap p0_.Accept>=Tj .i64 1 p0_.Modes)))||(decide (((p0_.Rules.length:Nat):Int)<1)))) (sE (g:=(!(((((decide (p0_.Modes<1))||(decide (p0_.Modes>8)))||(p0_.Accept==0))||(decide (IntKind.i64.wrap p0_.Accept>=Tj .i64 1 p0_.Modes)))||(decide (((p0_.Rules.length:Nat):Int)<1))))) (λ hg=>AB An p0_.Rules) (gc 1 (!(((((decide (p0_.Modes<1))||(decide (p0_.Modes>8)))||(p0_.Accept==0))||(decide (IntKind.i64.wrap p0_.Accept>=Tj .i64 1 p0_.Modes)))||(decide (((p0_.Rules.length:Nat):Int)<1)))) (pO (en (cn H (λ H=>?_) (λ H=>?_)))))))))))))))))))))))))))))))
 ·exact sr (ck 2 (en (re (qr (by cases H;exact pr rdT)))))
 ·refine sk (qz (sq (sr (ck 1 (en (bk 0 (bx H λ y97 h408 H=>?_)))))))
  rcases y97 with y98|y99
  ·exact lX Lf h408 (sg [1,4]) rfl λ s hE78=>qH (qs (hE78) (sr (ck 2 (en (re (by cases H;exact pr rdT))))))
  ·exact lR Lf h408 (sg [1,4]) rfl λ s hE79=>qR (qr (by cases H;exact pr hE79))
end
section
variable (p0_:Ad)
def Jit:St:=⟨(0,.agg [.d (.int .i64 p0_.Modes),.d (.int .u8 p0_.Accept),.d (.sl (p0_.Rules.map An))])::[],[]⟩
variable {p0_}
theorem Vo {z} (H:PM n p0_=some z):AD Tryz.prog 23 [.agg (AK p0_)] (.d (.bool z)):=by
 exact fO 12 (Jit p0_) Tryz.func23 (sr (ck 2 (en (sr (ck 1 (bx H λ r123 h409 H=>ca false (Vn h409) (ck 5 (en (sr (ck 3 (en (re (by cases H;exact pr rd)))))))))))))
end
section
variable (p0_:M9) (r124:Ad) (t_3:Ad) (i_16:Int) (t_4:Ad) (t_5:Ad) (t_6:Ad) (i_17:Int) (t_7:Ad) (t_8:Ad) (t_9:Ad)
def Jko:St:=⟨(0,.agg [.d (.int .u8 p0_.Base),.d (.int .u8 p0_.Drop),.d (.sl (p0_.More.map FG))])::[],[]⟩
def Jkp:St:=⟨(1,.ptr 0 0)::(2,.ptr 1 0)::(3,.ptr 2 0)::(4,.osl 3 6 0 (r124.Rules.length))::(5,.d (.int .i64 i_16))::[],[some (.box (Yh p0_)),some (.box [.d (.int .i64 0),.d (.int .u8 0),.osl 4 6 0 (List.length ([]:List Ax))]),some (.box (FV t_3 (.osl 5 6 0 (t_3.Rules.length)))),some (.arr 6 (r124.Rules.map An)),some (.arr 6 (List.map An ([]:List Ax))),some (.arr 6 (t_3.Rules.map An))]⟩
def Jkq:St:=⟨(1,.ptr 0 0)::(2,.ptr 1 0)::(3,.ptr 2 0)::(4,.osl 3 6 0 (r124.Rules.length))::[],[some (.box (Yh p0_)),some (.box [.d (.int .i64 0),.d (.int .u8 0),.osl 4 6 0 (List.length ([]:List Ax))]),some (.box (FV t_4 (.osl 5 6 0 (t_4.Rules.length)))),some (.arr 6 (r124.Rules.map An)),some (.arr 6 (List.map An ([]:List Ax))),some (.arr 6 (t_4.Rules.map An))]⟩
def Jkr:St:=⟨(1,.ptr 0 0)::(2,.ptr 1 0)::(3,.ptr 2 0)::(4,.osl 3 6 0 (r124.Rules.length))::(5,.d (.int .i64 i_16))::[],[some (.box (Yh p0_)),some (.box [.d (.int .i64 0),.d (.int .u8 0),.osl 4 6 0 (List.length ([]:List Ax))]),some (.box (FV t_5 (.osl 5 6 0 (t_5.Rules.length)))),some (.arr 6 (r124.Rules.map An)),some (.arr 6 (List.map An ([]:List Ax))),some (.arr 6 (t_5.Rules.map An))]⟩
def Tv:Ad->Ex->St->Prop:=xX 0 0 (λ (y:Ad)=>Jkq p0_ r124 y)
def ND:(Ad×Int)->St:=(λ (x:(Ad×Int))=>Jkp p0_ r124 x.1 x.2)
def Jks:St:=⟨(1,.ptr 0 0)::(2,.ptr 1 0)::(3,.ptr 2 0)::(4,.osl 3 6 0 (r124.Rules.length))::(6,.d (.int .i64 i_17))::[],[some (.box (Yh p0_)),some (.box [.d (.int .i64 0),.d (.int .u8 0),.osl 4 6 0 (List.length ([]:List Ax))]),some (.box (FV t_6 (.osl 5 6 0 (t_6.Rules.length)))),some (.arr 6 (r124.Rules.map An)),some (.arr 6 (List.map An ([]:List Ax))),some (.arr 6 (t_6.Rules.map An))]⟩
def Jkt:St:=⟨(2,.ptr 0 0)::(3,.ptr 1 0)::(4,.osl 2 6 0 (r124.Rules.length))::[],[some (.box [.d (.int .i64 0),.d (.int .u8 0),.osl 3 6 0 (List.length ([]:List Ax))]),some (.box (FV t_7 (.osl 4 6 0 (t_7.Rules.length)))),some (.arr 6 (r124.Rules.map An)),some (.arr 6 (List.map An ([]:List Ax))),some (.arr 6 (t_7.Rules.map An))]⟩
def Jku:St:=⟨(1,.ptr 0 0)::(2,.ptr 1 0)::(3,.ptr 2 0)::(4,.osl 3 6 0 (r124.Rules.length))::(6,.d (.int .i64 i_17))::[],[some (.box (Yh p0_)),some (.box [.d (.int .i64 0),.d (.int .u8 0),.osl 4 6 0 (List.length ([]:List Ax))]),some (.box (FV t_8 (.osl 5 6 0 (t_8.Rules.length)))),some (.arr 6 (r124.Rules.map An)),some (.arr 6 (List.map An ([]:List Ax))),some (.arr 6 (t_8.Rules.map An))]⟩
def Tw:Ad->Ex->St->Prop:=xX 0 2 (λ (y:Ad)=>Jkt r124 y)
def NE:(Ad×Int)->St:=(λ (x:(Ad×Int))=>Jks p0_ r124 x.1 x.2)
def Jkv:St:=⟨(2,.ptr 0 0)::(3,.ptr 1 0)::[],[some (.box [.d (.int .i64 0),.d (.int .u8 0),.osl 2 6 0 (List.length ([]:List Ax))]),some (.box (FV t_9 (.osl 3 6 0 (t_9.Rules.length)))),some (.arr 6 (List.map An ([]:List Ax))),some (.arr 6 (t_9.Rules.map An))]⟩
variable {p0_ r124 t_3 i_16 t_4 t_5 t_6 i_17 t_7 t_8 t_9}
theorem SL (x:(Ad×Int)) (z:((Ad×Int)⊕Ad)) (H:FC n p0_ r124 x.1 x.2=some z):WP (cxk 77 0) (Aw Tryz.f7) [1,1,1,1,0,1,0,0] (Au 0 (ND p0_ r124) (Tv p0_ r124) z) (ND p0_ r124 x):=by
 obtain ⟨t_3,i_16⟩:=x
 refine sq (sr (ck 4 (en (cn H (λ H=>?_) (λ H=>?_)))))
 ·refine sk (qz (sj (λ (x:Ad)=>Jkr p0_ r124 i_16 x) (λ (x:Ad)=>GZ n i_16 x) z ?_ (λ hFR2_Made_J1=>?_)))
  ·intro t_5 H
   exact rz (ck 3 (ae (by cases H;exact og (sg [1,2,3,4,5]))))
  refine bk 1 (sr (ck 3 (bx H λ gd13 h411 H=>so (HU h411) (ck 2 (en (cn H (λ H=>?_) (λ H=>?_)))))))
  ·exact rz (ck 4 (bx H λ x145 h412 H=>sp (Az 3 6 h412) (sp (CJ An 3 0 (ty 67) h412) (ck 1 (bx H λ l51 h413 H=>sp (B5 An 5 6 h413) (ck 2 (ae (qN (qs (sg [1,2,3,4,5]) (hFR2_Made_J1 ({ Modes:=t_3.Modes,Accept:=t_3.Accept,Rules:=l51 }:Ad) H))))))))))
  ·exact sk (qN (qs (sg [1,2,3,4,5]) (hFR2_Made_J1 t_3 H)))
 ·exact ex 0 (qx (by cases H;exact xo rfl (sg [1,2,3,4])))
theorem SM (x:(Ad×Int)) (z:((Ad×Int)⊕Ad)) (H:FD n p0_ r124 x.1 x.2=some z):WP (cxk 77 0) (Aw Tryz.f7) [1,1,1,1,1,0,1,0,0] (Au 0 (NE p0_ r124) (Tw r124) z) (NE p0_ r124 x):=by
 obtain ⟨t_6,i_17⟩:=x
 refine sq (sr (ck 3 (sp (AB FG p0_.More) (ck 3 (gc 1 (decide (i_17<((p0_.More.length:Nat):Int))) (pA (en (cn H (λ H=>?_) (λ H=>?_)))))))))
 ·refine sk (qz (sj (λ (x:Ad)=>Jku p0_ r124 i_17 x) (λ (x:Ad)=>G0 n i_17 x) z ?_ (λ hFR2_Made_J2=>?_)))
  ·intro t_8 H
   exact rz (ck 3 (ae (by cases H;exact og (sg [1,2,3,4,6]))))
  refine bk 3 (sr (ck 5 (bx H λ x146 h415 H=>sp (Am FG h415) (ck 3 (bx H λ r125 h416 H=>ca false (W2 h416) (ck 1 (bx H λ l52 h417 H=>sp (B5 An 5 6 h417) (ck 2 (en (sr (ck 1 (bx H λ r126 h418 H=>cb (ks:=[7]) (obl:=[(0+List.length l52,List.length (l52.map An))]) false (leK leM (leZ)) (Dz (JjA (Dz rfl (Dz rfl (Dz Sj rfl)))) rfl) (Vo h418) (Or.inr trivial) rfl (ck 1 (en (cn H (λ H=>?_) (λ H=>?_))))))))))))))))
  ·exact rz (ck 6 (bx H λ l53 h419 H=>sp (JgA 7 6 h419) (ck 2 (ae (qN (qs (tr (JeC (k:=7) (sz:=6) 2 2 (l53.map An) (l53.length) (by kernel_rfl) (JeH h419) (Jgq (enc:=An) h419) (JeI h419)) (sg [1,2,3,4,6])) (hFR2_Made_J2 ({ Modes:=t_6.Modes,Accept:=t_6.Accept,Rules:=l53 }:Ad) H)))))))
  ·exact sk (qN (qs (sg [1,2,3,4,6]) (hFR2_Made_J2 ({ Modes:=t_6.Modes,Accept:=t_6.Accept,Rules:=l52 }:Ad) H)))
 ·exact ex 2 (qx (by cases H;exact xo rfl (sg [2,3,4])))
theorem W4 {z} (H:JF n p0_=some z):AD Tryz.prog 7 [.agg (Yh p0_)] (.agg [.d (.int .i64 z.Modes),.d (.int .u8 z.Accept),.own 6 (z.Rules.map An)]):=by
 refine fO 77 (Jko p0_) Tryz.func7 (sr (ck 2 (en (sr (ck 2 (bx H λ r124 h410 H=>cl [List.length r124.Rules] (WZ h410) (ck 2 (en (sr (ck 3 (en (sr (ck 3 (en (sq (sr (ck 1 (en (bk 0 (bx H λ y100 h414 H=>lX SL h414 (tr (BL 1 2 6 (by kernel_rfl)) (sg [1,2,3,4,5])) rfl λ s hE80=>qH (qs (hE80) (sq (sr (ck 1 (en (bk 2 (bx H λ y101 h420 H=>lX SM h420 (sg [1,2,3,4,6]) rfl λ s hE81=>qH (qs (hE81) (sj (λ (x:Ad)=>Jkv x) (λ (x:Ad)=>G1 n x) z ?_ (λ hFR2_Made_J3=>?_))))))))))))))))))))))))))))))
 ·intro t_9 H
  exact sr (ck 2 (en (re (by cases H;exact pr (rO (v:=.agg [.d (.int .i64 z.Modes),.d (.int .u8 z.Accept),.osl 3 6 0 (z.Rules.length)]) [3] (a1 (c1 vd (c1 vd (c1 vo (c0))))))))))
 refine sr (ck 4 (en (cn H (λ H=>?_) (λ H=>?_))))
 ·exact rz (ck 3 (ae (qs (sg [2,3]) (hFR2_Made_J3 ({ Modes:=y101.Modes,Accept:=y101.Accept,Rules:=r124.Rules }:Ad) H))))
 ·exact sk (qs (sg [2,3]) (hFR2_Made_J3 y101 H))
end
section
variable (p0_:Ad) (p1_:(List Int)) (out_5:(List UInt8)) (i_18:Int) (out_6:(List UInt8)) (out_7:(List UInt8))
def Jkw:St:=⟨(0,.agg [.d (.int .i64 p0_.Modes),.d (.int .u8 p0_.Accept),.d (.sl (p0_.Rules.map An))])::(1,.d (.sl (p1_.map eU8)))::[],[]⟩
def Jkx:St:=⟨(1,.d (.sl (p1_.map eU8)))::(2,.ptr 0 0)::(5,.d (.str out_5))::(6,.d (.int .i64 i_18))::[],[some (.box (AK p0_))]⟩
def Jky:St:=⟨(5,.d (.str out_6))::[],[]⟩
def Jkz:St:=⟨(1,.d (.sl (p1_.map eU8)))::(2,.ptr 0 0)::(5,.d (.str out_7))::(6,.d (.int .i64 i_18))::[],[some (.box (AK p0_))]⟩
def P0:(List UInt8)->Ex->St->Prop:=xX 0 0 (λ (y:(List UInt8))=>Jky y)
def JP:((List UInt8)×Int)->St:=(λ (x:((List UInt8)×Int))=>Jkx p0_ p1_ x.1 x.2)
variable {p0_ p1_ out_5 i_18 out_6 out_7}
theorem O6 (x:((List UInt8)×Int)) (z:(((List UInt8)×Int)⊕(List UInt8))) (H:Ef n p0_ p1_ x.1 x.2=some z):WP (cxk 48 0) (Aw Tryz.f8) [1,1,0,1,0,0] (Au 0 (JP p0_ p1_) (P0) z) (JP p0_ p1_ x):=by
 obtain ⟨out_5,i_18⟩:=x
 refine sq (sr (ck 2 (sp (AB eU8 p1_) (ck 3 (gc 1 (decide (i_18<((p1_.length:Nat):Int))) (pA (ck 2 (gc 1 ((decide (i_18<((p1_.length:Nat):Int)))&&(decide (i_18<12))) (sE (g:=((decide (i_18<((p1_.length:Nat):Int)))&&(decide (i_18<12)))) (λ hg=>AB An p0_.Rules) (gc 1 ((decide (i_18<((p1_.length:Nat):Int)))&&(decide (i_18<12))) (pA (en (cn H (λ H=>?_) (λ H=>?_))))))))))))))
 ·refine sk (qz (sj (λ (x:(List UInt8))=>Jkz p0_ p1_ i_18 x) (λ (x:(List UInt8))=>Ee n i_18 x) z ?_ (λ hFR2_Spelled_J1=>?_)))
  ·intro out_7 H
   exact rz (ck 3 (ae (by cases H;exact og (sg [1,2,5,6]))))
  refine bk 1 (sr (ck 4 (bx H λ x147 h421 H=>sp (Am eU8 h421) (ck 4 (sp (AB An p0_.Rules) (bx H λ gd14 h422 H=>so (Sk h422) (bx H λ x148 h423 H=>sp (Am An h423) (ck 3 (en (sr (ck 6 (en (cn H (λ H=>?_) (λ H=>?_))))))))))))))
  ·exact rz (ck 2 (bx H λ s11 h424 H=>sp (PF h424) (ck 1 (ae (qN (qs (sg [1,2,5,6]) (hFR2_Spelled_J1 s11 H)))))))
  ·exact sk (qN (qs (sg [1,2,5,6]) (hFR2_Spelled_J1 out_5 H)))
 ·exact ex 0 (qx (by cases H;exact xo rfl (sg [5])))
theorem SN {z} (H:IJ n p0_ p1_=some z):AD Tryz.prog 8 [.agg (AK p0_),.d (.sl (p1_.map eU8))] (.d (.str z)):=by
 exact fO 48 (Jkw p0_ p1_) Tryz.func8 (sr (ck 2 (en (sr (ck 1 (en (sq (sr (ck 1 (en (bk 0 (bx H λ y102 h425 H=>lX O6 h425 (sg [1,2,5,6]) rfl λ s hE82=>qH (qs (hE82) (sr (ck 2 (en (re (by cases H;exact pr rd))))))))))))))))))
end
def Jiu:St:=⟨[],[]⟩
theorem Vp {z} (H:Ul n=some z):AD Tryz.prog 38 [] (.agg [.d (.int .i64 z.Mode),.d (.int .i64 z.Last),.d (.int .u8 z.Need)]):=by
 exact fO 2 Jiu Tryz.func38 (sr (ck 1 (en (sr (ck 2 (en (re (by cases H;exact pr rd))))))))
section
variable (p0_:Int) (p1_:Int)
def Jiv:St:=⟨(0,.d (.int .u8 p0_))::(1,.d (.int .i64 p1_))::[],[]⟩
variable {p0_ p1_}
theorem Kx {z} (H:Kf n p0_ p1_=some z):AD Tryz.prog 68 [.d (.int .u8 p0_),.d (.int .i64 p1_)] (.d (.bool z)):=by
 exact fO 18 (Jiv p0_ p1_) Tryz.func68 (sr (ck 1 (en (sr (ck 4 (gc 1 (decide (p1_>=0)) (pA (ck 3 (bx H λ gd15 h426 H=>soG (λ hg=>HU (BB h426 hg)) (BY (λ hh=>hh) (BY (λ hh=>hh) (Eb))) (gc 2 ((decide (p1_>=0))&&(decide (p1_<8))) (pA (ck 1 (en (re (by cases H;exact pr rd)))))))))))))))
end
section
variable (p0_:Int)
def Jiw:St:=⟨(0,.d (.int .u8 p0_))::[],[]⟩
variable {p0_}
theorem O7 {z} (H:JG n p0_=some z):AD Tryz.prog 67 [.d (.int .u8 p0_)] (.d (.int .i64 z)):=by
 refine fO 26 (Jiw p0_) Tryz.func67 (sr (ck 1 (en (sr (ck 3 (en (sq (sr (ck 4 (gc 1 (decide (Ch .u8 p0_ 127>=97)) (pA (en (cn H (λ H=>?_) (λ H=>?_))))))))))))))
 ·exact sr (ck 1 (en (re (qr (by cases H;exact pr rd)))))
 ·refine sk (qz (sq (sr (ck 4 (gc 1 (decide (Ch .u8 p0_ 127>=65)) (pA (en (cn H (λ H=>?_) (λ H=>?_)))))))))
  ·exact sr (ck 1 (en (re (qr (by cases H;exact pr rd)))))
  ·refine sk (qz (sq (sr (ck 4 (gc 1 (decide (Ch .u8 p0_ 127>=48)) (pA (en (cn H (λ H=>?_) (λ H=>?_)))))))))
   ·exact sr (ck 1 (en (re (qr (by cases H;exact pr rd)))))
   ·refine sk (qz (sq (sr (ck 2 (en (cn H (λ H=>?_) (λ H=>?_)))))))
    ·exact sr (ck 1 (en (re (qr (by cases H;exact pr rd)))))
    ·exact sk (qz (sr (ck 1 (en (re (by cases H;exact pr rd))))))
end
section
variable (p0_:Ad) (p1_:Ab) (p2_:Int)
def Jix:St:=⟨(0,.agg [.d (.int .i64 p0_.Modes),.d (.int .u8 p0_.Accept),.d (.sl (p0_.Rules.map An))])::(1,.agg [.d (.int .i64 p1_.Mode),.d (.int .i64 p1_.Last),.d (.int .u8 p1_.Need)])::(2,.d (.int .i64 p2_))::[],[]⟩
variable {p0_ p1_ p2_}
theorem QF {z} (H:LX n p0_ p1_ p2_=some z):AD Tryz.prog 41 [.agg (AK p0_),.agg (Je p1_),.d (.int .i64 p2_)] (.tup [.agg [.d (.int .i64 z.1.Mode),.d (.int .i64 z.1.Last),.d (.int .u8 z.1.Need)],.d (.bool z.2)]):=by
 refine fO 87 (Jix p0_ p1_ p2_) Tryz.func41 (sr (ck 4 (en (sq (sr (ck 5 (gc 1 (!(decide (p2_<0))) (sE (g:=(!(decide (p2_<0)))) (λ hg=>AB An p0_.Rules) (gc 1 (!(decide (p2_<0))) (pO (en (cn H (λ H=>?_) (λ H=>?_)))))))))))))
 ·exact sr (ck 3 (en (re (qr (by cases H;exact pr rdT)))))
 ·refine sk (qz (sr (ck 3 (bx H λ x149 h427 H=>sp (Am An h427) (ck 3 (en (sq (sr (ck 7 (gc 1 (!(x149.From != p1_.Mode)) (ck 1 (gc 1 (!(x149.From != p1_.Mode)) (bx H λ r127 h428 H=>cG false (leZ) rfl (λ hg=>Kx (BB h428 hg)) (Or.inl rfl) (BY (λ hh=>hh) (BY (λ hh=>hh) (Eb))) rfl (gc 1 (!(x149.From != p1_.Mode)) (pO (en (cn H (λ H=>?_) (λ H=>?_))))))))))))))))))
  ·exact sr (ck 3 (en (re (qr (by cases H;exact pr rdT)))))
  ·refine sk (qz (sq (sr (ck 6 (gc 1 (((x149.Print.length:Nat):Int)==0) (ck 1 (gc 3 (((x149.Print.length:Nat):Int)==0) (pA (en (cn H (λ H=>?_) (λ H=>?_)))))))))))
   ·exact sr (ck 3 (en (re (qr (by cases H;exact pr rdT)))))
   ·refine sk (qz (sq (sr (ck 4 (en (cn H (λ H=>?_) (λ H=>?_)))))))
    ·exact sr (ck 12 (en (re (qr (by cases H;exact pr rdT)))))
    ·refine sk (qz (sq (sr (ck 4 (bx H λ b8 h429 H=>sp (Hv h429) (bx H λ r128 h430 H=>ca false (O7 h430) (bx H λ r129 h431 H=>ca false (Kx h431) (ck 1 (en (cn H (λ H=>?_) (λ H=>?_)))))))))))
     ·exact sr (ck 3 (en (re (qr (by cases H;exact pr rdT)))))
     ·exact sk (qz (sr (ck 8 (bx H λ b9 h432 H=>sp (Hv h432) (bx H λ r130 h433 H=>ca false (O7 h433) (ck 5 (en (re (by cases H;exact pr rdT)))))))))
end
section
variable (p0_:(List Ab)) (p1_:Ab) (i_19:Int)
def Jiy:St:=⟨(0,.d (.sl (p0_.map Aj)))::(1,.agg [.d (.int .i64 p1_.Mode),.d (.int .i64 p1_.Last),.d (.int .u8 p1_.Need)])::[],[]⟩
def Jiz:St:=⟨(0,.d (.sl (p0_.map Aj)))::(3,.ptr 0 0)::(5,.d (.int .i64 i_19))::[],[some (.box (Je p1_))]⟩
def JiA:St:=⟨[],[]⟩
def SO:(Unit⊕Int)->Ex->St->Prop:=xS (xX 0 0 (λ (_:Unit)=>JiA)) (xR ty Tryz.f39 (λ (y:Int)=>.d (.int .i64 y)))
def Mj:Int->St:=(λ (x:Int)=>Jiz p0_ p1_ x)
variable {p0_ p1_ i_19}
theorem Lg (x:Int) (z:(Int⊕(Unit⊕Int))) (H:DF n p0_ p1_ x=some z):WP (cxk 19 0) (Aw Tryz.f39) [1,0,1,0,0] (Au 0 (Mj p0_ p1_) (SO) z) (Mj p0_ p1_ x):=by
 revert H
 generalize x=i_19
 intro H
 refine sq (sr (ck 2 (sp (AB Aj p0_) (ck 1 (en (cn H (λ H=>?_) (λ H=>?_)))))))
 ·refine sk (qz (sq (bk 1 (sr (ck 2 (bx H λ x150 h434 H=>sp (Am Aj h434) (ck 3 (en (cn H (λ H=>?_) (λ H=>?_))))))))))
  ·exact sr (ck 2 (en (re (qR (qr (by cases H;exact ro rfl rd))))))
  ·exact sk (qN (qz (rz (ck 3 (ae (by cases H;exact og (sg [0,3,5])))))))
 ·exact ex 0 (qx (by cases H;exact xo rfl (sg [])))
theorem O8 {z} (H:MQ n p0_ p1_=some z):AD Tryz.prog 39 [.d (.sl (p0_.map Aj)),.agg (Je p1_)] (.d (.int .i64 z)):=by
 refine fO 19 (Jiy p0_ p1_) Tryz.func39 (sr (ck 2 (en (sq (sr (ck 1 (en (bk 0 (bx H λ y103 h435 H=>?_)))))))))
 rcases y103 with y104|y105
 ·exact lX Lg h435 (sg [0,3,5]) rfl λ s hE83=>qH (qs (hE83) (sr (ck 1 (en (re (by cases H;exact pr rd))))))
 ·exact lR Lg h435 (sg [0,3,5]) rfl λ s hE84=>qR (qr (by cases H;exact pr hE84))
end
end Go.AI
end
section
namespace Go.AI
open Go.Proofs
set_option maxRecDepth 10000
variable {n:Nat}
section
variable (p0_:Ad) (out_8:(List Ab)) (i_20:Int) (out_9:(List Ab)) (out_10:(List Ab)) (k_3:Int) (out_11:(List Ab)) (out_12:(List Ab))
def JiB:St:=⟨(0,.agg [.d (.int .i64 p0_.Modes),.d (.int .u8 p0_.Accept),.d (.sl (p0_.Rules.map An))])::[],[]⟩
def JiC:St:=⟨(1,.ptr 0 0)::(3,.osl 1 3 0 (out_8.length))::(4,.d (.int .i64 i_20))::[],[some (.box (AK p0_)),some (.arr 3 (out_8.map Aj))]⟩
def JiD:St:=⟨(3,.osl 0 3 0 (out_9.length))::[],[some (.arr 3 (out_9.map Aj))]⟩
def JiE:St:=⟨(1,.ptr 0 0)::(3,.osl 1 3 0 (out_10.length))::(4,.d (.int .i64 i_20))::(5,.d (.int .i64 k_3))::[],[some (.box (AK p0_)),some (.arr 3 (out_10.map Aj))]⟩
def JiF:St:=⟨(1,.ptr 0 0)::(3,.osl 1 3 0 (out_11.length))::(4,.d (.int .i64 i_20))::[],[some (.box (AK p0_)),some (.arr 3 (out_11.map Aj))]⟩
def JiG:St:=⟨(1,.ptr 0 0)::(3,.osl 1 3 0 (out_12.length))::(4,.d (.int .i64 i_20))::(5,.d (.int .i64 k_3))::[],[some (.box (AK p0_)),some (.arr 3 (out_12.map Aj))]⟩
def QY:(List Ab)->Ex->St->Prop:=xX 0 2 (λ (y:(List Ab))=>JiF p0_ i_20 y)
def Lh:((List Ab)×Int)->St:=(λ (x:((List Ab)×Int))=>JiE p0_ i_20 x.1 x.2)
def QZ:(List Ab)->Ex->St->Prop:=xX 0 0 (λ (y:(List Ab))=>JiD y)
def Li:((List Ab)×Int)->St:=(λ (x:((List Ab)×Int))=>JiC p0_ x.1 x.2)
variable {p0_ out_8 i_20 out_9 out_10 k_3 out_11 out_12}
theorem P1 (x:((List Ab)×Int)) (z:(((List Ab)×Int)⊕(List Ab))) (H:DV n p0_ i_20 x.1 x.2=some z):WP (cxk 45 0) (Aw Tryz.f37) [1,1,0,1,0,0,1,0,0,1,0,0] (Au 0 (Lh p0_ i_20) (QY p0_ i_20) z) (Lh p0_ i_20 x):=by
 obtain ⟨out_10,k_3⟩:=x
 refine sq (sr (ck 3 (sp (AB An p0_.Rules) (ck 1 (en (cn H (λ H=>?_) (λ H=>?_)))))))
 ·refine sk (qz (sj (λ (x:(List Ab))=>JiG p0_ i_20 k_3 x) (λ (x:(List Ab))=>ES n k_3 x) z ?_ (λ hFR3_States_J1=>?_)))
  ·intro out_12 H
   exact rz (ck 3 (ae (by cases H;exact og (sg [1,3,4,5]))))
  refine bk 3 (sr (ck 3 (bx H λ x151 h437 H=>sp (Az 1 3 h437) (sp (CJ Aj 1 0 (ty 93) h437) (ck 1 (bx H λ r132 h438 H=>ca false (QF h438) (ck 6 (en (sr (ck 4 (bx H λ r133 h439 H=>cG (ks:=[1]) (obl:=[(0+List.length out_10,List.length (out_10.map Aj))]) false (leK leM (leZ)) (Dz Sj (Dz rfl rfl)) (λ hg=>O8 (BB h439 hg)) (Or.inr trivial) (BY (λ hh=>hh) (BY (λ hh=>hh) (Eb))) rfl (gc 1 r132.2 (pA (en (cn H (λ H=>?_) (λ H=>?_))))))))))))))))
  ·exact rz (ck 3 (bx H λ l54 h440 H=>sp (B5 Aj 1 3 h440) (ck 1 (ae (qN (qs (sg [1,3,4,5]) (hFR3_States_J1 l54 H)))))))
  ·exact sk (qN (qs (sg [1,3,4,5]) (hFR3_States_J1 out_10 H)))
 ·exact ex 2 (qx (by cases H;exact xo rfl (sg [1,3,4])))
theorem P2 (x:((List Ab)×Int)) (z:(((List Ab)×Int)⊕(List Ab))) (H:ET n p0_ x.1 x.2=some z):WP (cxk 45 0) (Aw Tryz.f37) [1,1,0,1,0,0] (Au 0 (Li p0_) (QZ) z) (Li p0_ x):=by
 obtain ⟨out_8,i_20⟩:=x
 refine sq (sr (ck 4 (en (cn H (λ H=>?_) (λ H=>?_)))))
 ·exact sk (qz (sq (bk 1 (sr (ck 1 (en (bk 2 (bx H λ y106 h441 H=>lX P1 h441 (sg [1,3,4,5]) rfl λ s hE85=>qH (qN (qs (hE85) (rz (ck 3 (ae (by cases H;exact og (sg [1,3,4])))))))))))))))
 ·exact ex 0 (qx (by cases H;exact xo rfl (sg [3])))
theorem Tx {z} (H:Kg n p0_=some z):AD Tryz.prog 37 [.agg (AK p0_)] (.own 3 (z.map Aj)):=by
 exact fO 45 (JiB p0_) Tryz.func37 (sr (ck 2 (en (sr (bx H λ r131 h436 H=>ca false (Vp h436) (ck 2 (en (sq (sr (ck 1 (en (bk 0 (bx H λ y107 h442 H=>lX P2 h442 (sg [1,3,4]) rfl λ s hE86=>qH (qs (hE86) (sr (ck 2 (en (re (by cases H;exact pr (rO (v:=.osl 0 3 0 (z.length)) [0] (ao vo)))))))))))))))))))))
end
section
variable (p0_:Ad) (p1_:Ab)
def JiH:St:=⟨(0,.agg [.d (.int .i64 p0_.Modes),.d (.int .u8 p0_.Accept),.d (.sl (p0_.Rules.map An))])::(1,.agg [.d (.int .i64 p1_.Mode),.d (.int .i64 p1_.Last),.d (.int .u8 p1_.Need)])::[],[]⟩
variable {p0_ p1_}
theorem SP {z} (H:IK n p0_ p1_=some z):AD Tryz.prog 47 [.agg (AK p0_),.agg (Je p1_)] (.d (.bool z)):=by
 exact fO 27 (JiH p0_ p1_) Tryz.func47 (sr (ck 3 (en (sr (ck 5 (gc 1 (decide (p1_.Mode>=0)) (ck 1 (gc 2 (decide (p1_.Mode>=0)) (pA (ck 2 (gc 1 ((decide (p1_.Mode>=0))&&(decide (p1_.Mode<p0_.Modes))) (ck 1 (gc 1 ((decide (p1_.Mode>=0))&&(decide (p1_.Mode<p0_.Modes))) (bx H λ r134 h443 H=>cG false (leZ) rfl (λ hg=>Kx (BB h443 hg)) (Or.inl rfl) (BY (λ hh=>hh) (BY (λ hh=>hh) (Eb))) rfl (pA (ck 2 (gc 1 (((decide (p1_.Mode>=0))&&(decide (p1_.Mode<p0_.Modes)))&&r134) (bx H λ r135 h444 H=>cG false (leZ) rfl (λ hg=>Kx (BB h444 hg)) (Or.inl rfl) (BY (λ hh=>hh) (Eb)) rfl (pA (ck 1 (en (re (by cases H;exact pr rd)))))))))))))))))))))))
end
section
variable (p0_:(List UInt8)) (p1_:Int) (p2_:(List UInt8))
def JiI:St:=⟨(0,.d (.str p0_))::(1,.d (.int .i64 p1_))::(2,.d (.str p2_))::[],[]⟩
variable {p0_ p1_ p2_}
theorem Tz {z} (H:Kh n p0_ p1_ p2_=some z):AD Tryz.prog 66 [.d (.str p0_),.d (.int .i64 p1_),.d (.str p2_)] (.d (.bool z)):=by
 exact fO 25 (JiI p0_ p1_ p2_) Tryz.func66 (sr (ck 1 (en (sr (ck 12 (gc 2 (decide (AE .i64 p1_ ((p2_.length:Nat):Int)<=((p0_.length:Nat):Int))) (bx H λ s12 h445 H=>sE (λ hg=>Hw (BB h445 hg)) (ck 1 (gc 1 (decide (AE .i64 p1_ ((p2_.length:Nat):Int)<=((p0_.length:Nat):Int))) (pA (ck 1 (en (re (by cases H;exact pr rd))))))))))))))
end
section
variable (p0_:Ad) (p1_:Sr) (p2_:Int) (p3_:(List (List Int)))
def JiJ:St:=⟨(0,.agg [.d (.int .i64 p0_.Modes),.d (.int .u8 p0_.Accept),.d (.sl (p0_.Rules.map An))])::(1,.agg [.d (.str p1_.S),.d (.int .i64 p1_.I),.d (.int .i64 p1_.State.Mode),.d (.int .i64 p1_.State.Last),.d (.int .u8 p1_.State.Need),.d (.sl (p1_.L.map Aj))])::(2,.d (.int .i64 p2_))::(3,.d (.sl (p3_.map (eL Ae))))::[],[]⟩
variable {p0_ p1_ p2_ p3_}
theorem Vq {z} (H:JH n p0_ p1_ p2_ p3_=some z):AD Tryz.prog 40 [.agg (AK p0_),.agg (JgY p1_),.d (.int .i64 p2_),.d (.sl (p3_.map (eL Ae)))] (.d (.int .i64 z)):=by
 refine fO 66 (JiJ p0_ p1_ p2_ p3_) Tryz.func40 (sr (ck 3 (en (sr (ck 4 (bx H λ r136 h446 H=>ca false (QF h446) (ck 6 (en (sq (sr (ck 4 (gc 1 (!(!r136.2)) (ck 1 (gc 1 (!(!r136.2)) (ck 1 (gc 1 (!(!r136.2)) (ck 1 (bx H λ x152 h447 H=>sE (λ hg=>Am An (BB h447 hg)) (gc 2 (!(!r136.2)) (bx H λ r137 h448 H=>cG false (leZ) rfl (λ hg=>Tz (BB h448 hg)) (Or.inl rfl) (BY (λ hh=>hh) (BY (λ hh=>hh) (BY (λ hh=>hh) (Eb)))) rfl (gc 1 (!(!r136.2)) (pO (en (cn H (λ H=>?_) (λ H=>?_)))))))))))))))))))))))))
 ·exact sr (ck 1 (en (re (qr (by cases H;exact pr rd)))))
 ·refine sk (qz (sr (ck 6 (bx H λ x153 h449 H=>sp (Am An h449) (ck 4 (bx H λ x154 h450 H=>sp (Am (eL Ae) h450) (ck 4 (bx H λ r138 h451 H=>ca false (O8 h451) (bx H λ x155 h452 H=>sp (Am Ae h452) (ck 2 (en (sq (sr (ck 2 (en (cn H (λ H=>?_) (λ H=>?_)))))))))))))))))
  ·exact sr (ck 1 (en (re (qr (by cases H;exact pr rd)))))
  ·exact sk (qz (sr (ck 4 (bx H λ x156 h453 H=>sp (Am An h453) (ck 2 (sp (AB eU8 x156.Cells) (ck 2 (en (re (by cases H;exact pr rd))))))))))
end
section
variable (p0_:Int) (p1_:Int)
def JiK:St:=⟨(0,.d (.int .i64 p0_))::(1,.d (.int .i64 p1_))::[],[]⟩
variable {p0_ p1_}
theorem Vr {z} (H:MR n p0_ p1_=some z):AD Tryz.prog 48 [.d (.int .i64 p0_),.d (.int .i64 p1_)] (.d (.int .i64 z)):=by
 refine fO 18 (JiK p0_ p1_) Tryz.func48 (sr (ck 1 (en (sq (sr (ck 4 (gc 2 (!(decide (p0_<0))) (ck 2 (gc 1 ((!(decide (p0_<0)))&&(decide (p1_>=0))) (pG (g:=(!(decide (p0_<0)))) (v:=.d (.bool ((decide (p1_>=0))&&(decide (p1_<p0_))))) (λ hg=>Gy (c:=.gv (!(decide (p0_<0))) (.d (.bool (decide (p1_>=0))))) (a:=.gv ((!(decide (p0_<0)))&&(decide (p1_>=0))) (.d (.bool (decide (p1_<p0_))))) (b:=.d (.bool false)) rfl rfl rfl ((λ hh=>hh) hg) (λ ht=>by rw [(λ hh=>hh) hg,ht];rfl) trivial) (pO (en (cn H (λ H=>?_) (λ H=>?_))))))))))))))
 ·exact sr (ck 2 (en (re (qr (by cases H;exact pr rd)))))
 ·exact sk (qz (sr (ck 2 (en (re (by cases H;exact pr rd))))))
end
section
variable (p0_:Ad) (p1_:(List UInt8)) (r139:(List Ab)) (out_13:(List (List Int))) (i_21:Int) (out_14:(List (List Int))) (out_15:(List (List Int))) (k_4:Int) (out_16:(List (List Int))) (out_17:(List (List Int))) (out_18:(List (List Int))) (changed_1:Bool) (out_19:(List (List Int))) (out_20:(List (List Int))) (changed_2:Bool) (k_5:Int) (out_21:(List (List Int))) (changed_3:Bool) (out_22:(List (List Int))) (changed_4:Bool) (r_3:Int) (out_23:(List (List Int))) (changed_5:Bool) (out_24:(List (List Int))) (changed_6:Bool)
def JiL:St:=⟨(0,.agg [.d (.int .i64 p0_.Modes),.d (.int .u8 p0_.Accept),.d (.sl (p0_.Rules.map An))])::(1,.d (.str p1_))::[],[]⟩
def JiM:St:=⟨(1,.d (.str p1_))::(2,.ptr 0 0)::(5,.d (.sl (r139.map Aj)))::(6,.osl 1 1 0 (out_13.length))::(7,.d (.int .i64 i_21))::[],[some (.box (AK p0_)),some (.narr 1 (out_13.map (nL 1 Ae)))]⟩
def JiN:St:=⟨(6,.osl 0 1 0 (out_14.length))::[],[some (.narr 1 (out_14.map (nL 1 Ae)))]⟩
def JiO:St:=⟨(1,.d (.str p1_))::(2,.ptr 0 0)::(5,.d (.sl (r139.map Aj)))::(6,.osl 1 1 0 (out_15.length))::(7,.d (.int .i64 i_21))::(8,.d (.int .i64 k_4))::[],[some (.box (AK p0_)),some (.narr 1 (out_15.map (nL 1 Ae)))]⟩
def JiP:St:=⟨(1,.d (.str p1_))::(2,.ptr 0 0)::(5,.d (.sl (r139.map Aj)))::(6,.osl 1 1 0 (out_16.length))::(7,.d (.int .i64 i_21))::[],[some (.box (AK p0_)),some (.narr 1 (out_16.map (nL 1 Ae)))]⟩
def JiQ:St:=⟨(1,.d (.str p1_))::(2,.ptr 0 0)::(5,.d (.sl (r139.map Aj)))::(6,.osl 1 1 0 (out_17.length))::(7,.d (.int .i64 i_21))::(8,.d (.int .i64 k_4))::[],[some (.box (AK p0_)),some (.narr 1 (out_17.map (nL 1 Ae)))]⟩
def O9:(List (List Int))->Ex->St->Prop:=xX 0 2 (λ (y:(List (List Int)))=>JiP p0_ p1_ r139 i_21 y)
def IU:((List (List Int))×Int)->St:=(λ (x:((List (List Int))×Int))=>JiO p0_ p1_ r139 i_21 x.1 x.2)
def JiR:St:=⟨(1,.d (.str p1_))::(2,.ptr 0 0)::(5,.d (.sl (r139.map Aj)))::(6,.osl 1 1 0 (out_18.length))::(7,.d (.int .i64 i_21))::(9,.d (.bool changed_1))::[],[some (.box (AK p0_)),some (.narr 1 (out_18.map (nL 1 Ae)))]⟩
def JiS:St:=⟨(1,.d (.str p1_))::(2,.ptr 0 0)::(5,.d (.sl (r139.map Aj)))::(6,.osl 1 1 0 (out_19.length))::(7,.d (.int .i64 i_21))::[],[some (.box (AK p0_)),some (.narr 1 (out_19.map (nL 1 Ae)))]⟩
def JiT:St:=⟨(1,.d (.str p1_))::(2,.ptr 0 0)::(5,.d (.sl (r139.map Aj)))::(6,.osl 1 1 0 (out_20.length))::(7,.d (.int .i64 i_21))::(9,.d (.bool changed_2))::(10,.d (.int .i64 k_5))::[],[some (.box (AK p0_)),some (.narr 1 (out_20.map (nL 1 Ae)))]⟩
def Je6:St:=⟨(1,.d (.str p1_))::(2,.ptr 0 0)::(5,.d (.sl (r139.map Aj)))::(6,.osl 1 1 0 (out_21.length))::(7,.d (.int .i64 i_21))::(9,.d (.bool changed_3))::[],[some (.box (AK p0_)),some (.narr 1 (out_21.map (nL 1 Ae)))]⟩
def Je7:St:=⟨(1,.d (.str p1_))::(2,.ptr 0 0)::(5,.d (.sl (r139.map Aj)))::(6,.osl 1 1 0 (out_22.length))::(7,.d (.int .i64 i_21))::(9,.d (.bool changed_4))::(10,.d (.int .i64 k_5))::(11,.d (.int .i64 r_3))::[],[some (.box (AK p0_)),some (.narr 1 (out_22.map (nL 1 Ae)))]⟩
def Je8:St:=⟨(1,.d (.str p1_))::(2,.ptr 0 0)::(5,.d (.sl (r139.map Aj)))::(6,.osl 1 1 0 (out_23.length))::(7,.d (.int .i64 i_21))::(9,.d (.bool changed_5))::(10,.d (.int .i64 k_5))::[],[some (.box (AK p0_)),some (.narr 1 (out_23.map (nL 1 Ae)))]⟩
def Je9:St:=⟨(1,.d (.str p1_))::(2,.ptr 0 0)::(5,.d (.sl (r139.map Aj)))::(6,.osl 1 1 0 (out_24.length))::(7,.d (.int .i64 i_21))::(9,.d (.bool changed_6))::(10,.d (.int .i64 k_5))::(11,.d (.int .i64 r_3))::[],[some (.box (AK p0_)),some (.narr 1 (out_24.map (nL 1 Ae)))]⟩
def Pa:((List (List Int))×Bool)->Ex->St->Prop:=xX 0 8 (λ (y:((List (List Int))×Bool))=>Je8 p0_ p1_ r139 i_21 k_5 y.1 y.2)
def IV:((List (List Int))×Bool×Int)->St:=(λ (x:((List (List Int))×Bool×Int))=>Je7 p0_ p1_ r139 i_21 k_5 x.1 x.2.1 x.2.2)
def Pb:((List (List Int))×Bool)->Ex->St->Prop:=xX 0 6 (λ (y:((List (List Int))×Bool))=>Je6 p0_ p1_ r139 i_21 y.1 y.2)
def IW:((List (List Int))×Bool×Int)->St:=(λ (x:((List (List Int))×Bool×Int))=>JiT p0_ p1_ r139 i_21 x.1 x.2.1 x.2.2)
def Pc:(List (List Int))->Ex->St->Prop:=xX 0 4 (λ (y:(List (List Int)))=>JiS p0_ p1_ r139 i_21 y)
def IX:((List (List Int))×Bool)->St:=(λ (x:((List (List Int))×Bool))=>JiR p0_ p1_ r139 i_21 x.1 x.2)
def Pd:(List (List Int))->Ex->St->Prop:=xX 0 0 (λ (y:(List (List Int)))=>JiN y)
def IY:((List (List Int))×Int)->St:=(λ (x:((List (List Int))×Int))=>JiM p0_ p1_ r139 x.1 x.2)
variable {p0_ p1_ r139 out_13 i_21 out_14 out_15 k_4 out_16 out_17 out_18 changed_1 out_19 out_20 changed_2 k_5 out_21 changed_3 out_22 changed_4 r_3 out_23 changed_5 out_24 changed_6}
theorem N6 (x:((List (List Int))×Int)) (z:(((List (List Int))×Int)⊕(List (List Int)))) (H:CW n p0_ p1_ r139 i_21 x.1 x.2=some z):WP (cxk 116 0) (Aw Tryz.f24) [1,1,1,0,1,0,0,1,0,0,1,0,1,0,0] (Au 0 (IU p0_ p1_ r139 i_21) (O9 p0_ p1_ r139 i_21) z) (IU p0_ p1_ r139 i_21 x):=by
 obtain ⟨out_15,k_4⟩:=x
 refine sq (sr (ck 2 (sp (AB Aj r139) (ck 1 (en (cn H (λ H=>?_) (λ H=>?_)))))))
 ·refine sk (qz (sj (λ (x:(List (List Int)))=>JiQ p0_ p1_ r139 i_21 k_4 x) (λ (x:(List (List Int)))=>DO n k_4 x) z ?_ (λ hFR6_Suffixes_J1=>?_)))
  ·intro out_17 H
   exact rz (ck 3 (ae (by cases H;exact og (gP [1,2,5,6,7,8] [0,1] (po1 (pn1 (nL 1 Ae) out_17 (Pl.z)))))))
  refine bk 3 (sq (bx H λ x158 h458 H=>rg (tr (so1 (encN:=(nL 1 Ae)) 1 1 h458) (sno (encN:=(nL 1 Ae)) (enc:=Ae) h458 [.own 1 (x158.map Ae)] x158 1 1 0 1)) (ck 2 (sp (Az 1 1 h458) (sp (Ci (encN:=(nL 1 Ae)) (row:=[.osl 2 1 0 (x158.length)]) (k:=1) (sz:=1) (off:=0) (t:=ty 35) (v:=.osl 2 1 0 (x158.length)) h458) (ck 1 (bx H λ x159 h459 H=>sp (Az 2 1 h459) (bx H λ l57 h460 H=>stA Ae 2 0 (ty 3) h459 h460 (en (sq (rg (tr (tr (tr (tr (tr (sn 40 2 1 (Bg h460)) (snr (encN:=(nL 1 Ae)) (xs:=out_15) (n:=i_21) [.osl 2 1 0 (x158.length)] 1 1 0 2 1 (Bg h460))) (sni (encN:=(nL 1 Ae)) (xs:=out_15) (n:=i_21) (enc:=Ae) [.osl 2 1 0 (l57.length)] l57 1 1 0 2 1)) (scl (encN:=(nL 1 Ae)) (xss:=out_15) i_21 [.own 1 (l57.map Ae)] 1 1 l57)) (sn 6 1 1 (lsS out_15 i_21.toNat l57))) (sn 37 1 1 (lsS out_15 i_21.toNat l57))) (ck 8 (bx H λ x160 h461 H=>sE (λ hg=>Am Aj (BB h461 hg)) (gc 1 (i_21==((p1_.length:Nat):Int)) (bx H λ r140 h462 H=>cG false (leZ) rfl (λ hg=>SP (BB h462 hg)) (Or.inl rfl) (BY (λ hh=>hh) (BY (λ hh=>hh) (Eb))) rfl (pA (en (cn H (λ H=>?_) (λ H=>?_)))))))))))))))))))
  ·exact bx H λ x161 h463 H=>rg (tr (so1 (encN:=(nL 1 Ae)) 1 1 h463) (sno (encN:=(nL 1 Ae)) (enc:=Ae) h463 [.own 1 (x161.map Ae)] x161 1 1 0 1)) (ck 2 (sp (Az 1 1 h463) (sp (Ci (encN:=(nL 1 Ae)) (row:=[.osl 3 1 0 (x161.length)]) (k:=1) (sz:=1) (off:=0) (t:=ty 35) (v:=.osl 3 1 0 (x161.length)) h463) (ck 1 (bx H λ x162 h464 H=>sp (Az 3 1 h464) (bx H λ l58 h465 H=>stA Ae 3 0 (ty 3) h464 h465 (ae (qN (qs (tr (tr (tr (tr (tr (tr (tr (sn 58 3 1 (Bg h465)) (snr (encN:=(nL 1 Ae)) (xs:=List.set out_15 i_21.toNat l57) (n:=i_21) [.osl 3 1 0 (x161.length)] 1 1 0 3 1 (Bg h465))) (sni (encN:=(nL 1 Ae)) (xs:=List.set out_15 i_21.toNat l57) (n:=i_21) (enc:=Ae) [.osl 3 1 0 (l58.length)] l58 1 1 0 3 1)) (scl (encN:=(nL 1 Ae)) (xss:=List.set out_15 i_21.toNat l57) i_21 [.own 1 (l58.map Ae)] 1 1 l58)) (sn 6 1 1 (lsS (List.set out_15 i_21.toNat l57) i_21.toNat l58))) (sn 37 1 1 (lsS (List.set out_15 i_21.toNat l57) i_21.toNat l58))) (sn 55 1 1 (lsS (List.set out_15 i_21.toNat l57) i_21.toNat l58))) (gP [1,2,5,6,7,8] [0,1] (po1 (pn1 (nL 1 Ae) (List.set (List.set out_15 i_21.toNat l57) i_21.toNat l58) (Pl.z))))) (hFR6_Suffixes_J1 (List.set (List.set out_15 i_21.toNat l57) i_21.toNat l58) H))))))))))
  ·exact sk (qN (qs (gP [1,2,5,6,7,8] [0,1] (po1 (pn1 (nL 1 Ae) (List.set out_15 i_21.toNat l57) (Pl.z)))) (hFR6_Suffixes_J1 (List.set out_15 i_21.toNat l57) H)))
 ·exact ex 2 (qx (by cases H;exact xo rfl (gP [1,2,5,6,7] [0,1] (po1 (pn1 (nL 1 Ae) out_15 (Pl.z))))))
theorem N7 (x:((List (List Int))×Bool×Int)) (z:(((List (List Int))×Bool×Int)⊕((List (List Int))×Bool))) (H:CX n p0_ p1_ r139 i_21 k_5 x.1 x.2.1 x.2.2=some z):WP (cxk 116 0) (Aw Tryz.f24) [1,1,1,0,1,0,0,1,0,0,1,1,1,0,0,1,0,1,1,0,0,1,0,0,1,0,0] (Au 0 (IV p0_ p1_ r139 i_21 k_5) (Pa p0_ p1_ r139 i_21 k_5) z) (IV p0_ p1_ r139 i_21 k_5 x):=by
 obtain ⟨out_22,changed_4,r_3⟩:=x
 refine sq (sr (ck 3 (sp (AB An p0_.Rules) (ck 1 (en (cn H (λ H=>?_) (λ H=>?_)))))))
 ·refine sk (qz (sj (λ (x:((List (List Int))×Bool))=>Je9 p0_ p1_ r139 i_21 k_5 r_3 x.1 x.2) (λ (x:((List (List Int))×Bool))=>DP n r_3 x.1 x.2) z ?_ (λ hFR6_Suffixes_J2=>?_)))
  ·rintro ⟨out_24,changed_6⟩ H
   exact rz (ck 3 (ae (by cases H;exact og (gP [1,2,5,6,7,9,10,11] [0,1] (po1 (pn1 (nL 1 Ae) out_24 (Pl.z)))))))
  refine bk 9 (sr (ck 5 (bx H λ x163 h467 H=>sp (Am Aj h467) (ck 5 (bx H λ r141 h468 H=>cb (ks:=[1]) (obl:=[(0+List.length out_22,List.length (out_22.map (nL 1 Ae))),(Ol (out_22.map (nL 1 Ae)),0)]) false (leK leN (leK (JeX λ _=>rfl) (leZ))) (Dz rfl (Dz rfl (Dz rfl (Dz (JjM (encN:=(nL 1 Ae)) (encD:=(eL Ae)) λ _=>rfl) rfl)))) (Vq h468) (Or.inr trivial) rfl (ck 1 (en (sq (rg (tr (so0 (encN:=(nL 1 Ae)) (xss:=out_22) 1 1 i_21 ([]:(List Int))) (snT (encN:=(nL 1 Ae)) (xss:=out_22) (n:=i_21) (d:=([]:(List Int))) (enc:=Ae) (λ x=>x) [.own 1 (List.map Ae (List.getD out_22 i_21.toNat []))] 1 1 0 1)) (ck 5 (bx H λ x164 h469 H=>sE (λ hg=>Az 1 1 (BB h469 hg)) (sE (g:=decide (r141>=0)) (λ hg=>Ci (encN:=(nL 1 Ae)) (row:=[.osl 2 1 0 (List.length (List.getD out_22 i_21.toNat []))]) (k:=1) (sz:=1) (off:=0) (t:=ty 35) (v:=.osl 2 1 0 (List.length (List.getD out_22 i_21.toNat []))) (BB h469 hg)) (ck 1 (bx H λ x165 h470 H=>sE (λ hg=>Az 2 1 (BB h470 hg)) (sE (g:=decide (r141>=0)) (λ hg=>CJ Ae 2 0 (ty 3) (BB h470 hg)) (ck 1 (bx H λ r142 h471 H=>cG false (leZ) rfl (λ hg=>Vr (BB h471 hg)) (Or.inl rfl) (BY (λ hh=>hh) (BY (λ hh=>hh) (Eb))) rfl (ck 2 (bx H λ x166 h472 H=>sE (λ hg=>Az 1 1 (BB h472 hg)) (sE (g:=decide (r141>=0)) (λ hg=>Ci (encN:=(nL 1 Ae)) (row:=[.osl 2 1 0 (List.length (List.getD out_22 i_21.toNat []))]) (k:=1) (sz:=1) (off:=0) (t:=ty 35) (v:=.osl 2 1 0 (List.length (List.getD out_22 i_21.toNat []))) (BB h472 hg)) (ck 1 (bx H λ x167 h473 H=>sE (λ hg=>Az 2 1 (BB h473 hg)) (sE (g:=decide (r141>=0)) (λ hg=>CJ Ae 2 0 (ty 3) (BB h473 hg)) (gc 1 (decide (r141>=0)) (pA (en (cn H (λ H=>?_) (λ H=>?_))))))))))))))))))))))))))))
  ·exact sq (bx H λ x168 h474 H=>rg (tr (tr (tr (tr (tr (sni (encN:=(nL 1 Ae)) (xs:=out_22) (n:=i_21) (enc:=Ae) [.osl 2 1 0 (List.length (List.getD out_22 i_21.toNat []))] (List.getD out_22 i_21.toNat []) 1 1 0 2 1) (scl (encN:=(nL 1 Ae)) (xss:=out_22) i_21 [.own 1 (List.map Ae (List.getD out_22 i_21.toNat []))] 1 1 (List.getD out_22 i_21.toNat []))) (sn 6 1 1 (lsS out_22 i_21.toNat (List.getD out_22 i_21.toNat [])))) (sn 85 1 1 (lsS out_22 i_21.toNat (List.getD out_22 i_21.toNat [])))) (so1 (encN:=(nL 1 Ae)) 1 1 h474)) (sno (encN:=(nL 1 Ae)) (enc:=Ae) h474 [.own 1 (x168.map Ae)] x168 1 1 0 1)) (ck 2 (sp (Az 1 1 h474) (sp (Ci (encN:=(nL 1 Ae)) (row:=[.osl 3 1 0 (x168.length)]) (k:=1) (sz:=1) (off:=0) (t:=ty 35) (v:=.osl 3 1 0 (x168.length)) h474) (ck 2 (bx H λ x169 h475 H=>sp (Az 3 1 h475) (bx H λ l59 h476 H=>stA Ae 3 0 (ty 3) h475 h476 (en (rg (tr (tr (tr (tr (tr (tr (sn 111 3 1 (Bg h476)) (snr (encN:=(nL 1 Ae)) (xs:=List.set out_22 i_21.toNat (List.getD out_22 i_21.toNat [])) (n:=i_21) [.osl 3 1 0 (x168.length)] 1 1 0 3 1 (Bg h476))) (sni (encN:=(nL 1 Ae)) (xs:=List.set out_22 i_21.toNat (List.getD out_22 i_21.toNat [])) (n:=i_21) (enc:=Ae) [.osl 3 1 0 (l59.length)] l59 1 1 0 3 1)) (scl (encN:=(nL 1 Ae)) (xss:=List.set out_22 i_21.toNat (List.getD out_22 i_21.toNat [])) i_21 [.own 1 (l59.map Ae)] 1 1 l59)) (sn 6 1 1 (lsS (List.set out_22 i_21.toNat (List.getD out_22 i_21.toNat [])) i_21.toNat l59))) (sn 85 1 1 (lsS (List.set out_22 i_21.toNat (List.getD out_22 i_21.toNat [])) i_21.toNat l59))) (sn 108 1 1 (lsS (List.set out_22 i_21.toNat (List.getD out_22 i_21.toNat [])) i_21.toNat l59))) (ck 1 (ae (qN (qs (gP [1,2,5,6,7,9,10,11] [0,1] (po1 (pn1 (nL 1 Ae) (List.set (List.set out_22 i_21.toNat (List.getD out_22 i_21.toNat [])) i_21.toNat l59) (Pl.z)))) (hFR6_Suffixes_J2 ((List.set (List.set out_22 i_21.toNat (List.getD out_22 i_21.toNat [])) i_21.toNat l59),true) H))))))))))))))
  ·exact sk (qN (qs (tr (tr (tr (tr (sni (encN:=(nL 1 Ae)) (xs:=out_22) (n:=i_21) (enc:=Ae) [.osl 2 1 0 (List.length (List.getD out_22 i_21.toNat []))] (List.getD out_22 i_21.toNat []) 1 1 0 2 1) (scl (encN:=(nL 1 Ae)) (xss:=out_22) i_21 [.own 1 (List.map Ae (List.getD out_22 i_21.toNat []))] 1 1 (List.getD out_22 i_21.toNat []))) (sn 6 1 1 (lsS out_22 i_21.toNat (List.getD out_22 i_21.toNat [])))) (sn 85 1 1 (lsS out_22 i_21.toNat (List.getD out_22 i_21.toNat [])))) (gP [1,2,5,6,7,9,10,11] [0,1] (po1 (pn1 (nL 1 Ae) (List.set out_22 i_21.toNat (List.getD out_22 i_21.toNat [])) (Pl.z))))) (hFR6_Suffixes_J2 ((List.set out_22 i_21.toNat (List.getD out_22 i_21.toNat [])),changed_4) H)))
 ·exact ex 8 (qx (by cases H;exact xo rfl (gP [1,2,5,6,7,9,10] [0,1] (po1 (pn1 (nL 1 Ae) out_22 (Pl.z))))))
theorem N8 (x:((List (List Int))×Bool×Int)) (z:(((List (List Int))×Bool×Int)⊕((List (List Int))×Bool))) (H:CY n p0_ p1_ r139 i_21 x.1 x.2.1 x.2.2=some z):WP (cxk 116 0) (Aw Tryz.f24) [1,1,1,0,1,0,0,1,0,0,1,1,1,0,0,1,0,1,1,0,0] (Au 0 (IW p0_ p1_ r139 i_21) (Pb p0_ p1_ r139 i_21) z) (IW p0_ p1_ r139 i_21 x):=by
 obtain ⟨out_20,changed_2,k_5⟩:=x
 refine sq (sr (ck 2 (sp (AB Aj r139) (ck 1 (en (cn H (λ H=>?_) (λ H=>?_)))))))
 ·exact sk (qz (sq (bk 7 (sr (ck 1 (en (bk 8 (bx H λ y109 h477 H=>lX N7 h477 (gP [1,2,5,6,7,9,10,11] [0,1] (po1 (pn1 (nL 1 Ae) out_20 (Pl.z)))) rfl λ s hE88=>qH (qN (qs (hE88) (rz (ck 3 (ae (by cases H;exact og (gP [1,2,5,6,7,9,10] [0,1] (po1 (pn1 (nL 1 Ae) y109.1 (Pl.z))))))))))))))))))
 ·exact ex 6 (qx (by cases H;exact xo rfl (gP [1,2,5,6,7,9] [0,1] (po1 (pn1 (nL 1 Ae) out_20 (Pl.z))))))
theorem N9 (x:((List (List Int))×Bool)) (z:(((List (List Int))×Bool)⊕(List (List Int)))) (H:DQ n p0_ p1_ r139 i_21 x.1 x.2=some z):WP (cxk 116 0) (Aw Tryz.f24) [1,1,1,0,1,0,0,1,0,0,1,1,1,0,0] (Au 0 (IX p0_ p1_ r139 i_21) (Pc p0_ p1_ r139 i_21) z) (IX p0_ p1_ r139 i_21 x):=by
 obtain ⟨out_18,changed_1⟩:=x
 refine sq (sr (ck 1 (en (cn H (λ H=>?_) (λ H=>?_)))))
 ·exact sk (qz (bk 5 (sr (ck 1 (en (sr (ck 1 (en (bk 6 (bx H λ y110 h478 H=>lX N8 h478 (gP [1,2,5,6,7,9,10] [0,1] (po1 (pn1 (nL 1 Ae) out_18 (Pl.z)))) rfl λ s hE89=>qH (qN (by cases H;exact og (tr (hE89) (gP [1,2,5,6,7,9] [0,1] (po1 (pn1 (nL 1 Ae) y110.1 (Pl.z)))))))))))))))))
 ·exact ex 4 (qx (by cases H;exact xo rfl (gP [1,2,5,6,7] [0,1] (po1 (pn1 (nL 1 Ae) out_18 (Pl.z))))))
theorem Oa (x:((List (List Int))×Int)) (z:(((List (List Int))×Int)⊕(List (List Int)))) (H:Fd n p0_ p1_ r139 x.1 x.2=some z):WP (cxk 116 0) (Aw Tryz.f24) [1,1,1,0,1,0,0] (Au 0 (IY p0_ p1_ r139) (Pd) z) (IY p0_ p1_ r139 x):=by
 obtain ⟨out_13,i_21⟩:=x
 refine sq (sr (ck 2 (en (cn H (λ H=>?_) (λ H=>?_)))))
 ·exact sk (qz (sq (bk 1 (sq (bx H λ x157 h456 H=>rg (so1 (encN:=(nL 1 Ae)) 1 1 h456) (ck 3 (sp (AB Aj r139) (bx H λ l56 h457 H=>sp (Uh Ae 1 h457) (sp (Az 1 1 h456) (sp (LU (encN:=(nL 1 Ae)) (row:=[.own 1 (x157.map Ae)]) (row':=[.osl 2 1 0 (l56.length)]) (k:=1) (sz:=1) (off:=0) (t:=ty 35) (v:=.osl 2 1 0 (l56.length)) h456) (en (sq (sq (rg (tr (tr (tr (sni (encN:=(nL 1 Ae)) (xs:=out_13) (n:=i_21) (enc:=Ae) [.osl 2 1 0 (l56.length)] l56 1 1 0 2 1) (scl (encN:=(nL 1 Ae)) (xss:=out_13) i_21 [.own 1 (l56.map Ae)] 1 1 l56)) (sn 6 1 1 (lsS out_13 i_21.toNat l56))) (sn 25 1 1 (lsS out_13 i_21.toNat l56))) (ck 1 (en (bk 2 (bx H λ y108 h466 H=>lX N6 h466 (gP [1,2,5,6,7,8] [0,1] (po1 (pn1 (nL 1 Ae) (List.set out_13 i_21.toNat l56) (Pl.z)))) rfl λ s hE87=>qH (qs (hE87) (sr (ck 1 (en (bk 4 (bx H λ y111 h479 H=>lX N9 h479 (gP [1,2,5,6,7,9] [0,1] (po1 (pn1 (nL 1 Ae) y108 (Pl.z)))) rfl λ s hE90=>qH (qN (qs (hE90) (rz (ck 3 (ae (by cases H;exact og (gP [1,2,5,6,7] [0,1] (po1 (pn1 (nL 1 Ae) y111 (Pl.z))))))))))))))))))))))))))))))))))
 ·exact ex 0 (qx (by cases H;exact xo rfl (gP [6] [1] (pn1 (nL 1 Ae) out_13 (Pl.z)))))
theorem Q0 {z} (H:HF n p0_ p1_=some z):AD Tryz.prog 24 [.agg (AK p0_),.d (.str p1_)] (.d (.sl (z.map (eL Ae)))):=by
 exact fO 116 (JiL p0_ p1_) Tryz.func24 (sr (ck 2 (en (sr (ck 1 (bx H λ r139 h454 H=>ca false (Tx h454) (ck 1 (en (sr (ck 3 (bx H λ l55 h455 H=>sp (Sq 1 (ez:=[.nil]) h455) (ck 1 (en (sq (sq (rg (tr (tr (U7 (encN:=(nL 1 Ae)) (sz:=1) (z:=[.nil]) (n:=(AE .i64 ((p1_.length:Nat):Int) 1)) 1 (MG h455) (by kernel_rfl) (by kernel_rfl)) (sn 18 1 1 (GJ h455))) (sn 6 1 1 (GJ h455))) (ck 3 (en (bk 0 (bx H λ y112 h480 H=>lX Oa h480 (gP [1,2,5,6,7] [0,1] (po1 (pn1 (nL 1 Ae) l55 (Pl.z)))) rfl λ s hE91=>qH (qs (hE91) (sr (ck 2 (ae (qs (YY (encN:=(nL 1 Ae)) (encD:=(eL Ae)) (xss:=y112) (k:=0) (sz:=1) 4 (by kernel_rfl) (λ _=>rfl) (λ _=>rfl)) (re (by cases H;exact pr rd)))))))))))))))))))))))))))
end
section
variable (p0_:Ad) (p1_:(List UInt8)) (r143:(List (List Int))) (out_25:AX) (i_22:Int) (out_26:AX) (least_4:Int) (k_6:Int) (least_5:Int) (least_6:Int) (y113:Int) (column_18:(List Int)) (k_7:Int) (column_19:(List Int)) (column_20:(List Int))
def JkA:St:=⟨(0,.agg [.d (.int .i64 p0_.Modes),.d (.int .u8 p0_.Accept),.d (.sl (p0_.Rules.map An))])::(1,.d (.str p1_))::[],[]⟩
def JkB:St:=⟨(4,.ptr 0 0)::(5,.ptr 1 0)::(6,.d (.sl (r143.map (eL Ae))))::(7,.d (.int .i64 i_22))::[],[some (.box [.d (.str []),.osl 2 1 0 (List.length ([]:List (List Int))),.osl 3 1 0 (List.length ([]:List Int))]),some (.box (FH out_25 (.osl 4 1 0 (out_25.Costs.length)) (.osl 5 1 0 (out_25.Least.length)))),some (.arr 1 (List.map (eL Ae) ([]:List (List Int)))),some (.arr 1 (List.map Ae ([]:List Int))),some (.arr 1 (out_25.Costs.map (eL Ae))),some (.arr 1 (out_25.Least.map Ae))]⟩
def JkC:St:=⟨(4,.ptr 0 0)::(5,.ptr 1 0)::[],[some (.box [.d (.str []),.osl 2 1 0 (List.length ([]:List (List Int))),.osl 3 1 0 (List.length ([]:List Int))]),some (.box (FH out_26 (.osl 4 1 0 (out_26.Costs.length)) (.osl 5 1 0 (out_26.Least.length)))),some (.arr 1 (List.map (eL Ae) ([]:List (List Int)))),some (.arr 1 (List.map Ae ([]:List Int))),some (.arr 1 (out_26.Costs.map (eL Ae))),some (.arr 1 (out_26.Least.map Ae))]⟩
def JkD:St:=⟨(4,.ptr 0 0)::(5,.ptr 1 0)::(6,.d (.sl (r143.map (eL Ae))))::(7,.d (.int .i64 i_22))::(8,.d (.int .i64 least_4))::(9,.d (.int .i64 k_6))::[],[some (.box [.d (.str []),.osl 2 1 0 (List.length ([]:List (List Int))),.osl 3 1 0 (List.length ([]:List Int))]),some (.box (FH out_25 (.osl 4 1 0 (out_25.Costs.length)) (.osl 5 1 0 (out_25.Least.length)))),some (.arr 1 (List.map (eL Ae) ([]:List (List Int)))),some (.arr 1 (List.map Ae ([]:List Int))),some (.arr 1 (out_25.Costs.map (eL Ae))),some (.arr 1 (out_25.Least.map Ae))]⟩
def JkE:St:=⟨(4,.ptr 0 0)::(5,.ptr 1 0)::(6,.d (.sl (r143.map (eL Ae))))::(7,.d (.int .i64 i_22))::(8,.d (.int .i64 least_5))::[],[some (.box [.d (.str []),.osl 2 1 0 (List.length ([]:List (List Int))),.osl 3 1 0 (List.length ([]:List Int))]),some (.box (FH out_25 (.osl 4 1 0 (out_25.Costs.length)) (.osl 5 1 0 (out_25.Least.length)))),some (.arr 1 (List.map (eL Ae) ([]:List (List Int)))),some (.arr 1 (List.map Ae ([]:List Int))),some (.arr 1 (out_25.Costs.map (eL Ae))),some (.arr 1 (out_25.Least.map Ae))]⟩
def JkF:St:=⟨(4,.ptr 0 0)::(5,.ptr 1 0)::(6,.d (.sl (r143.map (eL Ae))))::(7,.d (.int .i64 i_22))::(8,.d (.int .i64 least_6))::(9,.d (.int .i64 k_6))::[],[some (.box [.d (.str []),.osl 2 1 0 (List.length ([]:List (List Int))),.osl 3 1 0 (List.length ([]:List Int))]),some (.box (FH out_25 (.osl 4 1 0 (out_25.Costs.length)) (.osl 5 1 0 (out_25.Least.length)))),some (.arr 1 (List.map (eL Ae) ([]:List (List Int)))),some (.arr 1 (List.map Ae ([]:List Int))),some (.arr 1 (out_25.Costs.map (eL Ae))),some (.arr 1 (out_25.Least.map Ae))]⟩
def TA:Int->Ex->St->Prop:=xX 0 2 (λ (y:Int)=>JkE r143 out_25 i_22 y)
def NF:(Int×Int)->St:=(λ (x:(Int×Int))=>JkD r143 out_25 i_22 x.1 x.2)
def JkG:St:=⟨(4,.ptr 0 0)::(5,.ptr 1 0)::(6,.d (.sl (r143.map (eL Ae))))::(7,.d (.int .i64 i_22))::(8,.d (.int .i64 y113))::(10,.osl 2 1 0 (column_18.length))::(11,.d (.int .i64 k_7))::[],[some (.box [.d (.str []),.osl 3 1 0 (List.length ([]:List (List Int))),.osl 4 1 0 (List.length ([]:List Int))]),some (.box (FH out_25 (.osl 5 1 0 (out_25.Costs.length)) (.osl 6 1 0 (out_25.Least.length)))),some (.arr 1 (column_18.map Ae)),some (.arr 1 (List.map (eL Ae) ([]:List (List Int)))),some (.arr 1 (List.map Ae ([]:List Int))),some (.arr 1 (out_25.Costs.map (eL Ae))),some (.arr 1 (out_25.Least.map Ae))]⟩
def JkH:St:=⟨(4,.ptr 0 0)::(5,.ptr 1 0)::(6,.d (.sl (r143.map (eL Ae))))::(7,.d (.int .i64 i_22))::(8,.d (.int .i64 y113))::(10,.osl 2 1 0 (column_19.length))::[],[some (.box [.d (.str []),.osl 3 1 0 (List.length ([]:List (List Int))),.osl 4 1 0 (List.length ([]:List Int))]),some (.box (FH out_25 (.osl 5 1 0 (out_25.Costs.length)) (.osl 6 1 0 (out_25.Least.length)))),some (.arr 1 (column_19.map Ae)),some (.arr 1 (List.map (eL Ae) ([]:List (List Int)))),some (.arr 1 (List.map Ae ([]:List Int))),some (.arr 1 (out_25.Costs.map (eL Ae))),some (.arr 1 (out_25.Least.map Ae))]⟩
def JkI:St:=⟨(4,.ptr 0 0)::(5,.ptr 1 0)::(6,.d (.sl (r143.map (eL Ae))))::(7,.d (.int .i64 i_22))::(8,.d (.int .i64 y113))::(10,.osl 2 1 0 (column_20.length))::(11,.d (.int .i64 k_7))::[],[some (.box [.d (.str []),.osl 3 1 0 (List.length ([]:List (List Int))),.osl 4 1 0 (List.length ([]:List Int))]),some (.box (FH out_25 (.osl 5 1 0 (out_25.Costs.length)) (.osl 6 1 0 (out_25.Least.length)))),some (.arr 1 (column_20.map Ae)),some (.arr 1 (List.map (eL Ae) ([]:List (List Int)))),some (.arr 1 (List.map Ae ([]:List Int))),some (.arr 1 (out_25.Costs.map (eL Ae))),some (.arr 1 (out_25.Least.map Ae))]⟩
def TB:(List Int)->Ex->St->Prop:=xX 0 4 (λ (y:(List Int))=>JkH r143 out_25 i_22 y113 y)
def NG:((List Int)×Int)->St:=(λ (x:((List Int)×Int))=>JkG r143 out_25 i_22 y113 x.1 x.2)
def TC:AX->Ex->St->Prop:=xX 0 0 (λ (y:AX)=>JkC y)
def NH:(AX×Int)->St:=(λ (x:(AX×Int))=>JkB r143 x.1 x.2)
variable {p0_ p1_ r143 out_25 i_22 out_26 least_4 k_6 least_5 least_6 y113 column_18 k_7 column_19 column_20}
theorem SQ (x:(Int×Int)) (z:((Int×Int)⊕Int)) (H:FE n r143 out_25 i_22 x.1 x.2=some z):WP (cxk 108 0) (Aw Tryz.f9) [1,1,1,0,1,0,0,1,0,0,1,0,1,0,0] (Au 0 (NF r143 out_25 i_22) (TA r143 out_25 i_22) z) (NF r143 out_25 i_22 x):=by
 obtain ⟨least_4,k_6⟩:=x
 refine sq (sr (ck 3 (bx H λ x170 h482 H=>sp (Am (eL Ae) h482) (ck 1 (sp (AB Ae x170) (ck 1 (en (cn H (λ H=>?_) (λ H=>?_)))))))))
 ·refine sk (qz (sj (λ (x:Int)=>JkF r143 out_25 i_22 k_6 x) (λ (x:Int)=>G2 n k_6 x) z ?_ (λ hFR7_Memo_J1=>?_)))
  ·intro least_6 H
   exact rz (ck 3 (ae (by cases H;exact og (sg [4,5,6,7,8,9]))))
  refine bk 3 (sr (ck 2 (bx H λ x171 h483 H=>sp (Am (eL Ae) h483) (ck 2 (bx H λ x172 h484 H=>sp (Am Ae h484) (ck 4 (gc 2 (decide (x172>=0)) (ck 2 (bx H λ x173 h485 H=>sE (λ hg=>Am (eL Ae) (BB h485 hg)) (gc 1 ((decide (x172>=0))&&!(decide (least_4<0))) (ck 1 (bx H λ x174 h486 H=>sE (λ hg=>Am Ae (BB h486 hg)) (gc 1 ((decide (x172>=0))&&!(decide (least_4<0))) (ck 1 (gc 1 ((decide (x172>=0))&&!(decide (least_4<0))) (pG (g:=decide (x172>=0)) (v:=.d (.bool ((decide (least_4<0))||(decide (x174<least_4))))) (λ hg=>Gy (c:=.gv (decide (x172>=0)) (.d (.bool (decide (least_4<0))))) (a:=.d (.bool true)) (b:=.gv ((decide (x172>=0))&&!(decide (least_4<0))) (.d (.bool (decide (x174<least_4))))) rfl rfl rfl ((λ hh=>hh) hg) trivial (λ ht=>by rw [(λ hh=>hh) hg,ht];rfl)) (pA (en (cn H (λ H=>?_) (λ H=>?_))))))))))))))))))))
  ·exact rz (ck 2 (bx H λ x175 h487 H=>sp (Am (eL Ae) h487) (ck 2 (bx H λ x176 h488 H=>sp (Am Ae h488) (ck 2 (ae (qN (qs (sg [4,5,6,7,8,9]) (hFR7_Memo_J1 x176 H)))))))))
  ·exact sk (qN (qs (sg [4,5,6,7,8,9]) (hFR7_Memo_J1 least_4 H)))
 ·exact ex 2 (qx (by cases H;exact xo rfl (sg [4,5,6,7,8])))
theorem SR (x:((List Int)×Int)) (z:(((List Int)×Int)⊕(List Int))) (H:FF n r143 out_25 i_22 y113 x.1 x.2=some z):WP (cxk 108 0) (Aw Tryz.f9) [1,1,1,0,1,0,0,1,0,0,1,1,1,0,1,0,0] (Au 0 (NG r143 out_25 i_22 y113) (TB r143 out_25 i_22 y113) z) (NG r143 out_25 i_22 y113 x):=by
 obtain ⟨column_18,k_7⟩:=x
 refine sq (sr (ck 3 (bx H λ x177 h490 H=>sp (Am (eL Ae) h490) (ck 1 (sp (AB Ae x177) (ck 1 (en (cn H (λ H=>?_) (λ H=>?_)))))))))
 ·refine sk (qz (sj (λ (x:(List Int))=>JkI r143 out_25 i_22 y113 k_7 x) (λ (x:(List Int))=>G3 n k_7 x) z ?_ (λ hFR7_Memo_J2=>?_)))
  ·intro column_20 H
   exact rz (ck 3 (ae (by cases H;exact og (sg [4,5,6,7,8,10,11]))))
  refine bk 5 (sr (ck 2 (bx H λ x178 h491 H=>sp (Am (eL Ae) h491) (ck 2 (bx H λ x179 h492 H=>sp (Am Ae h492) (ck 2 (en (cn H (λ H=>?_) (λ H=>?_)))))))))
  ·exact rz (ck 2 (bx H λ l60 h493 H=>sp (B5 Ae 2 1 h493) (ck 1 (ae (qN (qs (sg [4,5,6,7,8,10,11]) (hFR7_Memo_J2 l60 H)))))))
  ·exact rz (ck 3 (bx H λ x180 h494 H=>sp (Am (eL Ae) h494) (ck 2 (bx H λ x181 h495 H=>sp (Am Ae h495) (ck 4 (bx H λ l61 h496 H=>sp (B5 Ae 2 1 h496) (ck 1 (ae (qN (qs (sg [4,5,6,7,8,10,11]) (hFR7_Memo_J2 l61 H)))))))))))
 ·exact ex 4 (qx (by cases H;exact xo rfl (sg [4,5,6,7,8,10])))
theorem SS (x:(AX×Int)) (z:((AX×Int)⊕AX)) (H:G4 n r143 x.1 x.2=some z):WP (cxk 108 0) (Aw Tryz.f9) [1,1,1,0,1,0,0] (Au 0 (NH r143) (TC) z) (NH r143 x):=by
 obtain ⟨out_25,i_22⟩:=x
 refine sq (sr (ck 2 (sp (AB (eL Ae) r143) (ck 1 (en (cn H (λ H=>?_) (λ H=>?_)))))))
 ·exact sk (qz (sq (bk 1 (sr (ck 1 (en (sq (sr (ck 1 (en (bk 2 (bx H λ y113 h489 H=>lX SQ h489 (sg [4,5,6,7,8,9]) rfl λ s hE92=>qH (qs (hE92) (sr (ck 2 (en (sq (sr (ck 1 (en (bk 4 (bx H λ y114 h497 H=>lX SR h497 (sg [4,5,6,7,8,10,11]) rfl λ s hE93=>qH (qs (hE93) (sq (rg (fz (enc:=Ae) (xs:=y114) 10 2 1) (ck 4 (bx H λ l62 h498 H=>sp (B5 (eL Ae) 5 1 h498) (ck 2 (en (rz (ck 4 (bx H λ l63 h499 H=>sp (B5 Ae 6 1 h499) (ck 2 (ae (qN (qz (rz (ck 3 (ae (by cases H;exact og (sg [4,5,6,7])))))))))))))))))))))))))))))))))))))))))
 ·exact ex 0 (qx (by cases H;exact xo rfl (sg [4,5])))
theorem QG {z} (H:LY n p0_ p1_=some z):AD Tryz.prog 9 [.agg (AK p0_),.d (.str p1_)] (.agg [.d (.str z.Text),.own 1 (z.Costs.map (eL Ae)),.own 1 (z.Least.map Ae)]):=by
 exact fO 108 (JkA p0_ p1_) Tryz.func9 (sr (ck 2 (en (sr (ck 4 (en (sr (ck 2 (bx H λ r143 h481 H=>ca false (Q0 h481) (ck 1 (en (sq (sr (ck 1 (en (bk 0 (bx H λ y115 h500 H=>lX SS h500 (tr (tr (tr (tr (BL 1 1 1 (by kernel_rfl)) (BL 1 2 1 (by kernel_rfl))) (BL 2 1 1 (by kernel_rfl))) (BL 2 2 1 (by kernel_rfl))) (sg [4,5,6,7])) rfl λ s hE94=>qH (qs (hE94) (sr (ck 2 (en (re (by cases H;exact pr (rO (v:=.agg [.d (.str z.Text),.osl 4 1 0 (z.Costs.length),.osl 5 1 0 (z.Least.length)]) [4,5] (a1 (c1 vd (c1 vo (c1 vo (c0)))))))))))))))))))))))))))))
end
section
variable (p0_:(List UInt8)) (p1_:B6)
def JiU:St:=⟨(0,.d (.str p0_))::(1,.agg [.d (.int .i64 p1_.At),.d (.int .i64 p1_.Cut),.d (.str p1_.Put)])::[],[]⟩
variable {p0_ p1_}
theorem W5 {z} (H:LZ n p0_ p1_=some z):AD Tryz.prog 31 [.d (.str p0_),.agg (EC p1_)] (.d (.bool z)):=by
 exact fO 30 (JiU p0_ p1_) Tryz.func31 (sr (ck 2 (en (sr (ck 5 (gc 2 (decide (p1_.At>=0)) (pA (ck 2 (gc 1 ((decide (p1_.At>=0))&&(decide (p1_.Cut>=0))) (ck 1 (gc 2 ((decide (p1_.At>=0))&&(decide (p1_.Cut>=0))) (pA (ck 2 (gc 1 (((decide (p1_.At>=0))&&(decide (p1_.Cut>=0)))&&(decide (p1_.At<=((p0_.length:Nat):Int)))) (ck 1 (gc 1 (((decide (p1_.At>=0))&&(decide (p1_.Cut>=0)))&&(decide (p1_.At<=((p0_.length:Nat):Int)))) (ck 1 (gc 3 (((decide (p1_.At>=0))&&(decide (p1_.Cut>=0)))&&(decide (p1_.At<=((p0_.length:Nat):Int)))) (pA (ck 1 (en (re (by cases H;exact pr rd)))))))))))))))))))))))
end
section
variable (p0_:(List UInt8)) (p1_:B6)
def JiV:St:=⟨(0,.d (.str p0_))::(1,.agg [.d (.int .i64 p1_.At),.d (.int .i64 p1_.Cut),.d (.str p1_.Put)])::[],[]⟩
variable {p0_ p1_}
theorem ST {z} (H:IL n p0_ p1_=some z):AD Tryz.prog 15 [.d (.str p0_),.agg (EC p1_)] (.d (.str z)):=by
 exact fO 20 (JiV p0_ p1_) Tryz.func15 (sr (ck 2 (en (sr (ck 3 (bx H λ s13 h505 H=>sp (Hw h505) (ck 2 (bx H λ s14 h506 H=>sp (PF h506) (ck 6 (bx H λ s15 h507 H=>sp (Hw h507) (bx H λ s16 h508 H=>sp (PF h508) (ck 1 (en (re (by cases H;exact pr rd)))))))))))))))
end
section
variable (p0_:AX) (p1_:AX) (p2_:Int) (known_13:Bool) (by_1:Int) (k_8:Int) (known_14:Bool) (by_2:Int)
def JiW:St:=⟨(0,.agg [.d (.str p0_.Text),.d (.sl (p0_.Costs.map (eL Ae))),.d (.sl (p0_.Least.map Ae))])::(1,.agg [.d (.str p1_.Text),.d (.sl (p1_.Costs.map (eL Ae))),.d (.sl (p1_.Least.map Ae))])::(2,.d (.int .i64 p2_))::[],[]⟩
def JiX:St:=⟨(2,.d (.int .i64 p2_))::(3,.ptr 0 0)::(4,.ptr 1 0)::(7,.d (.bool known_13))::(8,.d (.int .i64 by_1))::(9,.d (.int .i64 k_8))::[],[some (.box (CQ p0_)),some (.box (CQ p1_))]⟩
def JiY:St:=⟨[],[]⟩
def JiZ:St:=⟨(2,.d (.int .i64 p2_))::(3,.ptr 0 0)::(4,.ptr 1 0)::(7,.d (.bool known_14))::(8,.d (.int .i64 by_2))::(9,.d (.int .i64 k_8))::[],[some (.box (CQ p0_)),some (.box (CQ p1_))]⟩
def SU:(Unit⊕Bool)->Ex->St->Prop:=xS (xX 0 0 (λ (_:Unit)=>JiY)) (xR ty Tryz.f59 (λ (y:Bool)=>.d (.bool y)))
def Ml:(Bool×Int×Int)->St:=(λ (x:(Bool×Int×Int))=>JiX p0_ p1_ p2_ x.1 x.2.1 x.2.2)
variable {p0_ p1_ p2_ known_13 by_1 k_8 known_14 by_2}
theorem Lj (x:(Bool×Int×Int)) (z:((Bool×Int×Int)⊕(Unit⊕Bool))) (H:FU n p0_ p1_ p2_ x.1 x.2.1 x.2.2=some z):WP (cxk 77 0) (Aw Tryz.f59) [1,1,1,0,1,0,0] (Au 0 (Ml p0_ p1_ p2_) (SU) z) (Ml p0_ p1_ p2_ x):=by
 obtain ⟨known_13,by_1,k_8⟩:=x
 refine sq (sr (ck 4 (en (cn H (λ H=>?_) (λ H=>?_)))))
 ·refine sk (qz (sj (λ (x:(Bool×Int))=>JiZ p0_ p1_ p2_ k_8 x.1 x.2) (λ (x:(Bool×Int))=>FT n k_8 x.1 x.2) z ?_ (λ hFR7_equal_J1=>?_)))
  ·rintro ⟨known_14,by_2⟩ H
   exact rz (ck 3 (ae (by cases H;exact og (sg [2,3,4,7,8,9]))))
  refine bk 1 (sq (sr (ck 3 (bx H λ x182 h509 H=>sp (Am (eL Ae) h509) (ck 4 (bx H λ x183 h510 H=>sp (Am (eL Ae) h510) (ck 1 (bx H λ r145 h511 H=>ca false (Eg h511) (ck 3 (gc 1 (!(!r145)) (ck 1 (bx H λ x184 h512 H=>sE (λ hg=>Am Ae (BB h512 hg)) (gc 2 (!(!r145)) (ck 1 (gc 1 (!(!r145)) (ck 1 (bx H λ x185 h513 H=>sE (λ hg=>Am Ae (BB h513 hg)) (gc 3 (!(!r145)) (pO (en (cn H (λ H=>?_) (λ H=>?_))))))))))))))))))))))
  ·exact sr (ck 1 (en (re (qr (qR (qr (by cases H;exact ro rfl rd)))))))
  ·refine sk (qz (sq (sr (ck 3 (bx H λ x186 h514 H=>sp (Am Ae h514) (ck 2 (en (cn H (λ H=>?_) (λ H=>?_)))))))))
   ·exact ex 1 (qx (qH (qs (sg [2,3,4,7,8,9]) (hFR7_equal_J1 (known_13,by_1) H))))
   ·refine sk (qz (sq (sr (ck 3 (gc 1 known_13 (ck 1 (bx H λ x187 h515 H=>sE (λ hg=>Am Ae (BB h515 hg)) (gc 1 known_13 (ck 1 (gc 1 known_13 (ck 1 (bx H λ x188 h516 H=>sE (λ hg=>Am Ae (BB h516 hg)) (gc 2 known_13 (ck 1 (gc 1 known_13 (pA (en (cn H (λ H=>?_) (λ H=>?_)))))))))))))))))))
    ·exact sr (ck 1 (en (re (qr (qR (qr (by cases H;exact ro rfl rd)))))))
    ·exact sk (qz (sr (ck 3 (bx H λ x189 h517 H=>sp (Am Ae h517) (ck 4 (bx H λ x190 h518 H=>sp (Am Ae h518) (ck 3 (en (rz (ck 1 (ae (qN (qs (sg [2,3,4,7,8,9]) (hFR7_equal_J1 (true,(Dw .i64 x189 x190)) H))))))))))))))
 ·exact ex 0 (qx (by cases H;exact xo rfl (sg [])))
theorem Vs {z} (H:MS n p0_ p1_ p2_=some z):AD Tryz.prog 59 [.agg (CQ p0_),.agg (CQ p1_),.d (.int .i64 p2_)] (.d (.bool z)):=by
 refine fO 77 (JiW p0_ p1_ p2_) Tryz.func59 (sr (ck 3 (en (sr (ck 1 (en (sr (ck 1 (en (sq (sr (ck 2 (en (bk 0 (bx H λ y116 h519 H=>?_)))))))))))))))
 rcases y116 with y117|y118
 ·exact lX Lj h519 (sg [2,3,4,7,8,9]) rfl λ s hE95=>qH (qs (hE95) (sr (ck 1 (en (re (by cases H;exact pr rd))))))
 ·exact lR Lj h519 (sg [2,3,4,7,8,9]) rfl λ s hE96=>qR (qr (by cases H;exact pr hE96))
end
section
variable (p0_:AX) (p1_:AX) (p2_:B6) (i_23:Int) (n_2:Int) (n_3:Int)
def Ji0:St:=⟨(0,.agg [.d (.str p0_.Text),.d (.sl (p0_.Costs.map (eL Ae))),.d (.sl (p0_.Least.map Ae))])::(1,.agg [.d (.str p1_.Text),.d (.sl (p1_.Costs.map (eL Ae))),.d (.sl (p1_.Least.map Ae))])::(2,.agg [.d (.int .i64 p2_.At),.d (.int .i64 p2_.Cut),.d (.str p2_.Put)])::[],[]⟩
def Ji1:St:=⟨(3,.ptr 0 0)::(4,.ptr 1 0)::(5,.ptr 2 0)::(7,.d (.int .i64 i_23))::(8,.d (.int .i64 n_2))::[],[some (.box (CQ p0_)),some (.box (CQ p1_)),some (.box (EC p2_))]⟩
def Ji2:St:=⟨(8,.d (.int .i64 n_3))::[],[]⟩
def Q1:Int->Ex->St->Prop:=xX 0 0 (λ (y:Int)=>Ji2 y)
def Lk:(Int×Int)->St:=(λ (x:(Int×Int))=>Ji1 p0_ p1_ p2_ x.1 x.2)
variable {p0_ p1_ p2_ i_23 n_2 n_3}
theorem P3 (x:(Int×Int)) (z:((Int×Int)⊕Int)) (H:GO n p0_ p1_ p2_ x.1 x.2=some z):WP (cxk 33 0) (Aw Tryz.f33) [1,1,1,0,0,0] (Au 0 (Lk p0_ p1_ p2_) (Q1) z) (Lk p0_ p1_ p2_ x):=by
 obtain ⟨i_23,n_2⟩:=x
 refine sq (sr (ck 2 (en (cn H (λ H=>?_) (λ H=>?_)))))
 ·refine sk (qz (bk 1 (sq (sr (ck 9 (bx H λ r146 h520 H=>cG false (leZ) rfl (λ hg=>Vs (BB h520 hg)) (Or.inl rfl) (BY (λ hh=>hh) (BY (λ hh=>hh) (BY (λ hh=>hh) (Eb)))) rfl (pA (en (cn H (λ H=>?_) (λ H=>?_))))))))))
  ·exact ex 0 (qx (qX rfl (by cases H;exact xo rfl (sg [8]))))
  ·exact sk (qz (sr (ck 3 (en (rz (ck 3 (ae (qN (by cases H;exact og (sg [3,4,5,7,8]))))))))))
 ·exact ex 0 (qx (by cases H;exact xo rfl (sg [8])))
theorem TD {z} (H:Ki n p0_ p1_ p2_=some z):AD Tryz.prog 33 [.agg (CQ p0_),.agg (CQ p1_),.agg (EC p2_)] (.d (.int .i64 z)):=by
 exact fO 33 (Ji0 p0_ p1_ p2_) Tryz.func33 (sr (ck 4 (en (sr (ck 7 (en (sr (ck 1 (en (sq (bk 0 (bx H λ y119 h521 H=>lX P3 h521 (sg [3,4,5,7,8]) rfl λ s hE97=>qH (qs (hE97) (sr (ck 2 (en (re (by cases H;exact pr rd))))))))))))))))))
end
section
variable (p0_:Ad) (p1_:AX) (p2_:B6)
def Ji3:St:=⟨(0,.agg [.d (.int .i64 p0_.Modes),.d (.int .u8 p0_.Accept),.d (.sl (p0_.Rules.map An))])::(1,.agg [.d (.str p1_.Text),.d (.sl (p1_.Costs.map (eL Ae))),.d (.sl (p1_.Least.map Ae))])::(2,.agg [.d (.int .i64 p2_.At),.d (.int .i64 p2_.Cut),.d (.str p2_.Put)])::[],[]⟩
variable {p0_ p1_ p2_}
theorem TE {z} (H:DG n p0_ p1_ p2_=some z):AD Tryz.prog 12 [.agg (AK p0_),.agg (CQ p1_),.agg (EC p2_)] (.tup [.agg [.d (.str z.1.Text),.d (.sl (z.1.Costs.map (eL Ae))),.d (.sl (z.1.Least.map Ae))],.d (.int .i64 z.2.1),.d (.int .i64 z.2.2)]):=by
 refine fO 37 (Ji3 p0_ p1_ p2_) Tryz.func12 (sr (ck 6 (en (sr (ck 3 (bx H λ r147 h522 H=>ca false (W5 h522) (ck 1 (en (sq (sr (ck 2 (en (cn H (λ H=>?_) (λ H=>?_))))))))))))))
 ·exact sr (ck 4 (en (re (qr (by cases H;exact pr (rT (vs:=[.agg [.d (.str []),.d (.nil),.d (.nil)],.d (.int .i64 0),.d (.int .i64 1)]) [] (t1 (a1 (c1 vd (c1 vn (c1 vn (c0))))) (t1 (ad vd) (t1 (ad vd) (t0))))))))))
 ·refine sk (qz (sr (ck 3 (bx H λ r148 h523 H=>ca false (ST h523) (ck 1 (en (sr (ck 1 (bx H λ r149 h524 H=>ca false (NC h524) (ck 1 (en (sq (sr (ck 2 (en (cn H (λ H=>?_) (λ H=>?_)))))))))))))))))
  ·exact sr (ck 4 (en (re (qr (by cases H;exact pr (rT (vs:=[.agg [.d (.str []),.d (.nil),.d (.nil)],.d (.int .i64 0),.d (.int .i64 60)]) [] (t1 (a1 (c1 vd (c1 vn (c1 vn (c0))))) (t1 (ad vd) (t1 (ad vd) (t0))))))))))
  ·exact sk (qz (sr (ck 2 (bx H λ r150 h525 H=>ca false (QG h525) (ck 2 (en (sr (ck 4 (bx H λ r151 h526 H=>ca true (TD h526) (ck 3 (en (re (by cases H;exact pr rdT)))))))))))))
end
section
variable (p0_:AX) (p1_:AX) (i_24:Int)
def Ji4:St:=⟨(0,.agg [.d (.str p0_.Text),.d (.sl (p0_.Costs.map (eL Ae))),.d (.sl (p0_.Least.map Ae))])::(1,.agg [.d (.str p1_.Text),.d (.sl (p1_.Costs.map (eL Ae))),.d (.sl (p1_.Least.map Ae))])::[],[]⟩
def Ji5:St:=⟨(2,.ptr 0 0)::(3,.ptr 1 0)::(5,.d (.int .i64 i_24))::[],[some (.box (CQ p0_)),some (.box (CQ p1_))]⟩
def Ji6:St:=⟨[],[]⟩
def TF:(Unit⊕Bool)->Ex->St->Prop:=xS (xX 0 0 (λ (_:Unit)=>Ji6)) (xR ty Tryz.f13 (λ (y:Bool)=>.d (.bool y)))
def NI:Int->St:=(λ (x:Int)=>Ji5 p0_ p1_ x)
variable {p0_ p1_ i_24}
theorem Mm (x:Int) (z:(Int⊕(Unit⊕Bool))) (H:G5 n p0_ p1_ x=some z):WP (cxk 47 0) (Aw Tryz.f13) [1,1,0,1,0,0] (Au 0 (NI p0_ p1_) (TF) z) (NI p0_ p1_ x):=by
 revert H
 generalize x=i_24
 intro H
 refine sq (sr (ck 3 (sp (AB (eL Ae) p0_.Costs) (ck 1 (en (cn H (λ H=>?_) (λ H=>?_)))))))
 ·refine sk (qz (sq (bk 1 (sr (ck 3 (bx H λ x191 h528 H=>sp (Am (eL Ae) h528) (ck 4 (bx H λ x192 h529 H=>sp (Am (eL Ae) h529) (ck 1 (bx H λ r153 h530 H=>ca false (Eg h530) (ck 1 (en (cn H (λ H=>?_) (λ H=>?_))))))))))))))
  ·exact sr (ck 1 (en (re (qR (qr (by cases H;exact ro rfl rd))))))
  ·exact sk (qN (qz (rz (ck 3 (ae (by cases H;exact og (sg [2,3,5])))))))
 ·exact ex 0 (qx (by cases H;exact xo rfl (sg [])))
theorem W6 {z} (H:G6 n p0_ p1_=some z):AD Tryz.prog 13 [.agg (CQ p0_),.agg (CQ p1_)] (.d (.bool z)):=by
 refine fO 47 (Ji4 p0_ p1_) Tryz.func13 (sr (ck 3 (en (sq (sr (ck 7 (gc 1 (!(!(p0_.Text==p1_.Text))) (sE (g:=(!(!(p0_.Text==p1_.Text)))) (λ hg=>AB (eL Ae) p0_.Costs) (ck 1 (gc 1 (!(!(p0_.Text==p1_.Text))) (sE (g:=(!(!(p0_.Text==p1_.Text)))) (λ hg=>AB (eL Ae) p1_.Costs) (gc 1 (!(!(p0_.Text==p1_.Text))) (pO (ck 2 (gc 1 (!((!(p0_.Text==p1_.Text))||(((p0_.Costs.length:Nat):Int) != ((p1_.Costs.length:Nat):Int)))) (ck 1 (gc 1 (!((!(p0_.Text==p1_.Text))||(((p0_.Costs.length:Nat):Int) != ((p1_.Costs.length:Nat):Int)))) (bx H λ r152 h527 H=>cG false (leZ) rfl (λ hg=>Eg (BB h527 hg)) (Or.inl rfl) (BY (λ hh=>hh) (BY (λ hh=>hh) (Eb))) rfl (gc 1 (!((!(p0_.Text==p1_.Text))||(((p0_.Costs.length:Nat):Int) != ((p1_.Costs.length:Nat):Int)))) (pO (en (cn H (λ H=>?_) (λ H=>?_)))))))))))))))))))))))
 ·exact sr (ck 1 (en (re (qr (by cases H;exact pr rd)))))
 ·refine sk (qz (sq (sr (ck 1 (en (bk 0 (bx H λ y120 h531 H=>?_)))))))
  rcases y120 with y121|y122
  ·exact lX Mm h531 (sg [2,3,5]) rfl λ s hE98=>qH (qs (hE98) (sr (ck 1 (en (re (by cases H;exact pr rd))))))
  ·exact lR Mm h531 (sg [2,3,5]) rfl λ s hE99=>qR (qr (by cases H;exact pr hE99))
end
section
variable (p0_:M9) (p1_:(List Int)) (p2_:B6)
def JkJ:St:=⟨(0,.agg [.d (.int .u8 p0_.Base),.d (.int .u8 p0_.Drop),.d (.sl (p0_.More.map FG))])::(1,.d (.sl (p1_.map eU8)))::(2,.agg [.d (.int .i64 p2_.At),.d (.int .i64 p2_.Cut),.d (.str p2_.Put)])::[],[]⟩
variable {p0_ p1_ p2_}
theorem Mn {z} (H:D4 n p0_ p1_ p2_=some z):AD Tryz.prog 5 [.agg (Yh p0_),.d (.sl (p1_.map eU8)),.agg (EC p2_)] (.d (.bool z)):=by
 refine fO 61 (JkJ p0_ p1_ p2_) Tryz.func5 (sr (ck 3 (en (sr (bx H λ r192 h610 H=>ca true (Tr h610) (ck 1 (en (sq (sr (ck 4 (en (cn H (λ H=>?_) (λ H=>?_)))))))))))))
 ·exact sr (ck 2 (en (re (qr (by cases H;exact pr rd)))))
 ·exact sk (qz (sr (ck 1 (bx H λ r193 h611 H=>ca false (W4 h611) (ck 2 (en (sr (ck 3 (bx H λ r194 h612 H=>ca false (SN h612) (bx H λ r195 h613 H=>ca false (QG h613) (ck 2 (en (sr (ck 3 (bx H λ r196 h614 H=>ca false (GP h614) (ck 8 (en (sr (ck 3 (bx H λ r197 h615 H=>ca false (TE h615) (ck 8 (en (sr (ck 4 (gc 1 r192 (pA (ck 3 (gc 1 (r192&&(r196.2.2==r197.2.2)) (pA (ck 3 (bx H λ r198 h616 H=>cG false (leZ) rfl (λ hg=>W6 (BB h616 hg)) (Or.inl rfl) (BY (λ hh=>hh) (BY (λ hh=>hh) (Eb))) rfl (pA (ck 1 (en (re (by cases H;exact pr rd))))))))))))))))))))))))))))))))))))
end
end Go.AI
end
section
namespace Go.AI
def CRd (F:Nat->Option Obj) (l:List D) (cs:List Value):Prop:=l.length=cs.length/\∀ (i:Nat) (y:D) (v:Value),l[i]? = some y->cs[i]? = some v->Bv F y v
def Hb {α:Type} (P:Program) (t:TypeId) (enc:α->List D) (ok:α->Prop):Prop:=
 ∀ (H:Type) (e:TypeId×Value->H) (w:World) (base:Nat) (spare:Nat->Bool) (held:Bool) (fuel:Nat) (cs:List Value) (x:DataW H×List MemPlace),DataW.trod e P w base spare held fuel t cs=some x->∃ a:α,ok a/\CRd (λ b=>w.heap[b]?) (enc a) cs
theorem Ri {F:Nat->Option Obj} {y:D} {v:Value} (h:Bv F y v):CRd F [y] [v]:=by
 refine ⟨rfl,λ i a b ha hb=>?_⟩
 cases i with
 | zero=>simp at ha hb;subst ha;subst hb;exact h
 | succ i=>simp at ha
theorem Um {P:Program} {t:TypeId} {k:IntKind} (ht:P.underlying t=some (.int k)):Hb P t (λ n=>[.int k n]) (λ n=>(Lit.int k n).wf=true):=by
 intro H e w base spare held fuel cs x h
 obtain ⟨n,rfl,_,hw⟩:=DataW.trod_int ht h
 exact ⟨n,hw,Ri (.int k n)⟩
theorem Vt {P:Program} {t:TypeId} (ht:P.underlying t=some .string):Hb P t eS (λ _=>True):=by
 intro H e w base spare held fuel cs x h
 obtain ⟨s,rfl,_,_⟩:=DataW.trod_string ht h
 exact ⟨s.data.toList,trivial,Ri (.str s.data.toList)⟩
theorem W7 {α:Type} {Q:Nat->α->Prop}:∀ n,(∀ i,i<n->∃ a,Q i a)->∃ l:List α,l.length=n/\∀ i a,l[i]? = some a->Q i a:=by
 intro n
 induction n with
 | zero=>intro _;exact ⟨[],rfl,λ i a h=>by simp at h⟩
 | succ n ih=>
  intro h
  obtain ⟨l,hl,hq⟩:=ih λ i hi=>h i (by omega)
  obtain ⟨a,ha⟩:=h n (by omega)
  refine ⟨l++[a],by simp [hl],λ i b hb=>?_⟩
  rcases Nat.lt_or_ge i l.length with hlt|hge
  ·rw [JlA hlt] at hb;exact hq i b hb
  ·rw [JlL hge] at hb
   have:i-l.length=0:=by have:=Ag hb;simp at this;omega
   rw [this] at hb
   simp at hb
   subst hb
   have:i=n:=by omega
   subst this
   exact ha
theorem W8 {α β:Type} {f:α->Option β}:∀ {l:List α} {r:List β},l.mapM f=some r->r.length=l.length/\∀ (i:Nat) (a:α),l[i]? = some a->r[i]? = f a:=by
 intro l
 induction l with
 | nil=>intro r h;simp at h;subst h;exact ⟨rfl,λ i a h=>by simp at h⟩
 | cons a l ih=>
  intro r h
  rw [List.mapM_cons] at h
  simp only [Option.bind_eq_bind,Option.bind_eq_some_iff,Option.pure_def,JlD] at h
  obtain ⟨b,hb,r',hr',rfl⟩:=h
  obtain ⟨h1,h2⟩:=ih hr'
  refine ⟨by simp [h1],λ i x hx=>?_⟩
  cases i with
  | zero=>simp at hx;subst hx;simp [hb]
  | succ i=>simpa using h2 i x (by simpa using hx)
theorem QH {α:Type} {P:Program} {t e:TypeId} {enc:α->List D} {ok:α->Prop} {sz:Nat} (ht:P.underlying t=some (.slice e)) (hsz:P.cellsOf e=sz) (h1:Nat.ble 1 sz=true) (hl:∀ a,(enc a).length=sz) (he:Hb P e enc ok):Hb P t (eL enc) (λ l=>∀ a∈l,ok a):=by
 intro H en w base spare held fuel cs x h
 have h1:=JlI h1
 rcases DataW.trod_slice ht h with ⟨rfl,_⟩|⟨a,len,cap,elems,rest,n,_,rfl,_,_,hcap,_,hel,hget,_,_⟩
 ·exact ⟨[],λ a h=>by simp at h,Ri (.sl0 _ _)⟩
 ·rw [hsz] at hget
  have hex:∀ i,i<len->∃ y:α,ok y/\∃ ci,w.cells? base (a.add (i*sz)) sz=some ci/\CRd (λ b=>w.heap[b]?) (enc y) ci:=λ i hi=>by
   have hg:=hget i hi
   rw [Jls (show i<elems.length by omega)] at hg
   simp only [Option.bind_eq_some_iff] at hg
   obtain ⟨ci,hc,htr⟩:=hg
   obtain ⟨y,hy,hcr⟩:=he H en w base spare held n ci _ htr
   exact ⟨y,hy,ci,hc,hcr⟩
  obtain ⟨l,hll,hq⟩:=W7 len hex
  refine ⟨l,λ y hy=>?_,Ri ?_⟩
  ·obtain ⟨i,hi⟩:=List.mem_iff_getElem?.1 hy
   exact (hq i y hi).1
  ·rcases Nat.eq_zero_or_pos len with h0|hpos
   ·have:l=[]:=List.length_eq_zero_iff.1 (by omega)
    subst this;subst h0
    exact .sl0 _ _
   ·
    have hcell:∀ i y,l[i]? = some y->∀ j,j<sz->∃ v,w.cell? ((a.add (i*sz)).add j)=some v/\∀ d,(enc y)[j]? = some d->Bv (λ b=>w.heap[b]?) d v:=λ i y hy j hj=>by
     obtain ⟨_,ci,hc,hcr⟩:=hq i y hy
     unfold World.cells? at hc
     split at hc
     ·obtain ⟨g1,g2⟩:=W8 hc
      have:=g2 j j (by simp [hj])
      have hjc:j<ci.length:=by rw [g1];simpa using hj
      rw [Jls hjc] at this
      exact ⟨ci[j],this.symm,λ d hd=>hcr.2 j d _ hd (Jls hjc)⟩
     ·cases hc
    have h0:l[0]? = some l[0]:=Jls (by omega)
    obtain ⟨v0,hv0,_⟩:=hcell 0 _ h0 0 (by omega)
    have ha0:(a.add (0*sz)).add 0=a:=by simp [Addr.add]
    rw [ha0] at hv0
    obtain ⟨b,off,spot⟩:=a
    unfold World.cell? at hv0
    simp only at hv0
    split at hv0
    ·rename_i c ty fr hblk
     cases spot with
     | some s=>simp at hv0
     | none=>
      have hcell':∀ i y,l[i]? = some y->∀ j d,(enc y)[j]? = some d->∃ v,c[off+i*sz+j]? = some v/\Bv (λ b=>w.heap[b]?) d v:=λ i y hy j d hd=>by
       have hj:j<sz:=by rw [← hl y];exact Ag hd
       obtain ⟨v,hv,hr⟩:=hcell i y hy j hj
       rw [Ce,Ce,LF hblk] at hv
       exact ⟨v,hv,hr d hd⟩
      have hlen:(l.map enc).length=len:=by simp [hll]
      have:=Bv.sl (F:=λ b=>w.heap[b]?) (l.map enc) b off cap sz c ty fr (λ i j=>(c[off+i*sz+j]?).getD undef) hblk (λ e he=>by
        simp only [List.mem_map] at he
        obtain ⟨y,_,rfl⟩:=he
        exact hl y) (by omega) (λ i e hi j d hd=>by
        simp only [Jlw,Jlv] at hi
        obtain ⟨y,hy,rfl⟩:=hi
        obtain ⟨v,hv,_⟩:=hcell' i y hy j d hd
        simp only [hv,Option.getD_some]) (λ i e hi j d hd=>by
        simp only [Jlw,Jlv] at hi
        obtain ⟨y,hy,rfl⟩:=hi
        obtain ⟨v,hv,hr⟩:=hcell' i y hy j d hd
        simp only [hv,Option.getD_some]
        exact hr)
      rw [hlen] at this
      exact this
    ·cases hv0
theorem Ds {F:Nat->Option Obj} {l m:List D} {cs:List Value} {o n:Nat} (h:CRd F l ((cs.drop o).take n)) (hn:Nat.beq l.length n=true) (h':CRd F m (cs.drop (o+n))):CRd F (l++m) (cs.drop o):=by
 have hn:=Jlz hn
 have e:cs.drop o=(cs.drop o).take n++cs.drop (o+n):=by rw [← List.drop_drop,List.take_append_drop]
 rw [e]
 refine ⟨by simp only [List.length_append,h.1,h'.1],λ i y v hy hv=>?_⟩
 rcases Nat.lt_or_ge i l.length with hlt|hge
 ·rw [JlA hlt] at hy
  rw [JlA (by rw [← h.1];exact hlt)] at hv
  exact h.2 i y v hy hv
 ·rw [JlL hge] at hy
  rw [JlL (by rw [← h.1];exact hge),← h.1] at hv
  exact h'.2 _ y v hy hv
theorem Rj {F:Nat->Option Obj} {cs:List Value} {o:Nat} (h:cs.length<=o):CRd F [] (cs.drop o):=by
 rw [List.drop_eq_nil_of_le h];exact ⟨rfl,λ i y v hy=>by simp at hy⟩
theorem Yi {H:Type} {enc:TypeId×Value->H} {P:Program} {w:World} {base:Nat} {spare:Nat->Bool} {held:Bool} {fuel:Nat} {t e:TypeId} {n:Nat} {cs:List Value} {x:DataW H×List MemPlace} (ht:P.underlying t=some (.array n e)) (h:DataW.trod enc P w base spare held fuel t cs=some x) :
  ∃ m,cs.length=P.cellsOf t/\∀ i,i<n->∃ y,DataW.trod enc P w base spare held m e ((cs.drop (i*P.cellsOf e)).take (P.cellsOf e))=some y:=by
 cases fuel with
 | zero=>simp [DataW.trod] at h
 | succ m=>
  unfold DataW.trod at h
  rw [ht] at h
  split at h<;>simp_all
  obtain ⟨xs,hp,_⟩:=h.2
  refine ⟨m,λ i hi=>?_⟩
  obtain ⟨g1,g2⟩:=W8 hp
  have:=g2 i i (by simp [hi])
  have hlt:i<xs.length:=by rw [g1];simpa using hi
  rw [Jls hlt] at this
  exact ⟨_,_,this.symm⟩
end Go.AI
end
section
namespace Go.AI
open Go.ChangeShapes Go.WideShapes Go.ChangeAt Go.RowKit
variable {P:Program} {H:Type} {en:TypeId×Value->H} {W W':World} {base:Nat} {spare:Nat->Bool} {held:Bool} {t e:TypeId} {v:Value} {d:DataW H} {ps:List MemPlace} {α:Type} {enc:α->List D} {ok:α->Prop}
theorem Y5 {cs:Array Value} (hv:v=.agg cs) (hd:DataW.Trod en P W base spare held t v d ps) (hr:Hb P t enc ok):∃ a,ok a/\Ah (λ b=>W.heap[b]?) noR (.agg ((enc a).map .d)) v:=by
 subst hv
 obtain ⟨fuel,hf⟩:=hd
 obtain ⟨a,h1,h2,h3⟩:=hr H en W base spare held fuel _ _ hf
 refine ⟨a,h1,.agg _ _ (by simpa [Value.cells] using h2) λ i x u hx hu=>?_⟩
 simp only [Jlw,Jlv] at hx
 obtain ⟨y,hy,rfl⟩:=hx
 exact .d _ _ (h3 i y u hy (by simpa [Value.cells] using hu))
theorem Jfa {y:α->D} (hc:v.cells=#[v]) (hd:DataW.Trod en P W base spare held t v d ps) (hr:Hb P t enc ok) (he:∀ a,enc a=[y a]):∃ a,ok a/\Ah (λ b=>W.heap[b]?) noR (.d (y a)) v:=by
 obtain ⟨fuel,hf⟩:=hd
 obtain ⟨a,h1,h2,h3⟩:=hr H en W base spare held fuel _ _ hf
 refine ⟨a,h1,.d _ _ (h3 0 (y a) v (by rw [he];rfl) (by rw [hc];rfl))⟩
theorem Ji7 {F:Nat->Option Obj} {ρ:Nat->Option Loc}:CR F ρ [] []:=⟨rfl,λ i a v h=>by simp at h⟩
theorem Vu {F:Nat->Option Obj} {ρ:Nat->Option Loc} {a:AV} {v:Value} {l:List AV} {vs:List Value} (h:Ah F ρ a v) (h':CR F ρ l vs):CR F ρ (a::l) (v::vs):=by
 refine ⟨by simp [h'.1],λ i x u hx hu=>?_⟩
 cases i with
 | zero=>simp at hx hu;subst hx;subst hu;exact h
 | succ i=>exact h'.2 i x u (by simpa using hx) (by simpa using hu)
theorem fld {w:World} {fuel:Nat} {cs:List Value} {fs:Array Field} {xs:List (DataW H×List MemPlace)} (hg:∀ (i:Nat) (f:Field),fs[i]? = some f->DataW.trod en P w base spare held fuel f.type ((cs.drop f.offset).take (P.cellsOf f.type))=xs[i]?) (hxl:xs.length=fs.size) (i:Nat) {f:Field} (hf:fs[i]? = some f) (u o n:Nat) (hu:f.type=u) (ho:f.offset=o) (hn:P.cellsOf u=n) (hr:Hb P u enc ok) :
  ∃ a,ok a/\CRd (λ b=>w.heap[b]?) (enc a) ((cs.drop o).take n):=by
 have:=hg i f hf
 have hi:i<xs.length:=by rw [hxl];exact Ap hf
 rw [Jls hi,hu,ho,hn] at this
 exact hr H en w base spare held fuel _ _ this
theorem JkK {w:World} {fuel:Nat} {cs:List Value} {m:Nat} (hg:∀ i,i<m->∃ y,DataW.trod en P w base spare held fuel e ((cs.drop (i*P.cellsOf e)).take (P.cellsOf e))=some y) (i:Nat) (hi:Nat.ble (i+1) m=true) (o n:Nat) (hn:P.cellsOf e=n) (ho:i*n=o) (hr:Hb P e enc ok) :
  ∃ a,ok a/\CRd (λ b=>w.heap[b]?) (enc a) ((cs.drop o).take n):=by
 obtain ⟨y,hy⟩:=hg i (JlI hi)
 rw [hn,ho] at hy
 exact hr H en w base spare held fuel _ _ hy
theorem Jdp {f:FuncId} {args:List AV} {vs:Array Value} (hc:AD P f args (.d (.bool true))) (hcr:CR (λ b=>W.heap[b]?) noR args vs.toList):Calls P f vs W λ e W'=>e=.returned (.bool true)/\(∀ before:List MemPlace,W.keptBut W' (·∈before))/\∀ b,b<W.heap.size->W'.heap[b]? = W.heap[b]? := by
 refine (hc.2 (λ b=>W.heap[b]?) W vs hcr λ b o h=>h).mono λ e W' h=>?_
 obtain ⟨v,F',ρ,rfl,hS,hr,hmu⟩:=h
 have hv:v=.bool true:=by
  have:(BS true 0 (.d (.bool true))).1=.d (.bool true):=rfl
  rw [this] at hr
  exact hr.bool
 subst hv
 have hold:∀ b,b<W.heap.size->W'.heap[b]? = W.heap[b]? := λ b hb=>hS.old b (by omega)
 refine ⟨rfl,λ before=>World.keptBut_mono (λ p hp=>hp.elim) (?_:W.keptBut W' λ _=>False),hold⟩
 refine ⟨hmu.1,hmu.2.1,λ i hi=>?_⟩
 rw [hold i hi]
 cases hh:W.heap[i]? with
 | none=>rfl
 | some o=>cases o<;>first|exact ⟨rfl,rfl,rfl,λ _ _=>rfl⟩|exact .inr ⟨rfl,rfl⟩|rfl
theorem Jah {f:Func} {s:ChangeSpec} {apart fresh handsOn again:Bool} {args:Array Value} {ds gs:List (DataW H)} {before pa pv:List MemPlace}
  (hW:DataW.Whole en P f.params.toList s.vars apart W args.toList ds gs before)
  (hres:∀ (b:Nat) (sp:Nat->Bool) (hd:Bool),DataW.TrodAll en P W' b sp hd f.resultTypes.toList (v.resultList f.resultTypes.size) (s.fn H (ds++gs)).results [])
  (hargs:∀ sp:Nat->Bool,(∀ p∈before,sp p.block=true)->DataW.TrodAll en P W' 0 sp true f.params.toList args.toList (s.fn H (ds++gs)).args pa)
  (hvars:∀ sp:Nat->Bool,(∀ p∈before,sp p.block=true)->DataW.TrodVars en P W' sp s.vars (s.fn H (ds++gs)).vars pv)
  (hps:before=pa++pv) (hk:W.keptBut W' (·∈before)) (hold:∀ b,b<W.heap.size->W'.heap[b]? = W.heap[b]?)
  (hok:∀ (j:Nat) (t:TypeId) (r:Value),f.resultTypes[j]? = some t->(v.resultList f.resultTypes.size)[j]? = some r->Value.okWide P W' .any 0 t r) :
  s.post en P f apart fresh handsOn again W args v W':=by
 have hin:∀ p∈before,(λ b=>decide (b<W.heap.size)) p.block=true:=λ p hp=>by simpa using hW.lt p hp
 have hlt:=hW.lt
 refine ⟨ds,gs,before,[],pa,pv,hW,hres _ _ _,hargs _ hin,hvars _ hin,World.keptBut_mono (λ p hp=>⟨hp,?_⟩) hk,λ _=>?_⟩
 ·rw [hps,List.mem_append] at hp
  exact Or.inr hp
 ·obtain ⟨_,_,_,_,_,hz,hn⟩:=hW
  refine ⟨hok,_,_,([]++pa)++pv,⟨[]++pa,pv,trodAll_append (hargs _ (λ _ _=>rfl)) (hres _ _ _),hvars _ (λ _ _=>rfl),rfl,?_,?_⟩,?_⟩
  ·intro b off hp
   have hp:MemPlace.cell b off∈before:=by rw [hps];simpa using hp
   have:=hz b off hp
   simp only [World.frozen?,hold b (hlt _ hp)] at this ⊢
   exact this
  ·intro ha
   have:=hn ha
   rw [hps] at this
   simpa using this
  ·intro p hp _
   rw [hps]
   simpa using hp
theorem Jdq (hl:laidOutB P=true) (hr:P.readableRec t=true) (hrow:t<P.types.size) (h:DataW.Trod en P W 0 (λ _=>true) true t v d ps) (hb:∀ p∈ps,p.block<W.heap.size) {sp:Nat->Bool} (hs:∀ p∈ps,sp p.block=true) (hold:∀ b,b<W.heap.size->W'.heap[b]? = W.heap[b]?):DataW.Trod en P W' 0 sp true t v d ps:=by
 refine WideElems.Trod_stays hl hr hrow h (λ p hp=>?_) hs
 have:=hb p hp
 cases p with
 | cell b o=>exact World.cell?_of_block (w:=W) (hold b this)
 | map b=>exact hold b this
end Go.AI
end
section
namespace Go.AI
open Go.Proofs Go.ChangeShapes Go.WideShapes Go.ChangeAt Go.RowKit
def okI (k:IntKind) (n:Int):Prop:=(Lit.int k n).wf=true
theorem rd5:Hb Tryz.prog 5 eU8 (okI .u8):=Um Tryz.underlying5
theorem Ji8:Hb Tryz.prog 25 (eL eU8) (λ l=>∀ a∈l,okI .u8 a):=QH (sz:=1) Tryz.underlying25 (by kernel_rfl) rfl (λ _=>rfl) rd5
theorem Jlm:Hb Tryz.prog 69 (Jkl eU8) (λ x=>okI .u8 x.a0/\okI .u8 x.a1):=by
 intro H e w base spare held fuel cs x h
 obtain ⟨m,hcl,hg⟩:=Yi Tryz.underlying69 h
 have hcl:cs.length=2:=hcl.trans (by kernel_rfl)
 obtain ⟨a0,k0,c0⟩:=JkK hg 0 rfl 0 1 (by kernel_rfl) rfl rd5
 obtain ⟨a1,k1,c1⟩:=JkK hg 1 rfl 1 1 (by kernel_rfl) rfl rd5
 refine ⟨⟨a0,a1⟩,⟨k0,k1⟩,?_⟩
 have:=Ds c0 rfl (Ds c1 rfl (Rj (Nat.le_of_eq hcl)))
 exact this
def Ky (x:Dp):Prop:=(∀ a∈x.P,okI .u8 a)/\(∀ a∈x.C,okI .u8 a)/\okI .u8 x.L/\okI .u8 x.R/\(okI .u8 x.W.a0/\okI .u8 x.W.a1)
theorem Jln:Hb Tryz.prog 71 FG Ky:=by
 intro H e w base spare held fuel cs x h
 obtain ⟨xs,n,_,_,hcl,hxl,hg⟩:=DataW.trod_struct Tryz.underlying71 h
 have hcl:cs.length=6:=hcl.trans (by kernel_rfl)
 obtain ⟨a0,k0,c0⟩:=fld hg hxl 0 rfl 25 0 1 rfl rfl (by kernel_rfl) Ji8
 obtain ⟨a1,k1,c1⟩:=fld hg hxl 1 rfl 25 1 1 rfl rfl (by kernel_rfl) Ji8
 obtain ⟨a2,k2,c2⟩:=fld hg hxl 2 rfl 5 2 1 rfl rfl (by kernel_rfl) rd5
 obtain ⟨a3,k3,c3⟩:=fld hg hxl 3 rfl 5 3 1 rfl rfl (by kernel_rfl) rd5
 obtain ⟨a4,k4,c4⟩:=fld hg hxl 4 rfl 69 4 2 rfl rfl (by kernel_rfl) Jlm
 refine ⟨⟨a0,a1,a2,a3,a4⟩,⟨k0,k1,k2,k3,k4⟩,?_⟩
 have:=Ds c0 rfl (Ds c1 rfl (Ds c2 rfl (Ds c3 rfl (Ds c4 rfl (Rj (Nat.le_of_eq hcl))))))
 exact this
theorem Jlo:Hb Tryz.prog 22 (eL FG) (λ l=>∀ a∈l,Ky a):=QH (sz:=6) Tryz.underlying22 (by kernel_rfl) rfl (λ _=>rfl) Jln
def Yj (x:M9):Prop:=okI .u8 x.Base/\okI .u8 x.Drop/\(∀ a∈x.More,Ky a)
theorem Jlp:Hb Tryz.prog 24 Jkm Yj:=by
 intro H e w base spare held fuel cs x h
 obtain ⟨xs,n,_,_,hcl,hxl,hg⟩:=DataW.trod_struct Tryz.underlying24 h
 have hcl:cs.length=3:=hcl.trans (by kernel_rfl)
 obtain ⟨a0,k0,c0⟩:=fld hg hxl 0 rfl 5 0 1 rfl rfl (by kernel_rfl) rd5
 obtain ⟨a1,k1,c1⟩:=fld hg hxl 1 rfl 5 1 1 rfl rfl (by kernel_rfl) rd5
 obtain ⟨a2,k2,c2⟩:=fld hg hxl 2 rfl 22 2 1 rfl rfl (by kernel_rfl) Jlo
 refine ⟨⟨a0,a1,a2⟩,⟨k0,k1,k2⟩,?_⟩
 have:=Ds c0 rfl (Ds c1 rfl (Ds c2 rfl (Rj (Nat.le_of_eq hcl))))
 exact this
theorem rd3:Hb Tryz.prog 3 Ae (okI .i64):=Um Tryz.underlying3
theorem rd9:Hb Tryz.prog 9 eS (λ _=>True):=Vt Tryz.underlying9
def Un (x:B6):Prop:=okI .i64 x.At/\okI .i64 x.Cut/\True
theorem Jlq:Hb Tryz.prog 40 JbY Un:=by
 intro H e w base spare held fuel cs x h
 obtain ⟨xs,n,_,_,hcl,hxl,hg⟩:=DataW.trod_struct Tryz.underlying40 h
 have hcl:cs.length=3:=hcl.trans (by kernel_rfl)
 obtain ⟨a0,k0,c0⟩:=fld hg hxl 0 rfl 3 0 1 rfl rfl (by kernel_rfl) rd3
 obtain ⟨a1,k1,c1⟩:=fld hg hxl 1 rfl 3 1 1 rfl rfl (by kernel_rfl) rd3
 obtain ⟨a2,k2,c2⟩:=fld hg hxl 2 rfl 9 2 1 rfl rfl (by kernel_rfl) rd9
 refine ⟨⟨a0,a1,a2⟩,⟨k0,k1,k2⟩,?_⟩
 have:=Ds c0 rfl (Ds c1 rfl (Ds c2 rfl (Rj (Nat.le_of_eq hcl))))
 exact this
end Go.AI
end
section
namespace Go.AI
def Le {α:Type} (a b:Option α):Prop:=∀ z,a=some z->b=some z
theorem Le.refl {α:Type} (a:Option α):Le a a:=λ _ h=>h
theorem Le.bind {α β:Type} {a a':Option α} {f f':α->Option β} (h:Le a a') (hf:∀ x,Le (f x) (f' x)):Le (a.bind f) (a'.bind f'):=by
 intro z hz
 obtain ⟨x,h1,h2⟩:=bind_some hz
 rw [h x h1]
 exact hf x z h2
theorem Le.ite {α:Type} {c:Prop} [Decidable c] {a a' b b':Option α} (h:Le a a') (h':Le b b'):Le (if c then a else b) (if c then a' else b'):=by
 split
 ·exact h
 ·exact h'
theorem Le.whl {σ ρ:Type} {body body':σ->Option (σ⊕ρ)} (hb:∀ x,Le (body x) (body' x)):∀ {n m:Nat},n<=m->∀ x,Le (whl body n x) (whl body' m x):=by
 intro n
 induction n with
 | zero=>intro m _ x z hz;cases hz
 | succ n ih=>
  intro m hm x z hz
  cases m with
  | zero=>omega
  | succ m=>
   simp only [Go.AI.whl] at hz ⊢
   cases hx:body x with
   | none=>rw [hx] at hz;cases hz
   | some y=>
    rw [hb x y hx]
    rw [hx] at hz
    cases y with
    | inl y=>exact ih (by omega) y z hz
    | inr r=>exact hz
theorem Le.sum {α β γ:Type} {y:α⊕β} {f f':α->Option γ} {g g':β->Option γ} (hf:∀ a,Le (f a) (f' a)) (hg:∀ b,Le (g b) (g' b)):Le (match y with | .inl a=>f a | .inr b=>g b) (match y with | .inl a=>f' a | .inr b=>g' b):=by
 cases y with
 | inl a=>exact hf a
 | inr b=>exact hg b
def Ev {α:Type} (f:Nat->Option α) (z:α):Prop:=∃ n,∀ m,n<=m->f m=some z
theorem Ev.const {α:Type} {z:α}:Ev (λ _=>some z) z:=⟨0,λ _ _=>rfl⟩
theorem Ev.of {α:Type} {f:Nat->Option α} {z:α} (hm:∀ n m,n<=m->Le (f n) (f m)) {n:Nat} (h:f n=some z):Ev f z:=⟨n,λ m hnm=>hm n m hnm z h⟩
theorem Ev.all {α:Type} {f:Nat->Option α} {z:α} (h:∀ n,f n=some z):Ev f z:=⟨0,λ m _=>h m⟩
theorem Ev.bind {α β:Type} {f:Nat->Option α} {g:Nat->α->Option β} {x:α} {z:β} (h:Ev f x) (hg:Ev (λ n=>g n x) z):Ev (λ n=>(f n).bind (g n)) z:=by
 obtain ⟨n,hn⟩:=h
 obtain ⟨m,hm⟩:=hg
 refine ⟨max n m,λ k hk=>?_⟩
 show (f k).bind (g k)=_
 rw [hn k (by omega)]
 exact hm k (by omega)
theorem Ev.out {α:Type} {f:Nat->Option α} {z:α} (h:Ev f z):∃ n,f n=some z:=by
 obtain ⟨n,hn⟩:=h
 exact ⟨n,hn n (Nat.le_refl n)⟩
theorem Ev.congr {α:Type} {f g:Nat->Option α} {z:α} (h:Ev f z) (e:∀ n,g n=f n):Ev g z:=by
 obtain ⟨n,hn⟩:=h
 exact ⟨n,λ m hm=>by rw [e m];exact hn m hm⟩
theorem Ev.whl {σ ρ:Type} {body:Nat->σ->Option (σ⊕ρ)} {r:ρ} (I:Nat->σ->Prop) (h:∀ k x,I k x->(∃ y j,j<k/\I j y/\Ev (λ n=>body n x) (.inl y))\/Ev (λ n=>body n x) (.inr r)):∀ (k:Nat) (x:σ),I k x->Ev (λ n=>Go.AI.whl (body n) n x) r:=by
 have key:∀ (k:Nat) (x:σ),I k x->∃ N c,∀ n fuel,N<=n->c<=fuel->Go.AI.whl (body n) fuel x=some r:=by
  intro k
  induction k using Nat.strongRecOn with
  | _ k ih=>
   intro x hx
   rcases h k x hx with ⟨y,j,hj,hy,N1,h1⟩|⟨N1,h1⟩
   ·obtain ⟨N2,c,h2⟩:=ih j hj y hy
    refine ⟨max N1 N2,c+1,λ n fuel hn hf=>?_⟩
    cases fuel with
    | zero=>omega
    | succ fuel=>
     have e:=h1 n (by omega)
     simp only at e
     simp only [Go.AI.whl,e]
     exact h2 n fuel (by omega) (by omega)
   ·refine ⟨N1,1,λ n fuel hn hf=>?_⟩
    cases fuel with
    | zero=>omega
    | succ fuel=>
     have e:=h1 n hn
     simp only at e
     simp only [Go.AI.whl,e]
 intro k x hx
 obtain ⟨N,c,hh⟩:=key k x hx
 exact ⟨max N c,λ m hm=>hh m m (by omega) (by omega)⟩
end Go.AI
end
section
namespace Go.AI
theorem lr {α:Type} {x:Option α}:Le x x:=Le.refl x
theorem P4 {n m} (_:n<=m) (a b):Le (GK n a b) (GK m a b):=.ite (.bind lr λ _=>.bind lr λ _=>.bind lr λ _=>lr) lr
theorem TG {n m} (h:n<=m):Le (Ke n) (Ke m):=.bind (Le.whl (λ _=>P4 h _ _) h _) λ _=>lr
theorem Oc {n m} (_:n<=m) (a):Le (DM n a) (DM m a):=lr
theorem SV {n m} (h:n<=m) (a b):Le (Fv n a b) (Fv m a b):=.ite (.bind lr λ _=>.bind (Oc h _) λ _=>.ite lr lr) lr
theorem IZ {n m} (h:n<=m) (a):Le (FQ n a) (FQ m a):=.bind (Le.whl (λ _=>SV h _ _) h _) λ y2=>by rcases y2 with _|_;exact lr;exact lr
theorem Vv {n m} (_:n<=m):Le (JD n) (JD m):=lr
theorem Kz {n m} (_:n<=m) (a b):Le (Hx n a b) (Hx m a b):=.bind (Le.ite (lr) (lr)) λ _=>lr
theorem HI {n m} (_:n<=m) (a):Le (Es n a) (Es m a):=.ite lr (.ite lr (.ite lr (.ite lr lr)))
theorem Mo {n m} (h:n<=m) (a b c):Le (GY n a b c) (GY m a b c):=.ite lr (.bind lr λ _=>.bind (Le.ite (Kz h _ _) (lr)) λ _=>.ite lr (.ite (.ite lr lr) (.bind lr λ _=>.bind (HI h _) λ _=>.bind (Kz h _ _) λ _=>.ite lr (.bind lr λ _=>.bind (HI h _) λ _=>lr))))
theorem I0 {n m} (_:n<=m) (a b c d):Le (Cj n a b c d) (Cj m a b c d):=lr
theorem I1 {n m} (h:n<=m) (a b c d e f):Le (CK n a b c d e f) (CK m a b c d e f):=.bind lr λ _=>.bind lr λ _=>I0 h _ _ _ _
theorem Pe {n m} (h:n<=m) (a b c d e f):Le (Bw n a b c d e f) (Bw m a b c d e f):=.ite (.bind lr λ _=>.bind (Mo h _ _ _) λ _=>.ite (I0 h _ _ _ _) (.ite (.bind lr λ _=>.bind lr λ _=>I1 h _ _ _ _ _ _) (I1 h _ _ _ _ _ _))) lr
theorem Pf {n m} (h:n<=m) (a b c d e):Le (Ck n a b c d e) (Ck m a b c d e):=.ite (.bind (Le.whl (λ _=>Pe h _ _ _ _ _ _) h _) λ _=>lr) lr
theorem SW {n m} (h:n<=m) (a):Le (Fw n a) (Fw m a):=.bind (Vv h) λ _=>.bind (Le.whl (λ _=>Pf h _ _ _ _ _) h _) λ _=>lr
theorem NJ {n m} (h:n<=m) (a):Le (GB n a) (GB m a):=.bind (SW h _) λ _=>lr
theorem Mp {n m} (h:n<=m) (a b):Le (Ec n a b) (Ec m a b):=.bind (Le.ite (Kz h _ _) (lr)) λ _=>.bind (Le.ite (Kz h _ _) (lr)) λ _=>lr
theorem P5 {n m} (_:n<=m) (a b):Le (EP n a b) (EP m a b):=.bind (Le.ite (lr) (lr)) λ _=>lr
theorem JQ {n m} (h:n<=m) (a b):Le (DU n a b) (DU m a b):=.bind (P5 h _ _) λ _=>lr
theorem Od {n m} (_:n<=m) (a b c d):Le (B0 n a b c d) (B0 m a b c d):=.ite (.bind lr λ _=>lr) lr
theorem H8 {n m} (_:n<=m) (a b):Le (Cp n a b) (Cp m a b):=lr
theorem Oe {n m} (h:n<=m) (a b c d e f g):Le (B1 n a b c d e f g) (B1 m a b c d e f g):=.ite (.bind lr λ _=>.bind (Mo h _ _ _) λ _=>.ite (.bind lr λ _=>.bind lr λ _=>H8 h _ _) (H8 h _ _)) lr
theorem Of {n m} (h:n<=m) (a b c d e):Le (Cq n a b c d e) (Cq m a b c d e):=.ite (.bind lr λ _=>.bind (Mp h _ _) λ _=>.bind lr λ _=>.bind lr λ _=>.bind (Le.whl (λ _=>Oe h _ _ _ _ _ _ _) h _) λ _=>lr) lr
theorem Ll {n m} (h:n<=m) (a):Le (DD n a) (DD m a):=.bind (NJ h _) λ _=>.bind (Le.whl (λ _=>Od h _ _ _ _) h _) λ _=>.bind lr λ _=>.bind lr λ _=>.bind (Le.whl (λ _=>Of h _ _ _ _ _) h _) λ _=>lr
theorem KA {n m} (_:n<=m) (a b c d e f):Le (BF n a b c d e f) (BF m a b c d e f):=.ite (.bind lr λ _=>.bind lr λ _=>.bind lr λ _=>lr) lr
theorem Hq {n m} (h:n<=m) (a b):Le (B8 n a b) (B8 m a b):=.bind lr λ _=>.bind lr λ _=>.bind lr λ _=>.bind (Le.whl (λ _=>KA h _ _ _ _ _ _) h _) λ _=>lr
theorem Hc {n m} (_:n<=m) (a b c d e):Le (C3 n a b c d e) (C3 m a b c d e):=lr
theorem SX {n m} (_:n<=m) (a b c d e f):Le (Fx n a b c d e f) (Fx m a b c d e f):=.bind lr λ _=>.bind lr λ _=>.ite lr (.bind lr λ _=>.bind lr λ _=>.bind lr λ _=>lr)
theorem E4 {n m} (_:n<=m) (a b c d e):Le (Br n a b c d e) (Br m a b c d e):=.bind (Le.ite (lr) (lr)) λ _=>.bind (Le.ite (lr) (lr)) λ _=>.ite lr (.bind lr λ _=>.bind lr λ _=>lr)
theorem JR {n m} (_:n<=m) (a b):Le (C6 n a b) (C6 m a b):=lr
theorem P6 {n m} (h:n<=m) (a b c d):Le (CD n a b c d) (CD m a b c d):=.ite (.bind lr λ _=>.ite (JR h _ _) (JR h _ _)) lr
theorem JS {n m} (_:n<=m) (a b):Le (C7 n a b) (C7 m a b):=lr
theorem P7 {n m} (h:n<=m) (a b c d):Le (CE n a b c d) (CE m a b c d):=.ite (.bind lr λ _=>.ite (.bind lr λ _=>.bind lr λ _=>JS h _ _) (JS h _ _)) lr
theorem TH {n m} (h:n<=m) (a b):Le (HX n a b) (HX m a b):=.bind (Le.whl (λ _=>P6 h _ _ _ _) h _) λ _=>.bind (Le.whl (λ _=>P7 h _ _ _ _) h _) λ _=>lr
theorem EG {n m} (_:n<=m) (a b):Le (Bm n a b) (Bm m a b):=lr
theorem Ip {n m} (h:n<=m) (a b c d e f g i):Le (A9 n a b c d e f g i) (A9 m a b c d e f g i):=.ite (.bind lr λ _=>.bind lr λ _=>.bind (Le.ite (lr) (lr)) λ _=>.ite (.bind lr λ _=>.bind lr λ _=>EG h _ _) (EG h _ _)) lr
theorem EH {n m} (_:n<=m) (a b):Le (Bn n a b) (Bn m a b):=lr
theorem Iq {n m} (h:n<=m) (a b c d e f g i j k):Le (Ba n a b c d e f g i j k) (Ba m a b c d e f g i j k):=.ite (.bind lr λ _=>.bind (Le.ite (lr) (lr)) λ _=>.bind (Le.ite (JQ h _ _) (lr)) λ _=>.ite (.bind (SX h _ _ _ _ _ _) λ _=>.bind (E4 h _ _ _ _ _) λ _=>EH h _ _) (EH h _ _)) lr
theorem Ir {n m} (h:n<=m) (a b c d e f g i):Le (Bb n a b c d e f g i) (Bb m a b c d e f g i):=.ite (.bind lr λ _=>.bind (Le.whl (λ _=>Iq h _ _ _ _ _ _ _ _ _ _) h _) λ _=>lr) lr
theorem B7 {n m} (_:n<=m) (a b c):Le (A6 n a b c) (A6 m a b c):=lr
theorem Is {n m} (h:n<=m) (a b c d e f g i j k):Le (Bc n a b c d e f g i j k) (Bc m a b c d e f g i j k):=.ite (.bind lr λ _=>.bind (Le.ite (lr) (lr)) λ _=>.ite (.bind (E4 h _ _ _ _ _) λ _=>.ite (B7 h _ _ _) (B7 h _ _ _)) (.ite (B7 h _ _ _) (B7 h _ _ _))) lr
theorem Iu {n m} (h:n<=m) (a b c d e f g i):Le (Bd n a b c d e f g i) (Bd m a b c d e f g i):=.ite (.bind lr λ _=>.bind (Le.whl (λ _=>Is h _ _ _ _ _ _ _ _ _ _) h _) λ _=>lr) lr
theorem Iv {n m} (h:n<=m) (a b c d e f g):Le (Bo n a b c d e f g) (Bo m a b c d e f g):=.ite (.bind (Le.whl (λ _=>Iu h _ _ _ _ _ _ _ _) h _) λ _=>lr) lr
theorem FX {n m} (h:n<=m) (a b c d e f):Le (BG n a b c d e f) (BG m a b c d e f):=.bind lr λ _=>.bind (Le.whl (λ _=>Ip h _ _ _ _ _ _ _ _) h _) λ _=>.bind (Le.whl (λ _=>Ir h _ _ _ _ _ _ _ _) h _) λ _=>.bind (Le.whl (λ _=>Iv h _ _ _ _ _ _ _) h _) λ _=>.bind (TH h _ _) λ _=>lr
theorem Q2 {n m} (h:n<=m) (a b c d e f):Le (Hy n a b c d e f) (Hy m a b c d e f):=.ite (.bind (FX h _ _ _ _ _ _) λ _=>.bind lr λ _=>.bind lr λ _=>lr) lr
theorem KB {n m} (h:n<=m) (a b):Le (HO n a b) (HO m a b):=.bind (IZ h _) λ _=>.ite lr (.bind (Ll h _) λ _=>.bind (Hq h _ _) λ _=>.bind (Hc h _ _ _ _ _) λ _=>.bind (Le.whl (λ _=>Q2 h _ _ _ _ _ _) h _) λ _=>.bind lr λ _=>lr)
theorem Mq {n m} (_:n<=m) (a b c):Le (BV n a b c) (BV m a b c):=.ite (.bind lr λ _=>.ite lr lr) lr
theorem Pg {n m} (h:n<=m) (a b):Le (Dq n a b) (Dq m a b):=.ite lr (.bind (Le.whl (λ _=>Mq h _ _ _) h _) λ y30=>by rcases y30 with _|_;exact lr;exact lr)
theorem Jo {n m} (_:n<=m) (a b c d):Le (Bs n a b c d) (Bs m a b c d):=.ite (.bind lr λ _=>.bind lr λ _=>.ite lr lr) lr
theorem Lz {n m} (h:n<=m) (a b c):Le (B9 n a b c) (B9 m a b c):=.ite lr (.bind (Le.whl (λ _=>Jo h _ _ _ _) h _) λ y33=>by rcases y33 with _|_;exact lr;exact lr)
theorem H9 {n m} (_:n<=m) (a b c):Le (Cr n a b c) (Cr m a b c):=lr
theorem Og {n m} (h:n<=m) (a b c d e f g i j):Le (Cs n a b c d e f g i j) (Cs m a b c d e f g i j):=.ite (.bind lr λ _=>.bind lr λ _=>.bind (Lz h _ _ _) λ _=>.ite lr (.bind lr λ _=>.bind (Le.ite (lr) (lr)) λ _=>.ite (H9 h _ _ _) (.bind lr λ _=>.bind lr λ _=>.ite lr (H9 h _ _ _)))) lr
theorem Q3 {n m} (h:n<=m) (a b c d e f):Le (Et n a b c d e f) (Et m a b c d e f):=.bind (Le.whl (λ _=>Og h _ _ _ _ _ _ _ _ _) h _) λ y36=>by rcases y36 with _|_;exact lr;exact lr
theorem P8 {n m} (_:n<=m) (a b c d e f g i):Le (CF n a b c d e f g i) (CF m a b c d e f g i):=.ite (.bind lr λ _=>.bind lr λ _=>.bind lr λ _=>.bind lr λ _=>.bind lr λ _=>.bind lr λ _=>lr) lr
theorem JT {n m} (_:n<=m) (a b c d):Le (C8 n a b c d) (C8 m a b c d):=lr
theorem P9 {n m} (h:n<=m) (a b c d e f g i j):Le (C9 n a b c d e f g i j) (C9 m a b c d e f g i j):=.ite (.bind (FX h _ _ _ _ _ _) λ _=>.bind lr λ _=>.bind lr λ _=>.ite (JT h _ _ _ _) (.bind (Q3 h _ _ _ _ _ _) λ _=>.ite lr (JT h _ _ _ _))) lr
theorem JU {n m} (_:n<=m) (a b c):Le (Da n a b c) (Da m a b c):=lr
theorem Qa {n m} (h:n<=m) (a b c d e f g):Le (CG n a b c d e f g) (CG m a b c d e f g):=.ite (.bind lr λ _=>.bind lr λ _=>.bind lr λ _=>.bind lr λ _=>.bind lr λ _=>.bind lr λ _=>.bind lr λ _=>.ite (.bind lr λ _=>.bind lr λ _=>.bind lr λ _=>JU h _ _ _) (JU h _ _ _)) lr
theorem Jp {n m} (h:n<=m) (a b c):Le (BW n a b c) (BW m a b c):=.ite lr (.bind lr λ _=>.bind lr λ _=>.bind lr λ _=>.bind lr λ _=>.bind (IZ h _) λ _=>.ite lr (.bind (Ll h _) λ _=>.bind (Pg h _ _) λ _=>.ite lr (.bind (Hq h _ _) λ _=>.bind (Le.whl (λ _=>P8 h _ _ _ _ _ _ _ _) h _) λ _=>.bind (Hc h _ _ _ _ _) λ _=>.bind (Le.whl (λ _=>P9 h _ _ _ _ _ _ _ _ _) h _) λ _=>.bind (Le.whl (λ _=>Qa h _ _ _ _ _ _ _) h _) λ _=>.bind lr λ _=>lr)))
theorem Oh {n m} (h:n<=m) (a b):Le (Fb n a b) (Fb m a b):=.ite (.bind lr λ _=>.bind (HI h _) λ _=>.ite lr lr) lr
theorem Q4 {n m} (h:n<=m) (a):Le (Hz n a) (Hz m a):=.bind (Le.whl (λ _=>Oh h _ _) h _) λ y42=>by rcases y42 with _|_;exact lr;exact lr
theorem Vw {n m} (_:n<=m) (a):Le (MH n a) (MH m a):=lr
theorem Q5 {n m} (h:n<=m) (a b):Le (HA n a b) (HA m a b):=.ite (.bind lr λ _=>.bind (Vw h _) λ _=>.ite lr lr) lr
theorem Vx {n m} (h:n<=m) (a b):Le (MI n a b) (MI m a b):=.ite lr (.bind (IZ h _) λ _=>.ite lr (.ite lr (.ite lr (.bind (Q4 h _) λ _=>.ite (.bind (Le.ite (lr) (lr)) λ _=>lr) (.bind (Le.whl (λ _=>Q5 h _ _) h _) λ y45=>by rcases y45 with _|_;exact lr;exact lr)))))
theorem Q6 {n m} (_:n<=m) (a b c):Le (HB n a b c) (HB m a b c):=.ite (.bind lr λ _=>.bind lr λ _=>.ite lr lr) lr
theorem Vy {n m} (h:n<=m) (a b):Le (MJ n a b) (MJ m a b):=.ite lr (.bind (Le.whl (λ _=>Q6 h _ _ _) h _) λ y48=>by rcases y48 with _|_;exact lr;exact lr)
theorem Vz {n m} (h:n<=m) (a b):Le (MK n a b) (MK m a b):=.bind (Le.ite (Vy h _ _) (lr)) λ _=>lr
theorem Q7 {n m} (h:n<=m) (a b c d e):Le (HC n a b c d e) (HC m a b c d e):=.ite (.bind lr λ _=>.bind (Vz h _ _) λ _=>.ite lr lr) lr
theorem Q8 {n m} (h:n<=m) (a b):Le (HD n a b) (HD m a b):=.ite (.bind lr λ _=>.bind (Vx h _ _) λ _=>.ite lr (.bind lr λ _=>.bind (Le.whl (λ _=>Q7 h _ _ _ _ _) h _) λ y51=>by rcases y51 with _|_;exact lr;exact lr)) lr
theorem VA {n m} (h:n<=m) (a):Le (ML n a) (ML m a):=.ite lr (.bind (Le.ite (lr) (lr)) λ _=>.ite lr (.ite lr (.bind (Le.whl (λ _=>Q8 h _ _) h _) λ y54=>by rcases y54 with _|_;exact lr;exact lr)))
theorem VB {n m} (h:n<=m) (a):Le (MM n a) (MM m a):=.bind (VA h _) λ _=>lr
theorem I2 {n m} (_:n<=m) (a):Le (Ed n a) (Ed m a):=lr
theorem Qb {n m} (h:n<=m) (a b):Le (GL n a b) (GL m a b):=.bind (I2 h _) λ _=>.bind (Le.ite (I2 h _) (lr)) λ _=>lr
theorem JV {n m} (_:n<=m) (a):Le (EQ n a) (EQ m a):=lr
theorem GE {n m} (h:n<=m) (a b c d):Le (BQ n a b c d) (BQ m a b c d):=.ite (.bind lr λ _=>.bind (Qb h _ _) λ _=>.ite lr lr) lr
theorem HJ {n m} (h:n<=m) (a b):Le (Cd n a b) (Cd m a b):=.bind (Le.whl (λ _=>GE h _ _ _ _) h _) λ _=>.bind (Le.ite (lr) (lr)) λ _=>.bind (Le.ite (lr) (lr)) λ _=>.bind (Le.ite (JV h _) (lr)) λ _=>.bind (Le.ite (JV h _) (lr)) λ _=>lr
theorem Fk {n m} (h:n<=m) (a b):Le (CV n a b) (CV m a b):=.bind (HJ h _ _) λ _=>.ite lr (.bind lr λ _=>lr)
theorem Nh {n m} (_:n<=m) (a b c d e f):Le (Eu n a b c d e f) (Eu m a b c d e f):=.ite (.bind lr λ _=>lr) lr
theorem Hr {n m} (_:n<=m) (a b):Le (Dr n a b) (Dr m a b):=lr
theorem Ni {n m} (h:n<=m) (a b c d e f g):Le (Ew n a b c d e f g) (Ew m a b c d e f g):=.ite (.bind (Mo h _ _ _) λ _=>.ite (.bind lr λ _=>.bind lr λ _=>Hr h _ _) (Hr h _ _)) lr
theorem Nj {n m} (h:n<=m) (a b c d e):Le (Ey n a b c d e) (Ey m a b c d e):=.ite (.bind lr λ _=>.bind (Le.whl (λ _=>Ni h _ _ _ _ _ _ _) h _) λ _=>lr) lr
theorem Qc {n m} (h:n<=m) (a b):Le (GM n a b) (GM m a b):=.bind (NJ h _) λ _=>.bind lr λ _=>.bind (Le.whl (λ _=>Nh h _ _ _ _ _ _) h _) λ _=>.bind lr λ _=>.bind (Le.whl (λ _=>Nj h _ _ _ _ _) h _) λ _=>lr
theorem Gn {n m} (_:n<=m) (a b c d):Le (CL n a b c d) (CL m a b c d):=.bind lr λ _=>.bind lr λ _=>.bind lr λ _=>.ite (.bind lr λ _=>.bind lr λ _=>.bind lr λ _=>.bind lr λ _=>lr) lr
theorem D1 {n m} (h:n<=m) (a b c):Le (Ca n a b c) (Ca m a b c):=.bind lr λ _=>.bind lr λ _=>.bind (JQ h _ _) λ _=>lr
theorem Jdr {n m} (_:n<=m) (a):Le (Y4 n a) (Y4 m a):=lr
theorem KC {n m} (_:n<=m) (a b c):Le (De n a b c) (De m a b c):=.ite (.bind lr λ _=>.bind lr λ _=>.bind lr λ _=>lr) lr
theorem FY {n m} (_:n<=m) (a b c):Le (Cv n a b c) (Cv m a b c):=lr
theorem KD {n m} (h:n<=m) (a b c d e f g i):Le (Df n a b c d e f g i) (Df m a b c d e f g i):=.ite (.bind lr λ _=>.bind (D1 h _ _ _) λ _=>.ite (.bind (Gn h _ _ _ _) λ _=>FY h _ _ _) (FY h _ _ _)) lr
theorem FZ {n m} (h:n<=m) (a b c d e f g):Le (Cw n a b c d e f g) (Cw m a b c d e f g):=.bind lr λ _=>.bind (Le.whl (λ _=>KD h _ _ _ _ _ _ _ _) h _) λ _=>lr
theorem KE {n m} (h:n<=m) (a b c d e f):Le (Dg n a b c d e f) (Dg m a b c d e f):=.bind lr λ _=>.ite (.bind lr λ _=>.bind lr λ _=>.bind lr λ _=>.bind lr λ _=>.ite (FZ h _ _ _ _ _ _ _) (FZ h _ _ _ _ _ _ _)) lr
theorem F3 {n m} (h:n<=m) (a b c d e):Le (Cy n a b c d e) (Cy m a b c d e):=.bind (Le.whl (λ _=>KE h _ _ _ _ _ _) h _) λ _=>.bind lr λ _=>.bind (Jdr h _) λ _=>.bind lr λ _=>.bind lr λ _=>.bind lr λ _=>lr
theorem KF {n m} (h:n<=m) (a b c d):Le (Dh n a b c d) (Dh m a b c d):=.ite (.ite (.bind lr λ _=>.bind (HI h _) λ _=>F3 h _ _ _ _ _) (F3 h _ _ _ _ _)) lr
theorem Nk {n m} (h:n<=m) (a):Le (Ez n a) (Ez m a):=.bind (Le.whl (λ _=>KC h _ _ _) h _) λ _=>.bind (Gn h _ _ _ _) λ _=>.bind (Le.whl (λ _=>KF h _ _ _ _) h _) λ _=>lr
theorem Dc {n m} (_:n<=m) (a b c):Le (BI n a b c) (BI m a b c):=lr
theorem Jq {n m} (h:n<=m) (a b c d e f g i):Le (CP n a b c d e f g i) (CP m a b c d e f g i):=.ite (.bind lr λ _=>.bind (D1 h _ _ _) λ _=>.ite (Dc h _ _ _) (.bind lr λ _=>.bind (Fk h _ _) λ _=>.bind lr λ _=>.bind lr λ _=>.bind (Le.ite (lr) (lr)) λ _=>.bind (Le.ite (lr) (lr)) λ _=>.ite (.bind lr λ _=>.bind lr λ _=>.bind lr λ _=>Dc h _ _ _) (Dc h _ _ _))) lr
theorem Gp {n m} (h:n<=m) (a b c d e):Le (CM n a b c d e) (CM m a b c d e):=.bind lr λ _=>.bind lr λ _=>.bind lr λ _=>.bind (Le.whl (λ _=>Jq h _ _ _ _ _ _ _ _) h _) λ _=>lr
theorem F4 {n m} (_:n<=m) (a b):Le (Cz n a b) (Cz m a b):=lr
theorem KG {n m} (h:n<=m) (a b c d e f g):Le (Di n a b c d e f g) (Di m a b c d e f g):=.ite (.bind lr λ _=>.bind lr λ _=>.bind lr λ _=>.bind lr λ _=>.bind (Le.ite (lr) (lr)) λ _=>.bind (Le.ite (Mp h _ _) (lr)) λ _=>.ite (.bind lr λ _=>.bind lr λ _=>F4 h _ _) (F4 h _ _)) lr
theorem KH {n m} (h:n<=m) (a b c d):Le (Dj n a b c d) (Dj m a b c d):=.ite (.bind (Gp h _ _ _ _ _) λ _=>lr) lr
theorem KI {n m} (h:n<=m) (a b c d e):Le (Dk n a b c d e) (Dk m a b c d e):=.ite (.bind (Gp h _ _ _ _ _) λ _=>lr) lr
theorem KJ {n m} (h:n<=m) (a b):Le (Dl n a b) (Dl m a b):=.bind lr λ _=>.bind (Le.whl (λ _=>KI h _ _ _ _ _) h _) λ _=>.ite lr lr
theorem KK {n m} (h:n<=m) (a b):Le (Dm n a b) (Dm m a b):=.ite (.bind lr λ _=>.bind lr λ _=>.bind lr λ _=>.bind lr λ _=>.bind (Le.whl (λ _=>KG h _ _ _ _ _ _ _) h _) λ _=>.bind lr λ _=>.bind (Le.whl (λ _=>KH h _ _ _ _) h _) λ _=>.bind (Le.whl (λ _=>KJ h _ _) h _) λ _=>lr) lr
theorem Nl {n m} (h:n<=m) (a):Le (EA n a) (EA m a):=.bind (Le.whl (λ _=>KK h _ _) h _) λ _=>lr
theorem EI {n m} (_:n<=m) (a):Le (BX n a) (BX m a):=lr
theorem Iw {n m} (h:n<=m) (a b c d e f):Le (CB n a b c d e f) (CB m a b c d e f):=.ite (.bind lr λ _=>.bind (D1 h _ _ _) λ _=>.ite (EI h _) (.bind lr λ _=>.bind lr λ _=>.bind (Fk h _ _) λ _=>.ite (EI h _) (.bind lr λ _=>.bind lr λ _=>lr))) lr
theorem Ix {n m} (h:n<=m) (a b c d e):Le (CC n a b c d e) (CC m a b c d e):=.ite (.bind lr λ _=>.bind (Le.whl (λ _=>Iw h _ _ _ _ _ _) h _) λ y75=>by rcases y75 with _|_;exact lr;exact lr) lr
theorem KL {n m} (h:n<=m) (a):Le (Dn n a) (Dn m a):=.bind lr λ _=>.bind (Fk h _ _) λ _=>.bind (Le.whl (λ _=>Ix h _ _ _ _ _) h _) λ _=>lr
theorem VC {n m} (h:n<=m) (a b):Le (MN n a b) (MN m a b):=.bind (IZ h _) λ _=>.ite lr (.bind (VB h _) λ _=>.ite lr (.bind (Qc h _ _) λ _=>.bind (Nk h _) λ _=>.bind (Nl h _) λ _=>.bind lr λ _=>.bind lr λ _=>.ite lr (.bind (KL h _) λ _=>lr)))
theorem NK {n m} (h:n<=m) (a b):Le (HY n a b) (HY m a b):=.bind (VC h _ _) λ _=>.ite lr lr
theorem SY {n m} (_:n<=m) (a b c):Le (Fy n a b c) (Fy m a b c):=.ite (.bind lr λ _=>.bind lr λ _=>.ite lr lr) lr
theorem I3 {n m} (h:n<=m) (a b):Le (DN n a b) (DN m a b):=.ite lr (.bind (Le.whl (λ _=>SY h _ _ _) h _) λ y79=>by rcases y79 with _|_;exact lr;exact lr)
theorem Nm {n m} (_:n<=m) (a b c):Le (CH n a b c) (CH m a b c):=.ite (.bind lr λ _=>.bind lr λ _=>.ite lr lr) lr
theorem Qd {n m} (h:n<=m) (a b):Le (Db n a b) (Db m a b):=.ite lr (.bind (Le.whl (λ _=>Nm h _ _ _) h _) λ y82=>by rcases y82 with _|_;exact lr;exact lr)
theorem W9 {n m} (h:n<=m) (a b):Le (OQ n a b) (OQ m a b):=.bind (Qd h _ _) λ _=>.bind (Le.ite (I3 h _ _) (lr)) λ _=>lr
theorem TI {n m} (h:n<=m):Le (HZ n) (HZ m):=.bind (TG h) λ _=>.bind (KB h _ _) λ _=>.bind (KB h _ _) λ _=>.bind (Jp h _ _ _) λ _=>.bind (Jp h _ _ _) λ _=>.bind (Jp h _ _ _) λ _=>.bind (NK h _ _) λ _=>.bind (KB h _ _) λ _=>.bind (NK h _ _) λ _=>.bind (Le.ite (I3 h _ _) (lr)) λ _=>.bind (Le.ite (I3 h _ _) (lr)) λ _=>.bind (Le.ite (W9 h _ _) (lr)) λ _=>.bind (Le.ite (I3 h _ _) (lr)) λ _=>lr
end Go.AI
end
section
namespace Go.AI
theorem Yk (a:Int):IntKind.i64.wrap a=if decide (a % 18446744073709551616>=9223372036854775808)=true then a % 18446744073709551616-18446744073709551616 else a % 18446744073709551616:=rfl
theorem Uo (a:Int):IntKind.u8.wrap a=a % 256:=rfl
theorem SZ {a:Int} (h:-9223372036854775808<=a) (h':a<9223372036854775808):IntKind.i64.wrap a=a:=by
 rw [Yk]
 split
 ·rename_i hc;simp at hc;omega
 ·rename_i hc;simp at hc;omega
theorem Qe {a b:Int} (h:-9223372036854775808<=a+b) (h':a+b<9223372036854775808):AE .i64 a b=a+b:=SZ h h'
theorem Jds {a b:Int} (h:-9223372036854775808<=a-b) (h':a-b<9223372036854775808):Dw .i64 a b=a-b:=SZ h h'
theorem JkL {a:Int} (h:0<=a) (h':a<256):IntKind.u8.wrap a=a:=by
 rw [Uo];omega
theorem Xa (a:Int):0<=IntKind.u8.wrap a/\IntKind.u8.wrap a<256:=by
 rw [Uo];omega
def LA (m k:Int):Bool:=decide (0<=k)&&decide (k<8)&&(Ch .u8 (WM .u8 m k) 1==1)
theorem Jdt (n:Nat) (m k:Int):Hx n m k=some (LA m k):=by
 unfold Hx LA
 by_cases h:0<=k
 ·by_cases h':k<8<;>simp [h,h',BE]
 ·simp [h]
theorem Jdu (n:Nat) (m k:Int):Kf n m k=some (LA m k):=by
 unfold Kf LA
 by_cases h:0<=k
 ·by_cases h':k<8<;>simp [h,h',BE]
 ·simp [h]
def F5 (b:Int):Int:=
 if (decide (97<=Ch .u8 b 127)&&decide (Ch .u8 b 127<=122))=true then 1
 else if (decide (65<=Ch .u8 b 127)&&decide (Ch .u8 b 127<=90))=true then 2
 else if (decide (48<=Ch .u8 b 127)&&decide (Ch .u8 b 127<=57))=true then 3
 else if (Ch .u8 b 127==32)=true then 4 else 5
theorem Jdv (n:Nat) (b:Int):Es n b=some (F5 b):=by
 unfold Es F5
 split
 ·rfl
 ·split
  ·rfl
  ·split
   ·rfl
   ·split<;>rfl
theorem Jai (n:Nat) (b:Int):JG n b=some (F5 b):=by
 unfold JG F5
 simp only [ge_iff_le]
 split
 ·rfl
 ·split
  ·rfl
  ·split
   ·rfl
   ·split<;>rfl
theorem I4 (b:Int):1<=F5 b/\F5 b<=5:=by
 unfold F5
 split
 ·omega
 ·split
  ·omega
  ·split
   ·omega
   ·split<;>omega
def NL (s:List UInt8) (i:Nat):Int:=(s[i]?.getD 0).toNat
theorem Ph {s:List UInt8} {i:Nat} (h:i<s.length):NS s (i:Int)=some (NL s i):=by
 unfold NS NL
 rw [if_pos (by omega)]
 simp
def Y6:Ab:=⟨0,0,0⟩
def S0 (r:Ax) (s:Ab):Ab×Bool:=
 if ((r.From != s.Mode)||!LA r.Left s.Last)=true then (Y6,false)
 else if (r.Print==[])=true then
  (if (Ch .u8 s.Need r.Right==0)=true then (Y6,false) else (⟨r.To,s.Last,Ch .u8 s.Need r.Right⟩,true))
 else if (!LA s.Need (F5 (NL r.Print 0)))=true then (Y6,false)
 else (⟨r.To,F5 (NL r.Print (r.Print.length-1)),r.Right⟩,true)
def AH (t:Ad) (s:Ab) (k:Int):Ab×Bool:=
 if (decide (k<0)||decide (k>=(t.Rules.length:Int)))=true then (Y6,false) else S0 (t.Rules[k.toNat]?.getD default) s
def Jdw (t:Ad):Prop:=∀ r∈t.Rules,r.Print.length<9223372036854775808
theorem S1 {α:Type} [Inhabited α] {l:List α} {k:Int} (h:0<=k) (h':k<l.length):idx l k=some (l[k.toNat]?.getD default):=by
 unfold idx
 rw [if_pos h]
 have:k.toNat<l.length:=by omega
 simp [this]
theorem Rk {t:Ad} (ht:Jdw t) (n:Nat) (s:Ab) (k:Int):GY n t s k=some (AH t s k):=by
 unfold GY AH
 by_cases hk:(decide (k<0)||decide (k>=(t.Rules.length:Int)))=true
 ·rw [if_pos hk,if_pos hk];rfl
 ·rw [if_neg hk,if_neg hk]
  simp only [JlM,decide_eq_true_eq,not_or,Int.not_lt,ge_iff_le,Int.not_le] at hk
  rw [S1 hk.1 hk.2]
  have hmem:(t.Rules[k.toNat]?.getD default)∈t.Rules:=by
   have:k.toNat<t.Rules.length:=by omega
   simp [this]
  have hlen:=ht _ hmem
  generalize t.Rules[k.toNat]?.getD default=r at hlen ⊢
  simp only [Option.bind_some,Jdt,Jdv]
  unfold S0
  by_cases h1:r.From=s.Mode
  ·simp only [h1,bne_self_eq_false,Bool.not_false,if_true,Option.bind_some,Bool.false_or]
   by_cases h2:LA r.Left s.Last=true
   ·simp only [h2,Bool.not_true,JlF,if_false]
    by_cases h3:r.Print=[]
    ·simp only [h3,beq_self_eq_true,if_true]
     split<;>rfl
    ·have h3':(r.Print==[])=false:=by simpa using h3
     have hpos:0<r.Print.length:=List.length_pos_iff.2 h3
     simp only [h3',JlF,if_false]
     have e0:=Ph (s:=r.Print) (i:=0) hpos
     simp only [Int.natCast_zero] at e0
     rw [e0]
     have e1:Dw .i64 ((r.Print.length:Nat):Int) 1=((r.Print.length-1:Nat):Int):=by rw [Jds (by omega) (by omega)];omega
     rw [e1,Ph (by omega)]
     simp only [Option.bind_some]
     split<;>rfl
   ·have h2:LA r.Left s.Last=false:=by simpa using h2
    simp only [h2,Bool.not_false,if_true];rfl
  ·have h1':(r.From != s.Mode)=true:=by simpa using h1
   simp only [h1',Bool.not_true,JlF,if_false,Option.bind_some,Bool.true_or,if_true];rfl
end Go.AI
end
section
namespace Go.AI
theorem Ar {α:Type} {l:List α} {i:Nat} {x:α} (h:l[i]? = some x):i<l.length:=(List.getElem?_eq_some_iff.1 h).1
theorem Xb {t:Ad} (ht:Jdw t) (n:Nat) (s:Ab) (k:Int):LX n t s k=some (AH t s k):=by
 unfold LX AH
 by_cases hk:(decide (k<0)||decide (k>=(t.Rules.length:Int)))=true
 ·rw [if_pos hk,if_pos hk];rfl
 ·rw [if_neg hk,if_neg hk]
  simp only [JlM,decide_eq_true_eq,not_or,Int.not_lt,ge_iff_le,Int.not_le] at hk
  rw [S1 hk.1 hk.2]
  have hmem:(t.Rules[k.toNat]?.getD default)∈t.Rules:=by
   have:k.toNat<t.Rules.length:=by omega
   simp [this]
  have hlen:=ht _ hmem
  generalize t.Rules[k.toNat]?.getD default=r at hlen ⊢
  simp only [Option.bind_some,Jdu,Jai]
  unfold S0
  by_cases h1:r.From=s.Mode
  ·simp only [h1,bne_self_eq_false,Bool.not_false,if_true,Option.bind_some,Bool.false_or]
   by_cases h2:LA r.Left s.Last=true
   ·simp only [h2,Bool.not_true,JlF,if_false]
    by_cases h3:r.Print=[]
    ·simp only [h3,List.length_nil,Int.natCast_zero,beq_self_eq_true,Bool.true_and,if_true]
     split<;>rfl
    ·have h3':(r.Print==[])=false:=by simpa using h3
     have hpos:0<r.Print.length:=List.length_pos_iff.2 h3
     have h4:(((r.Print.length:Nat):Int)==0)=false:=by simp;omega
     simp only [h3',h4,Bool.false_and,JlF,if_false]
     have e0:=Ph (s:=r.Print) (i:=0) hpos
     simp only [Int.natCast_zero] at e0
     rw [e0]
     have e1:Dw .i64 ((r.Print.length:Nat):Int) 1=((r.Print.length-1:Nat):Int):=by rw [Jds (by omega) (by omega)];omega
     rw [e1,Ph (by omega)]
     simp only [Option.bind_some]
     split<;>rfl
   ·have h2:LA r.Left s.Last=false:=by simpa using h2
    simp only [h2,Bool.not_false,if_true];rfl
  ·have h1':(r.From != s.Mode)=true:=by simpa using h1
   simp only [h1',Bool.not_true,JlF,if_false,Option.bind_some,Bool.true_or,if_true];rfl
def Bx (t:Ad) (s:Ab):Bool:=decide (s.Mode<t.Modes)&&LA t.Accept s.Mode&&LA s.Need 0
theorem Yl (n:Nat) (t:Ad) (s:Ab):Ec n t s=some (Bx t s):=by
 unfold Ec Bx
 simp only [Jdt]
 by_cases h1:s.Mode<t.Modes
 ·cases h2:LA t.Accept s.Mode<;>simp [h1]
 ·simp [h1]
theorem Xc (n:Nat) (t:Ad) (s:Ab):IK n t s=some (Bx t s):=by
 unfold IK Bx
 simp only [Jdu]
 have h0:¬ (0<=s.Mode)->LA t.Accept s.Mode=false:=λ h=>by simp [LA,h]
 by_cases h:0<=s.Mode
 ·by_cases h1:s.Mode<t.Modes
  ·cases h2:LA t.Accept s.Mode<;>simp [h,h1]
  ·simp [h1]
 ·simp [h,h0 h]
theorem eqS (a b:Ab):((a.Mode==b.Mode)&&((a.Last==b.Last)&&((a.Need==b.Need)&&true)))=decide (a=b):=by
 cases a;cases b
 simp [Bool.decide_and]
 rfl
def Eh (l:List Ab) (s:Ab):Int:=match l.findIdx? (λ x=>decide (x=s)) with
 | some i=>i
 | none=>-1
theorem Xd {l:List Ab} {s:Ab} (hl:l.length<9223372036854775807):Ev (λ n=>MQ n l s) (Eh l s):=by
 have loop:Ev (λ n=>whl (λ x=>DF n l s x) n (0:Int)) (match l.findIdx? (λ x=>decide (x=s)) with|some i=>(.inr (i:Int):Unit⊕Int)|none=>.inl ()):=by
  refine Ev.whl (body:=λ n x=>DF n l s x) (λ k x=>∃ i:Nat,x=i/\i<=l.length/\k=l.length-i/\∀ j,j<i->∀ y,l[j]? = some y->y≠s) ?_ l.length 0 ⟨0,rfl,by omega,by omega,λ j hj=>by omega⟩
  rintro k x ⟨i,rfl,hi,rfl,hbefore⟩
  by_cases hlt:i<l.length
  ·have hg:l[i]? = some l[i]:=Jls hlt
   have hidx:idx l (i:Int)=some l[i]:=by
    unfold idx
    rw [if_pos (by omega)]
    simp
   by_cases he:l[i]=s
   ·right
    refine Ev.all λ n=>?_
    unfold DF
    rw [if_pos (by simpa using hlt),hidx]
    simp only [Option.bind_some,eqS,he,decide_true,if_true]
    have:l.findIdx? (λ x=>decide (x=s))=some i:=by
     rw [List.findIdx?_eq_some_iff_getElem]
     refine ⟨hlt,by simpa using he,λ j hj=>?_⟩
     have hj':j<l.length:=by omega
     have:=hbefore j hj l[j] (Jls hj')
     simpa using this
    rw [this]
   ·left
    refine ⟨((i+1:Nat):Int),l.length-(i+1),by omega,⟨i+1,rfl,by omega,rfl,λ j hj y hy=>?_⟩,Ev.all λ n=>?_⟩
    ·by_cases hji:j=i
     ·subst hji;rw [hg] at hy;cases hy;exact he
     ·exact hbefore j (by omega) y hy
    ·unfold DF
     rw [if_pos (by simpa using hlt),hidx]
     simp only [Option.bind_some,eqS,he,decide_false,JlF,if_false]
     rw [Qe (by omega) (by omega)]
     rfl
  ·right
   have hi':i=l.length:=by omega
   subst hi'
   refine Ev.all λ n=>?_
   unfold DF
   rw [if_neg (by simp)]
   have:l.findIdx? (λ x=>decide (x=s))=none:=by
    rw [List.findIdx?_eq_none_iff]
    intro y hy
    obtain ⟨j,hj⟩:=List.mem_iff_getElem?.1 hy
    have:=hbefore j (Ar hj) y hj
    simpa using this
   rw [this]
 refine (Ev.bind loop (g:=λ _ y=>match y with|Sum.inl _=>some (-1)|Sum.inr z=>some z) (z:=Eh l s) ?_).congr λ n=>?_
 ·unfold Eh
  cases l.findIdx? (λ x=>decide (x=s)) with
  | none=>exact Ev.const
  | some i=>exact Ev.const
 ·rfl
end Go.AI
end
