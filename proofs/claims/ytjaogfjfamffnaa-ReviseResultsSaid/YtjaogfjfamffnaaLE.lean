/- Part 5 of 7 of the proof: lemmas about the model and the program's functions, with no condition beyond those that each states. -/
import Derived.Test.YtjaogfjfamffnaaLD
import Derived.ChangeArms
import Derived.WalkKit
import Derived.ProofKit
import Derived.OpenShut
import Derived.Carry
import Derived.WideKeyArgs
import Derived.ChangeSame
section
namespace Go.AI
open Go.Proofs
set_option maxRecDepth 10000
variable {n:Nat}
section
variable (p0_:Ad) (p1_:BM) (p2_:IU) (s6:(List UInt8)) (r28:AU) (r30:((List (Nat×Nat))×(List Int)×(List Int))) (result_1:(List Int)) (x_37:(List Int)) (i_3:Int) (result_2:(List Int)) (x_38:(List Int)) (result_3:(List Int)) (x_39:(List Int)) (count_1:Int) (i_4:Int) (result_4:(List Int)) (x_40:(List Int)) (count_2:Int) (rest_1:Int) (shift_7:Int) (result_5:(List Int)) (x_41:(List Int)) (y40:((List Int)×(List Int)×Int×Int×Int)) (result_6:(List Int)) (x_42:(List Int)) (x_43:Int) (result_7:(List Int)) (x_44:(List Int)) (result_8:(List Int)) (x_45:(List Int))
def Jhf:St:=⟨(0,.agg [.d (.int .i64 p0_.Modes),.d (.int .u8 p0_.Accept),.d (.sl (p0_.Rules.map An))])::(1,.agg [.d (.str p1_.Text),.d (.sl (p1_.Costs.map (eL Ae))),.d (.sl (p1_.Least.map Ae))])::(2,.agg [.d (.int .i64 p2_.At),.d (.int .i64 p2_.Cut),.d (.str p2_.Put)])::[],[]⟩
def Jhg:St:=⟨(4,.ptr 0 0)::(5,.ptr 1 0)::(6,.ptr 2 0)::(10,.d (.str s6))::(13,.ptr 3 0)::(14,.ptr 4 0)::(15,.d (.int .i64 (Ar .i64 p2_.At ((p2_.Put.length:Nat):Int))))::(16,.d (.int .i64 i_3))::[],[some (.box (Ib p1_)),some (.box (KN p2_)),some (.box [.d (.str []),.osl 5 1 0 (List.length ([]:List (List Int))),.osl 6 1 0 (List.length ([]:List Int))]),some (.box [.d (.sl (r28.Arcs.map (eL AC))),.d (.sl (r28.Accepts.map eB))]),some (.box [.d (.str s6),.osl 7 1 0 (r30.1.length),.osl 8 1 0 (result_1.length)]),some (.arr 1 (List.map (eL Ae) ([]:List (List Int)))),some (.arr 1 (List.map Ae ([]:List Int))),some (.cut 9 1 r30.1),some (.arr 1 (result_1.map Ae)),some (.arr 1 (x_37.map Ae))]⟩
def Jhh:St:=⟨(4,.ptr 0 0)::(5,.ptr 1 0)::(6,.ptr 2 0)::(13,.ptr 3 0)::(14,.ptr 4 0)::(15,.d (.int .i64 (Ar .i64 p2_.At ((p2_.Put.length:Nat):Int))))::[],[some (.box (Ib p1_)),some (.box (KN p2_)),some (.box [.d (.str []),.osl 5 1 0 (List.length ([]:List (List Int))),.osl 6 1 0 (List.length ([]:List Int))]),some (.box [.d (.sl (r28.Arcs.map (eL AC))),.d (.sl (r28.Accepts.map eB))]),some (.box [.d (.str s6),.osl 7 1 0 (r30.1.length),.osl 8 1 0 (result_2.length)]),some (.arr 1 (List.map (eL Ae) ([]:List (List Int)))),some (.arr 1 (List.map Ae ([]:List Int))),some (.cut 9 1 r30.1),some (.arr 1 (result_2.map Ae)),some (.arr 1 (x_38.map Ae))]⟩
def Re:((List Int)×(List Int))->Ex->St->Prop:=xX 0 0 (λ (y:((List Int)×(List Int)))=>Jhh p1_ p2_ s6 r28 r30 y.1 y.2)
def Ly:((List Int)×(List Int)×Int)->St:=(λ (x:((List Int)×(List Int)×Int))=>Jhg p1_ p2_ s6 r28 r30 x.1 x.2.1 x.2.2)
def Jhi:St:=⟨(4,.ptr 0 0)::(5,.ptr 1 0)::(6,.ptr 2 0)::(14,.ptr 3 0)::(18,.clo 48 [.ptr 4 0,.ptr 5 0])::(19,.d (.int .i64 count_1))::(20,.d (.int .i64 0))::(21,.d (.int .i64 0))::(22,.d (.int .i64 i_4))::[],[some (.box (Ib p1_)),some (.box (KN p2_)),some (.box [.d (.str []),.osl 6 1 0 (List.length ([]:List (List Int))),.osl 7 1 0 (List.length ([]:List Int))]),some (.box [.d (.str s6),.osl 8 1 0 (r30.1.length),.osl 9 1 0 (result_3.length)]),some (.box [.d (.str s6),.osl 8 1 0 (r30.1.length),.osl 9 1 0 (result_3.length)]),some (.box [.ptr 10 0]),some (.arr 1 (List.map (eL Ae) ([]:List (List Int)))),some (.arr 1 (List.map Ae ([]:List Int))),some (.cut 11 1 r30.1),some (.arr 1 (result_3.map Ae)),some (.box [.d (.sl (r28.Arcs.map (eL AC))),.d (.sl (r28.Accepts.map eB))]),some (.arr 1 (x_39.map Ae))]⟩
def Jhj:St:=⟨(4,.ptr 0 0)::(6,.ptr 1 0)::(14,.ptr 2 0)::(19,.d (.int .i64 count_2))::(20,.d (.int .i64 rest_1))::(21,.d (.int .i64 shift_7))::[],[some (.box (Ib p1_)),some (.box [.d (.str []),.osl 3 1 0 (List.length ([]:List (List Int))),.osl 4 1 0 (List.length ([]:List Int))]),some (.box [.d (.str s6),.osl 5 1 0 (r30.1.length),.osl 6 1 0 (result_4.length)]),some (.arr 1 (List.map (eL Ae) ([]:List (List Int)))),some (.arr 1 (List.map Ae ([]:List Int))),some (.cut 7 1 r30.1),some (.arr 1 (result_4.map Ae)),some (.arr 1 (x_40.map Ae))]⟩
def Jhk:St:=⟨(4,.ptr 0 0)::(5,.ptr 1 0)::(6,.ptr 2 0)::(14,.ptr 3 0)::(18,.clo 48 [.ptr 4 0,.ptr 5 0])::(19,.d (.int .i64 (Ar .i64 count_1 1)))::(20,.d (.int .i64 0))::(21,.d (.int .i64 0))::(22,.d (.int .i64 i_4))::[],[some (.box (Ib p1_)),some (.box (KN p2_)),some (.box [.d (.str []),.osl 6 1 0 (List.length ([]:List (List Int))),.osl 7 1 0 (List.length ([]:List Int))]),some (.box [.d (.str s6),.osl 8 1 0 (r30.1.length),.osl 9 1 0 (result_5.length)]),some (.box [.d (.str s6),.osl 8 1 0 (r30.1.length),.osl 9 1 0 (result_5.length)]),some (.box [.ptr 10 0]),some (.arr 1 (List.map (eL Ae) ([]:List (List Int)))),some (.arr 1 (List.map Ae ([]:List Int))),some (.cut 11 1 r30.1),some (.arr 1 (result_5.map Ae)),some (.box [.d (.sl (r28.Arcs.map (eL AC))),.d (.sl (r28.Accepts.map eB))]),some (.arr 1 (x_41.map Ae))]⟩
def Rf:((List Int)×(List Int)×Int×Int×Int)->Ex->St->Prop:=xX 0 2 (λ (y:((List Int)×(List Int)×Int×Int×Int))=>Jhj p1_ s6 r30 y.1 y.2.1 y.2.2.1 y.2.2.2.1 y.2.2.2.2)
def Lz:((List Int)×(List Int)×Int×Int)->St:=(λ (x:((List Int)×(List Int)×Int×Int))=>Jhi p1_ p2_ s6 r28 r30 x.1 x.2.1 x.2.2.1 x.2.2.2)
def Jhl:St:=⟨(4,.ptr 0 0)::(6,.ptr 1 0)::(14,.ptr 2 0)::(19,.d (.int .i64 y40.2.2.1))::(21,.d (.int .i64 y40.2.2.2.2))::(163,.d (.int .i64 y40.2.2.2.1))::(164,.d (.int .i64 x_43))::[],[some (.box (Ib p1_)),some (.box [.d (.str []),.osl 3 1 0 (List.length ([]:List (List Int))),.osl 4 1 0 (List.length ([]:List Int))]),some (.box [.d (.str s6),.osl 5 1 0 (r30.1.length),.osl 6 1 0 (result_6.length)]),some (.arr 1 (List.map (eL Ae) ([]:List (List Int)))),some (.arr 1 (List.map Ae ([]:List Int))),some (.cut 7 1 r30.1),some (.arr 1 (result_6.map Ae)),some (.arr 1 (x_42.map Ae))]⟩
def Jhm:St:=⟨(6,.ptr 0 0)::(14,.ptr 1 0)::(19,.d (.int .i64 y40.2.2.1))::[],[some (.box [.d (.str []),.osl 2 1 0 (List.length ([]:List (List Int))),.osl 3 1 0 (List.length ([]:List Int))]),some (.box [.d (.str s6),.osl 4 1 0 (r30.1.length),.osl 5 1 0 (result_7.length)]),some (.arr 1 (List.map (eL Ae) ([]:List (List Int)))),some (.arr 1 (List.map Ae ([]:List Int))),some (.cut 6 1 r30.1),some (.arr 1 (result_7.map Ae)),some (.arr 1 (x_44.map Ae))]⟩
def Jhn:St:=⟨(4,.ptr 0 0)::(6,.ptr 1 0)::(14,.ptr 2 0)::(19,.d (.int .i64 y40.2.2.1))::(21,.d (.int .i64 y40.2.2.2.2))::(163,.d (.int .i64 y40.2.2.2.1))::(164,.d (.int .i64 x_43))::[],[some (.box (Ib p1_)),some (.box [.d (.str []),.osl 3 1 0 (List.length ([]:List (List Int))),.osl 4 1 0 (List.length ([]:List Int))]),some (.box [.d (.str s6),.osl 5 1 0 (r30.1.length),.osl 6 1 0 (result_8.length)]),some (.arr 1 (List.map (eL Ae) ([]:List (List Int)))),some (.arr 1 (List.map Ae ([]:List Int))),some (.cut 7 1 r30.1),some (.arr 1 (result_8.map Ae)),some (.arr 1 (x_45.map Ae))]⟩
def Rg:((List Int)×(List Int))->Ex->St->Prop:=xX 0 4 (λ (y:((List Int)×(List Int)))=>Jhm s6 r30 y40 y.1 y.2)
def LA:((List Int)×(List Int)×Int)->St:=(λ (x:((List Int)×(List Int)×Int))=>Jhl p1_ s6 r30 y40 x.1 x.2.1 x.2.2)
variable {p0_ p1_ p2_ s6 r28 r30 result_1 x_37 i_3 result_2 x_38 result_3 x_39 count_1 i_4 result_4 x_40 count_2 rest_1 shift_7 result_5 x_41 y40 result_6 x_42 x_43 result_7 x_44 result_8 x_45}
theorem P7 (x:((List Int)×(List Int)×Int)) (z:(((List Int)×(List Int)×Int)⊕((List Int)×(List Int)))) (H:G1 n p1_ p2_ s6 r28 r30 x.1 x.2.1 x.2.2=some z):WP (cxk 204 0) (Ax Try.f17) [1,0,1,1,1,1,1,1,1,1,0,1,0,0] (Av 0 (Ly p1_ p2_ s6 r28 r30) (Re p1_ p2_ s6 r28 r30) z) (Ly p1_ p2_ s6 r28 r30 x):=by
 obtain ⟨result_1,x_37,i_3⟩:=x
 refine sq (sr (ck 4 (en (cn H (λ H=>?_) (λ H=>?_)))))
 ·exact sk (qz (sq (bk 1 (sr (ck 9 (en (sq (rx 11 (OS (xs:=r30.1) 7 9 1 (by kernel_rfl)) (ck 3 (bx H λ x57 h146 H=>sp (As 7 1 h146) (sp (PV (t:=ty 32) 7 9 1 h146) (ck 3 (bx H λ x58 h147 H=>sp (Ao (eL Ae) h147) (ck 1 (mx 10 (bx H λ l22 h148 H=>xpP (xok _ _) Ae 9 1 x57.1 x57.2 h148 JjL (λ _=>rfl) (ax (qz (rg (Nz (xs:=r30.1) 7 9 1 (by kernel_rfl)) (ck 6 (bx H λ x59 h149 H=>sp (Ao Ae h149) (ck 1 (bx H λ x60 h150 H=>sp (As 8 1 h150) (bx H λ l23 h151 H=>stA Ae 8 0 (ty 3) h150 h151 (ae (qN (qz (rg (tr (sn 122 8 1 (A5 h151)) (snc 4 2 8 1 (A5 h151))) (ck 3 (ae (by cases H;exact og (sg [4,5,6,10,13,14,15,16]))))))))))))))))))))))))))))))))
 ·exact ex 0 (qx (by cases H;exact xo rfl (sg [4,5,6,13,14,15])))
theorem P8 (x:((List Int)×(List Int)×Int×Int)) (z:(((List Int)×(List Int)×Int×Int)⊕((List Int)×(List Int)×Int×Int×Int))) (H:G2 n p1_ p2_ s6 r28 r30 x.1 x.2.1 x.2.2.1 x.2.2.2=some z):WP (cxk 204 0) (Ax Try.f17) [1,0,1,1,1,1,1,1,1,1,1,1,1,1,0,1,0,0] (Av 0 (Lz p1_ p2_ s6 r28 r30) (Rf p1_ s6 r30) z) (Lz p1_ p2_ s6 r28 r30 x):=by
 obtain ⟨result_3,x_39,count_1,i_4⟩:=x
 refine sq (sr (ck 2 (en (cn H (λ H=>?_) (λ H=>?_)))))
 ·refine sk (qz (sj (λ (x:((List Int)×(List Int)))=>Jhk p1_ p2_ s6 r28 r30 count_1 i_4 x.1 x.2) (λ (x:((List Int)×(List Int)))=>EW n count_1 i_4 x.1 x.2) z ?_ (λ hFRv_Change_J1=>?_)))
  ·rintro ⟨result_5,x_41⟩ H
   exact rz (ck 3 (ae (by cases H;exact og (sg [4,5,6,14,18,19,20,21,22]))))
  refine bk 3 (sq (rx 5 (.refl _) (ck 5 (bx H λ r32 h154 H=>xs (xok _ _) (g:=true) rfl (D6) [4,5,8,9,10,11] (F9 h154) rfl (bx H λ x61 h155 H=>sp (As 9 1 h155) (mx 7 (bx H λ l24 h156 H=>stA Ae 9 0 (ty 3) h155 h156 (ax (qz (sq (rg (tr (tr (sn 140 9 1 (A5 h156)) (snc 3 2 9 1 (A5 h156))) (snc 4 2 9 1 (A5 h156))) (ck 3 (en (sq (sr (ck 5 (en (cn H (λ H=>?_) (λ H=>?_)))))))))))))))))))
  ·exact ex 3 (qx (qH (qs (sg [4,5,6,14,18,19,20,21,22]) (hFRv_Change_J1 (l24,r32.1) H))))
  ·refine sk (qz (sr (ck 3 (bx H λ r33 h157 H=>lt [8,9,11] (Rc h157) (ck 5 (en (sr (ck 1 (en (cn H (λ H=>?_) (λ H=>?_)))))))))))
   ·exact sr (ck 4 (en (ex 2 (qX rfl (qx (by cases H;exact xo rfl (sg [4,6,14,19,20,21])))))))
   ·exact sk (qN (qs (sg [4,5,6,14,18,19,20,21,22]) (hFRv_Change_J1 (l24,r32.1) H)))
 ·exact ex 2 (qx (by cases H;exact xo rfl (sg [4,6,14,19,20,21])))
theorem P9 (x:((List Int)×(List Int)×Int)) (z:(((List Int)×(List Int)×Int)⊕((List Int)×(List Int)))) (H:G3 n p1_ s6 r30 y40 x.1 x.2.1 x.2.2=some z):WP (cxk 204 0) (Ax Try.f17) [1,0,1,1,1,1,1,1,1,1,1,1,1,1,1,0,1,0,0] (Av 0 (LA p1_ s6 r30 y40) (Rg s6 r30 y40) z) (LA p1_ s6 r30 y40 x):=by
 obtain ⟨result_6,x_42,x_43⟩:=x
 refine sr (ck 1 (en (sq (cn H (λ H=>?_) (λ H=>?_)))))
 ·refine sk (qz (sj (λ (x:((List Int)×(List Int)))=>Jhn p1_ s6 r30 y40 x_43 x.1 x.2) (λ (x:((List Int)×(List Int)))=>EX n x_43 x.1 x.2) z ?_ (λ hFRv_Change_J2=>?_)))
  ·rintro ⟨result_8,x_45⟩ H
   exact rz (ck 2 (ae (by cases H;exact og (sg [4,6,14,19,21,163,164]))))
  refine bk 5 (sr (ck 2 (en (sq (rx 11 (OS (xs:=r30.1) 5 7 1 (by kernel_rfl)) (ck 3 (bx H λ x62 h159 H=>sp (As 5 1 h159) (sp (PV (t:=ty 32) 5 7 1 h159) (ck 3 (bx H λ x63 h160 H=>sp (Ao (eL Ae) h160) (ck 1 (mx 10 (bx H λ l25 h161 H=>xpP (xok _ _) Ae 7 1 x62.1 x62.2 h161 JjL (λ _=>rfl) (ax (qz (sq (rg (Nz (xs:=r30.1) 5 7 1 (by kernel_rfl)) (ck 6 (bx H λ x64 h162 H=>sp (Ao Ae h162) (ck 1 (bx H λ x65 h163 H=>sp (As 6 1 h163) (bx H λ l26 h164 H=>stA Ae 6 0 (ty 3) h163 h164 (en (sq (rg (tr (sn 179 6 1 (A5 h164)) (snc 2 2 6 1 (A5 h164))) (ck 3 (bx H λ x66 h165 H=>sp (Ao Ae h165) (ck 2 (en (cn H (λ H=>?_) (λ H=>?_)))))))))))))))))))))))))))))))
  ·exact rz (ck 3 (bx H λ x67 h166 H=>sp (As 6 1 h166) (sp (Ct Ae 6 0 (ty 3) h166) (ck 2 (bx H λ x68 h167 H=>sp (As 6 1 h167) (bx H λ l27 h168 H=>stA Ae 6 0 (ty 3) h167 h168 (ae (qN (qs (tr (tr (tr (sn 179 6 1 (A5 h168)) (sn 194 6 1 (A5 h168))) (snc 2 2 6 1 (A5 h168))) (sg [4,6,14,19,21,163,164])) (hFRv_Change_J2 (l27,l25) H))))))))))
  ·exact sk (qN (qs (sg [4,6,14,19,21,163,164]) (hFRv_Change_J2 (l26,l25) H)))
 ·exact ex 4 (qx (by cases H;exact xo rfl (sg [6,14,19])))
theorem JA {z} (H:GL n p0_ p1_ p2_=some z):AM Try.prog 17 [.agg (Ay p0_),.agg (Ib p1_),.agg (KN p2_)] (.tup [.agg [.d (.str z.1.Text),.d (.sl (z.1.Costs.map (eL Ae))),.own 1 (z.1.Least.map Ae)],.d (.int .i64 z.2.1),.d (.int .i64 z.2.2)]):=by
 refine fO 204 (Jhf p0_ p1_ p2_) Try.func17 (sr (ck 6 (en (sc (sr (ck 4 (en (sq (sr (ck 5 (gc 2 (!(decide (p2_.At<0))) (pO (ck 2 (gc 1 (!((decide (p2_.At<0))||(decide (p2_.Cut<0)))) (ck 1 (gc 1 (!((decide (p2_.At<0))||(decide (p2_.Cut<0)))) (pO (ck 2 (gc 1 (!(((decide (p2_.At<0))||(decide (p2_.Cut<0)))||(decide (p2_.At>((p1_.Text.length:Nat):Int))))) (ck 2 (gc 3 (!(((decide (p2_.At<0))||(decide (p2_.Cut<0)))||(decide (p2_.At>((p1_.Text.length:Nat):Int))))) (pO (en (cn H (λ H=>?_) (λ H=>?_)))))))))))))))))))))))))
 ·exact sr (ck 4 (en (re (qr (by cases H;exact pr (rT (vs:=[.agg [.d (.str []),.d (.nil),.d (.nil)],.d (.int .i64 0),.d (.int .i64 1)]) [] (t1 (a1 (c1 vd (c1 vn (c1 vz (c0))))) (t1 (ad vd) (t1 (ad vd) (t0))))))))))
 ·refine sk (qz (sr (ck 4 (bx H λ s3 h138 H=>sp (KH h138) (ck 2 (bx H λ s4 h139 H=>sp (Vg h139) (ck 7 (bx H λ s5 h140 H=>sp (KH h140) (bx H λ s6 h141 H=>sp (Vg h141) (ck 1 (en (sq (sr (ck 1 (bx H λ r27 h142 H=>ca true (I2 h142) (ck 5 (en (sr (ck 2 (en (cn H (λ H=>?_) (λ H=>?_))))))))))))))))))))))
  ·exact sr (ck 5 (en (re (qr (by cases H;exact pr (rT (vs:=[.agg [.d (.str []),.d (.nil),.d (.nil)],.d (.int .i64 0),.d (.int .i64 r27.2)]) [] (t1 (a1 (c1 vd (c1 vn (c1 vz (c0))))) (t1 (ad vd) (t1 (ad vd) (t0))))))))))
  ·refine sk (qz (sr (ck 1 (bx H λ r28 h143 H=>lt [] (Lv h143) (tb (f:=Ds (CD [] 4 0)) [some (.box (Ay p0_)),some (.box (Ib p1_)),some (.box (KN p2_)),some (.box [.d (.str []),.d (.nil),.d (.nil)]),some (.box [.osl 5 1 0 (r28.Arcs.length),.osl 6 1 0 (r28.Accepts.length)]),some (.narr 1 (r28.Arcs.map (nL 3 AC))),some (.arr 1 (r28.Accepts.map eB))] (po1 (po1 (po1 (po1 (po1 (pn1 (nL 3 AC) r28.Arcs (po1 (Pl.z)))))))) (ck 1 (en (sq (sr (ck 2 (bx H λ r29 h144 H=>ltP [4,5,6] (O5 h144) (po1 (pn1 (nL 3 AC) r28.Arcs (po1 (Pl.z)))) (tb (f:=Ds (CD [4,5,6] 7 3)) [some (.box (Ay p0_)),some (.box (Ib p1_)),some (.box (KN p2_)),some (.box [.d (.str []),.d (.nil),.d (.nil)]),some (.box [.osl 5 1 0 (r28.Arcs.length),.osl 6 1 0 (r28.Accepts.length)]),some (.narr 1 (r28.Arcs.map (nL 3 AC))),some (.arr 1 (r28.Accepts.map eB))] (po1 (po1 (po1 (po1 (po1 (pn1 (nL 3 AC) r28.Arcs (po1 (Pl.z)))))))) (ck 1 (en (cn H (λ H=>?_) (λ H=>?_))))))))))))))))
   ·exact sr (ck 4 (en (re (qr (by cases H;exact pr (rT (vs:=[.agg [.d (.str []),.d (.nil),.d (.nil)],.d (.int .i64 0),.d (.int .i64 1)]) [] (t1 (a1 (c1 vd (c1 vn (c1 vz (c0))))) (t1 (ad vd) (t1 (ad vd) (t0))))))))))
   ·exact sk (qz (sq (rg (tr (OQ (encN:=(nL 3 AC)) (encD:=(eL AC)) (xss:=r28.Arcs) (sz:=1) 4 0 5 (by kernel_rfl) (by kernel_rfl) (λ _=>rfl) (λ _=>rfl)) (fzc (enc:=eB) (xs:=r28.Accepts) 4 1 6 1)) (ck 2 (bx H λ r30 h145 H=>lt [4] (Hz h145) (ck 2 (en (sr (ck 7 (en (sq (sr (ck 2 (en (bk 0 (bx H λ y39 h152 H=>lX P7 h152 (tr (tr (Bt 3 1 1 (by kernel_rfl)) (Bt 3 2 1 (by kernel_rfl))) (sg [4,5,6,10,13,14,15,16])) rfl λ s hE32=>qH (qs (hE32) (sr (ck 2 (bx H λ r31 h153 H=>lt [3,7,8,9] (Hk h153) (ck 1 (en (sr (ck 3 (en (sq (lbl (qz (sq (sr (ck 3 (en (bk 2 (bx H λ y40 h158 H=>lX P8 h158 (sg [4,5,6,14,18,19,20,21,22]) rfl λ s hE33=>qH (qs (hE33) (sq (sr (ck 2 (en (bk 4 (bx H λ y41 h169 H=>lX P9 h169 (sg [4,6,14,19,21,163,164]) rfl λ s hE34=>qH (qs (hE34) (sr (ck 5 (ae (bx H λ _ h170 H=>qs (tr (tr (OS (xs:=r30.1) 4 6 1 (by kernel_rfl)) (WU (enc:=Ae) (ys:=y41.2) (xs:=r30.1) 6 4 1 h170 (by kernel_rfl) (by kernel_rfl))) (Uv (sz:=1) (encN:=JeS Ae) (encD:=(eL Ae)) (xss:=SN y41.2 r30.1) 0 1 4 WW (by kernel_rfl) (by kernel_rfl) (λ _=>rfl) (λ _=>rfl))) (re (by cases H;exact pr (rT (vs:=[.agg [.d (.str s6),.d (.sl (List.map (eL Ae) (SN y41.2 r30.1))),.osl 5 1 0 (y41.1.length)],.d (.int .i64 y40.2.2.1),.d (.int .i64 0)]) [5] (t1 (a1 (c1 vd (c1 vd (c1 vo (c0))))) (t1 (ad vd) (t1 (ad vd) (t0)))))))))))))))))))))))))))))))))))))))))))))))))))))
end
section
variable (p0_:(List UInt8)) (x_46:Int)
def Jho:St:=⟨(0,.d (.str p0_))::[],[]⟩
def Jhp:St:=⟨(0,.d (.str p0_))::(5,.d (.int .i64 ((p0_.length:Nat):Int)))::(6,.d (.int .i64 x_46))::[],[]⟩
def Jhq:St:=⟨[],[]⟩
def O7:(Unit⊕Bool)->Ex->St->Prop:=xS (xX 0 0 (λ (_:Unit)=>Jhq)) (xR ty Try.f84 (λ (y:Bool)=>.d (.bool y)))
def I7:Int->St:=(λ (x:Int)=>Jhp p0_ x)
variable {p0_ x_46}
theorem Id (x:Int) (z:(Int⊕(Unit⊕Bool))) (H:C4 n p0_ x=some z):WP (cxk 15 0) (Ax Try.f84) [1,0,1,0,0] (Av 0 (I7 p0_) (O7) z) (I7 p0_ x):=by
 revert H
 generalize x=x_46
 intro H
 refine sr (ck 1 (en (sq (cn H (λ H=>?_) (λ H=>?_)))))
 ·refine sk (qz (sq (bk 1 (sr (ck 2 (en (sr (ck 2 (bx H λ b4 h171 H=>sp (GX h171) (bx H λ r34 h172 H=>ca false (HK h172) (ck 1 (en (cn H (λ H=>?_) (λ H=>?_))))))))))))))
  ·exact sr (ck 1 (en (re (qR (qr (by cases H;exact ro rfl rd))))))
  ·exact sk (qN (qz (rz (ck 2 (ae (by cases H;exact og (sg [0,5,6])))))))
 ·exact ex 0 (qx (by cases H;exact xo rfl (sg [])))
theorem Rh {z} (H:Es n p0_=some z):AM Try.prog 84 [.d (.str p0_)] (.d (.bool z)):=by
 refine fO 15 (Jho p0_) Try.func84 (sr (ck 1 (en (sq (sr (ck 3 (en (bk 0 (bx H λ y42 h173 H=>?_)))))))))
 rcases y42 with y43|y44
 ·exact lX Id h173 (sg [0,5,6]) rfl λ s hE35=>qH (qs (hE35) (sr (ck 1 (en (re (by cases H;exact pr rd))))))
 ·exact lR Id h173 (sg [0,5,6]) rfl λ s hE36=>qR (qr (by cases H;exact pr hE36))
end
section
variable (p0_:Int)
def Jhr:St:=⟨(0,.d (.int .u8 p0_))::[],[]⟩
variable {p0_}
theorem Vn {z} (H:JW n p0_=some z):AM Try.prog 85 [.d (.int .u8 p0_)] (.d (.bool z)):=by
 exact fO 5 (Jhr p0_) Try.func85 (sr (ck 1 (en (sr (ck 3 (en (re (by cases H;exact pr rd))))))))
end
section
variable (p0_:Az) (p1_:Int) (x_47:Int)
def Jhs:St:=⟨(0,.agg [.d (.str p0_.Print),.d (.sl (p0_.Cells.map eU8)),.d (.int .u8 p0_.Left),.d (.int .u8 p0_.Right),.d (.int .i64 p0_.From),.d (.int .i64 p0_.To)])::(1,.d (.int .i64 p1_))::[],[]⟩
def Jht:St:=⟨(92,.d (.sl (p0_.Cells.map eU8)))::(93,.d (.int .i64 ((p0_.Cells.length:Nat):Int)))::(94,.d (.int .i64 x_47))::[],[]⟩
def Jhu:St:=⟨[],[]⟩
def SV:(Unit⊕Bool)->Ex->St->Prop:=xS (xX 0 0 (λ (_:Unit)=>Jhu)) (xR ty Try.f79 (λ (y:Bool)=>.d (.bool y)))
def My:Int->St:=(λ (x:Int)=>Jht p0_ x)
variable {p0_ p1_ x_47}
theorem LB (x:Int) (z:(Int⊕(Unit⊕Bool))) (H:Et n p0_ x=some z):WP (cxk 110 0) (Ax Try.f79) [1,1,1,1,1,1,0,1,0,0] (Av 0 (My p0_) (SV) z) (My p0_ x):=by
 revert H
 generalize x=x_47
 intro H
 refine sr (ck 1 (en (sq (cn H (λ H=>?_) (λ H=>?_)))))
 ·refine sk (qz (sq (bk 1 (sr (bx H λ x70 h177 H=>sp (Ao eU8 h177) (ck 2 (en (sr (ck 1 (bx H λ r37 h178 H=>ca false (Vn h178) (ck 3 (gc 1 (!(!r37)) (pO (ck 2 (gc 1 (!((!r37)||(x70==63))) (pO (en (cn H (λ H=>?_) (λ H=>?_)))))))))))))))))))
  ·exact sr (ck 1 (en (re (qR (qr (by cases H;exact ro rfl rd))))))
  ·exact sk (qN (qz (rz (ck 2 (ae (by cases H;exact og (sg [92,93,94])))))))
 ·exact ex 0 (qx (by cases H;exact xo rfl (sg [])))
theorem Vo {z} (H:HR n p0_ p1_=some z):AM Try.prog 79 [.agg (Ms p0_),.d (.int .i64 p1_)] (.d (.bool z)):=by
 refine fO 110 (Jhs p0_ p1_) Try.func79 (sr (ck 2 (en (sq (sr (ck 6 (gc 1 (!(decide (((p0_.Print.length:Nat):Int)>4))) (sE (g:=(!(decide (((p0_.Print.length:Nat):Int)>4)))) (λ hg=>AE eU8 p0_.Cells) (gc 1 (!(decide (((p0_.Print.length:Nat):Int)>4))) (pO (ck 2 (gc 1 (!((decide (((p0_.Print.length:Nat):Int)>4))||(decide (((p0_.Cells.length:Nat):Int)<1)))) (sE (g:=(!((decide (((p0_.Print.length:Nat):Int)>4))||(decide (((p0_.Cells.length:Nat):Int)<1))))) (λ hg=>AE eU8 p0_.Cells) (gc 1 (!((decide (((p0_.Print.length:Nat):Int)>4))||(decide (((p0_.Cells.length:Nat):Int)<1)))) (pO (en (cn H (λ H=>?_) (λ H=>?_))))))))))))))))))
 ·exact sr (ck 1 (en (re (qr (by cases H;exact pr rd)))))
 ·refine sk (qz (sq (sr (ck 2 (bx H λ r35 h174 H=>ca false (I2 h174) (ck 5 (en (sr (ck 2 (en (cn H (λ H=>?_) (λ H=>?_))))))))))))
  ·exact sr (ck 1 (en (re (qr (by cases H;exact pr rd)))))
  ·refine sk (qz (sq (sr (ck 5 (gc 2 (!(decide (p0_.Left<1))) (pO (ck 2 (gc 2 (!((decide (p0_.Left<1))||(decide (p0_.Left>63)))) (pO (ck 2 (gc 2 (!(((decide (p0_.Left<1))||(decide (p0_.Left>63)))||(decide (p0_.Right<1)))) (pO (en (cn H (λ H=>?_) (λ H=>?_)))))))))))))))
   ·exact sr (ck 1 (en (re (qr (by cases H;exact pr rd)))))
   ·refine sk (qz (sq (sr (ck 5 (gc 1 (!(decide (p0_.From<0))) (ck 1 (gc 1 (!(decide (p0_.From<0))) (pO (ck 2 (gc 2 (!((decide (p0_.From<0))||(decide (p0_.From>=p1_)))) (pO (ck 2 (gc 1 (!(((decide (p0_.From<0))||(decide (p0_.From>=p1_)))||(decide (p0_.To<0)))) (ck 1 (gc 1 (!(((decide (p0_.From<0))||(decide (p0_.From>=p1_)))||(decide (p0_.To<0)))) (pO (en (cn H (λ H=>?_) (λ H=>?_)))))))))))))))))))
    ·exact sr (ck 1 (en (re (qr (by cases H;exact pr rd)))))
    ·refine sk (qz (sq (sr (ck 2 (bx H λ r36 h175 H=>ca false (Rh h175) (en (cn H (λ H=>?_) (λ H=>?_))))))))
     ·exact sr (ck 6 (gc 1 (((p0_.Print.length:Nat):Int)==1) (sE (g:=(((p0_.Print.length:Nat):Int)==1)) (λ hg=>AE eU8 p0_.Cells) (gc 1 (((p0_.Print.length:Nat):Int)==1) (pA (ck 2 (gc 1 ((((p0_.Print.length:Nat):Int)==1)&&(((p0_.Cells.length:Nat):Int)==1)) (bx H λ x69 h176 H=>sE (λ hg=>Ao eU8 (Bq h176 hg)) (gc 2 ((((p0_.Print.length:Nat):Int)==1)&&(((p0_.Cells.length:Nat):Int)==1)) (pA (ck 1 (en (re (qr (by cases H;exact pr rd)))))))))))))))
     ·refine sk (qz (sq (sr (ck 2 (sp (AE eU8 p0_.Cells) (ck 1 (en (bk 0 (bx H λ y45 h179 H=>?_)))))))))
      rcases y45 with y46|y47
      ·exact lX LB h179 (sg [92,93,94]) rfl λ s hE37=>qH (qs (hE37) (sr (ck 1 (en (re (by cases H;exact pr rd))))))
      ·exact lR LB h179 (sg [92,93,94]) rfl λ s hE38=>qR (qr (by cases H;exact pr hE38))
end
section
variable (p0_:(List Int)) (p1_:(List Int)) (x_48:Int)
def Jhv:St:=⟨(0,.d (.sl (p0_.map eU8)))::(1,.d (.sl (p1_.map eU8)))::[],[]⟩
def Jhw:St:=⟨(0,.d (.sl (p0_.map eU8)))::(1,.d (.sl (p1_.map eU8)))::(12,.d (.int .i64 ((p0_.length:Nat):Int)))::(13,.d (.int .i64 x_48))::[],[]⟩
def Jhx:St:=⟨[],[]⟩
def SW:(Unit⊕Bool)->Ex->St->Prop:=xS (xX 0 0 (λ (_:Unit)=>Jhx)) (xR ty Try.f86 (λ (y:Bool)=>.d (.bool y)))
def Mz:Int->St:=(λ (x:Int)=>Jhw p0_ p1_ x)
variable {p0_ p1_ x_48}
theorem LC (x:Int) (z:(Int⊕(Unit⊕Bool))) (H:Eu n p0_ p1_ x=some z):WP (cxk 26 0) (Ax Try.f86) [1,1,0,1,0,0] (Av 0 (Mz p0_ p1_) (SW) z) (Mz p0_ p1_ x):=by
 revert H
 generalize x=x_48
 intro H
 refine sr (ck 1 (en (sq (cn H (λ H=>?_) (λ H=>?_)))))
 ·refine sk (qz (sq (bk 1 (sr (ck 2 (en (sr (ck 2 (bx H λ x71 h180 H=>sp (Ao eU8 h180) (ck 3 (bx H λ x72 h181 H=>sp (Ao eU8 h181) (ck 2 (en (cn H (λ H=>?_) (λ H=>?_)))))))))))))))
  ·exact sr (ck 1 (en (re (qR (qr (by cases H;exact ro rfl rd))))))
  ·exact sk (qN (qz (rz (ck 2 (ae (by cases H;exact og (sg [0,1,12,13])))))))
 ·exact ex 0 (qx (by cases H;exact xo rfl (sg [])))
theorem Vp {z} (H:HS n p0_ p1_=some z):AM Try.prog 86 [.d (.sl (p0_.map eU8)),.d (.sl (p1_.map eU8))] (.d (.bool z)):=by
 refine fO 26 (Jhv p0_ p1_) Try.func86 (sr (ck 1 (en (sq (sr (ck 1 (sp (AE eU8 p0_) (ck 1 (sp (AE eU8 p1_) (ck 1 (en (cn H (λ H=>?_) (λ H=>?_)))))))))))))
 ·exact sr (ck 1 (en (re (qr (by cases H;exact pr rd)))))
 ·refine sk (qz (sq (sr (ck 1 (sp (AE eU8 p0_) (ck 1 (en (bk 0 (bx H λ y48 h182 H=>?_)))))))))
  rcases y48 with y49|y50
  ·exact lX LC h182 (sg [0,1,12,13]) rfl λ s hE39=>qH (qs (hE39) (sr (ck 1 (en (re (by cases H;exact pr rd))))))
  ·exact lR LC h182 (sg [0,1,12,13]) rfl λ s hE40=>qR (qr (by cases H;exact pr hE40))
end
section
variable (p0_:Az) (p1_:Az)
def Jhy:St:=⟨(0,.agg [.d (.str p0_.Print),.d (.sl (p0_.Cells.map eU8)),.d (.int .u8 p0_.Left),.d (.int .u8 p0_.Right),.d (.int .i64 p0_.From),.d (.int .i64 p0_.To)])::(1,.agg [.d (.str p1_.Print),.d (.sl (p1_.Cells.map eU8)),.d (.int .u8 p1_.Left),.d (.int .u8 p1_.Right),.d (.int .i64 p1_.From),.d (.int .i64 p1_.To)])::[],[]⟩
variable {p0_ p1_}
theorem Vq {z} (H:HT n p0_ p1_=some z):AM Try.prog 80 [.agg (Ms p0_),.agg (Ms p1_)] (.d (.bool z)):=by
 exact fO 45 (Jhy p0_ p1_) Try.func80 (sr (ck 3 (en (sr (ck 7 (gc 1 (p0_.From==p1_.From) (ck 1 (gc 2 (p0_.From==p1_.From) (pA (ck 2 (gc 1 ((p0_.From==p1_.From)&&(p0_.To==p1_.To)) (ck 1 (gc 2 ((p0_.From==p1_.From)&&(p0_.To==p1_.To)) (pA (ck 2 (gc 1 (((p0_.From==p1_.From)&&(p0_.To==p1_.To))&&(p0_.Left==p1_.Left)) (ck 1 (gc 2 (((p0_.From==p1_.From)&&(p0_.To==p1_.To))&&(p0_.Left==p1_.Left)) (pA (ck 2 (gc 1 ((((p0_.From==p1_.From)&&(p0_.To==p1_.To))&&(p0_.Left==p1_.Left))&&(p0_.Right==p1_.Right)) (ck 1 (gc 2 ((((p0_.From==p1_.From)&&(p0_.To==p1_.To))&&(p0_.Left==p1_.Left))&&(p0_.Right==p1_.Right)) (pA (ck 2 (gc 1 (((((p0_.From==p1_.From)&&(p0_.To==p1_.To))&&(p0_.Left==p1_.Left))&&(p0_.Right==p1_.Right))&&(p0_.Print==p1_.Print)) (ck 1 (gc 1 (((((p0_.From==p1_.From)&&(p0_.To==p1_.To))&&(p0_.Left==p1_.Left))&&(p0_.Right==p1_.Right))&&(p0_.Print==p1_.Print)) (bx H λ r38 h183 H=>cG false (leZ) rfl (λ hg=>Vp (Bq h183 hg)) (Or.inl rfl) (B1 (λ hh=>hh) (B1 (λ hh=>hh) (D6))) rfl (pA (ck 1 (en (re (by cases H;exact pr rd))))))))))))))))))))))))))))))))))
end
section
variable (p0_:Ad) (x_49:Int) (x73:Az) (l28:(List Az)) (x_50:Int)
def Jhz:St:=⟨(0,.agg [.d (.int .i64 p0_.Modes),.d (.int .u8 p0_.Accept),.d (.sl (p0_.Rules.map An))])::[],[]⟩
def JhA:St:=⟨(1,.ptr 0 0)::(39,.d (.sl (p0_.Rules.map An)))::(40,.d (.int .i64 ((p0_.Rules.length:Nat):Int)))::(41,.d (.int .i64 x_49))::[],[some (.box (Ay p0_))]⟩
def JhB:St:=⟨[],[]⟩
def JhC:St:=⟨(1,.ptr 0 0)::(4,.d (.int .i64 x_49))::(5,.ptr 1 0)::(39,.d (.sl (p0_.Rules.map An)))::(40,.d (.int .i64 ((p0_.Rules.length:Nat):Int)))::(41,.d (.int .i64 x_49))::(55,.d (.sl (l28.map An)))::(56,.d (.int .i64 ((l28.length:Nat):Int)))::(57,.d (.int .i64 x_50))::[],[some (.box (Ay p0_)),some (.box (Ms x73))]⟩
def JhD:St:=⟨(1,.ptr 0 0)::(39,.d (.sl (p0_.Rules.map An)))::(40,.d (.int .i64 ((p0_.Rules.length:Nat):Int)))::(41,.d (.int .i64 x_49))::[],[some (.box (Ay p0_))]⟩
def SX:(Unit⊕(Int×Int))->Ex->St->Prop:=xS (xX 0 2 (λ (_:Unit)=>JhD p0_ x_49)) (xR ty Try.f71 (λ (y:(Int×Int))=>.tup [.d (.int .i64 y.1),.d (.int .i64 y.2)]))
def MA:Int->St:=(λ (x:Int)=>JhC p0_ x_49 x73 l28 x)
def SY:(Unit⊕(Int×Int))->Ex->St->Prop:=xS (xX 0 0 (λ (_:Unit)=>JhB)) (xR ty Try.f71 (λ (y:(Int×Int))=>.tup [.d (.int .i64 y.1),.d (.int .i64 y.2)]))
def MB:Int->St:=(λ (x:Int)=>JhA p0_ x)
variable {p0_ x_49 x73 l28 x_50}
theorem LD (x:Int) (z:(Int⊕(Unit⊕(Int×Int)))) (H:Dz n p0_ x_49 x73 l28 x=some z):WP (cxk 67 0) (Ax Try.f71) [1,1,1,1,0,1,0,0,1,1,0,0,1,1,1,0,0] (Av 0 (MA p0_ x_49 x73 l28) (SX p0_ x_49) z) (MA p0_ x_49 x73 l28 x):=by
 revert H
 generalize x=x_50
 intro H
 refine sr (ck 1 (en (sq (cn H (λ H=>?_) (λ H=>?_)))))
 ·refine sk (qz (sq (bk 3 (sr (bx H λ x74 h188 H=>sp (Ao An h188) (ck 3 (en (sr (ck 2 (bx H λ r40 h189 H=>ca false (Vq h189) (en (cn H (λ H=>?_) (λ H=>?_)))))))))))))
  ·exact sr (ck 3 (en (re (qR (qr (by cases H;exact ro rfl rdT))))))
  ·exact sk (qN (qz (rz (ck 2 (ae (by cases H;exact og (sg [1,4,5,39,40,41,55,56,57])))))))
 ·exact ex 2 (qx (by cases H;exact xo rfl (sg [1,39,40,41])))
theorem LE (x:Int) (z:(Int⊕(Unit⊕(Int×Int)))) (H:DA n p0_ x=some z):WP (cxk 67 0) (Ax Try.f71) [1,1,1,1,0,1,0,0] (Av 0 (MB p0_) (SY) z) (MB p0_ x):=by
 revert H
 generalize x=x_49
 intro H
 refine sr (ck 1 (en (sq (cn H (λ H=>?_) (λ H=>?_)))))
 ·refine sk (qz (sq (bk 1 (sr (ck 1 (bx H λ x73 h185 H=>sp (Ao An h185) (ck 4 (en (sq (sr (ck 3 (bx H λ r39 h186 H=>ca false (Vo h186) (ck 1 (en (cn H (λ H=>?_) (λ H=>?_))))))))))))))))
  ·exact sr (ck 3 (en (re (qr (qR (qr (by cases H;exact ro rfl rdT)))))))
  ·refine sk (qz (sr (ck 3 (bx H λ l28 h187 H=>sp (Jgu An 6 h187) (sp (AE An l28) (ck 1 (en (bk 2 (bx H λ y51 h190 H=>?_)))))))))
   rcases y51 with y52|y53
   ·exact lX LD h190 (sg [1,4,5,39,40,41,55,56,57]) rfl λ s hE41=>qH (qN (qs (hE41) (rz (ck 2 (ae (by cases H;exact og (sg [1,39,40,41])))))))
   ·exact lR LD h190 (sg [1,4,5,39,40,41,55,56,57]) rfl λ s hE42=>qR (qR (qr (by cases H;exact ro rfl hE42)))
 ·exact ex 0 (qx (by cases H;exact xo rfl (sg [])))
theorem Vr {z} (H:HU n p0_=some z):AM Try.prog 71 [.agg (Ay p0_)] (.tup [.d (.int .i64 z.1),.d (.int .i64 z.2)]):=by
 refine fO 67 (Jhz p0_) Try.func71 (sr (ck 3 (en (sq (sr (ck 5 (gc 2 (!(decide (p0_.Modes<1))) (pO (en (cn H (λ H=>?_) (λ H=>?_)))))))))))
 ·exact sr (ck 2 (en (re (qr (by cases H;exact pr rdT)))))
 ·refine sk (qz (sq (sr (ck 5 (gc 2 (!(p0_.Accept==0)) (ck 1 (gc 1 (!(p0_.Accept==0)) (bx H λ gd4 h184 H=>soG (λ hg=>H4 (Bq h184 hg)) (B1 (λ hh=>hh) (D6)) (gc 1 (!(p0_.Accept==0)) (pO (en (cn H (λ H=>?_) (λ H=>?_)))))))))))))
  ·exact sr (ck 2 (en (re (qr (by cases H;exact pr rdT)))))
  ·refine sk (qz (sq (sr (ck 2 (sp (AE An p0_.Rules) (ck 3 (gc 1 (!(decide (((p0_.Rules.length:Nat):Int)<1))) (sE (g:=(!(decide (((p0_.Rules.length:Nat):Int)<1)))) (λ hg=>AE An p0_.Rules) (gc 1 (!(decide (((p0_.Rules.length:Nat):Int)<1))) (pO (en (cn H (λ H=>?_) (λ H=>?_)))))))))))))
   ·exact sr (ck 2 (en (re (qr (by cases H;exact pr rdT)))))
   ·refine sk (qz (sq (sr (ck 2 (sp (AE An p0_.Rules) (ck 1 (en (bk 0 (bx H λ y54 h191 H=>?_)))))))))
    rcases y54 with y55|y56
    ·exact lX LE h191 (sg [1,39,40,41]) rfl λ s hE43=>qH (qs (hE43) (sr (ck 2 (en (re (by cases H;exact pr rdT))))))
    ·exact lR LE h191 (sg [1,39,40,41]) rfl λ s hE44=>qR (qr (by cases H;exact pr hE44))
end
section
variable (p0_:Ad)
def JhE:St:=⟨(0,.agg [.d (.int .i64 p0_.Modes),.d (.int .u8 p0_.Accept),.d (.sl (p0_.Rules.map An))])::[],[]⟩
variable {p0_}
theorem Vs {z} (H:GM n p0_=some z):AM Try.prog 56 [.agg (Ay p0_)] (.d (.bool z)):=by
 exact fO 12 (JhE p0_) Try.func56 (sr (ck 2 (en (sr (ck 1 (bx H λ r41 h192 H=>ca false (Vr h192) (ck 5 (en (sr (ck 3 (en (re (by cases H;exact pr rd)))))))))))))
end
section
variable (p0_:Int)
def JeW:St:=⟨(0,.d (.int .i64 p0_))::[],[]⟩
variable {p0_}
theorem I8 {z} (H:Dl n p0_=some z):AM Try.prog 104 [.d (.int .i64 p0_)] (.d (.bool z)):=by
 exact fO 6 (JeW p0_) Try.func104 (sr (ck 1 (en (sr (ck 4 (en (re (by cases H;exact pr rd))))))))
end
section
variable (p0_:Int) (p1_:Int)
def JhF:St:=⟨(0,.d (.int .i64 p0_))::(1,.d (.int .i64 p1_))::[],[]⟩
variable {p0_ p1_}
theorem Qa {z} (H:DR n p0_ p1_=some z):AM Try.prog 93 [.d (.int .i64 p0_),.d (.int .i64 p1_)] (.d (.bool z)):=by
 exact fO 17 (JhF p0_ p1_) Try.func93 (sr (ck 1 (en (sr (ck 1 (bx H λ r43 h196 H=>ca false (I8 h196) (ck 2 (bx H λ r44 h197 H=>cG false (leZ) rfl (λ hg=>I8 (Bq h197 hg)) (Or.inl rfl) (B1 (λ hh=>hh) (D6)) rfl (gc 1 r43 (pA (ck 3 (gc 1 (!(r43&&(!r44))) (pO (ck 1 (en (re (by cases H;exact pr rd)))))))))))))))))
end
section
variable (p0_:Int)
def JhG:St:=⟨(0,.d (.int .i64 p0_))::[],[]⟩
variable {p0_}
theorem J3 {z} (H:EY n p0_=some z):AM Try.prog 98 [.d (.int .i64 p0_)] (.d (.bool z)):=by
 exact fO 6 (JhG p0_) Try.func98 (sr (ck 1 (en (sr (ck 4 (en (re (by cases H;exact pr rd))))))))
end
section
variable (p0_:(List Int)) (p1_:Int) (i_5:Int) (j_3:Int) (i_6:Int)
def JhH:St:=⟨(0,.d (.sl (p0_.map Ae)))::(1,.d (.int .i64 p1_))::[],[]⟩
def JhI:St:=⟨(0,.d (.sl (p0_.map Ae)))::(1,.d (.int .i64 p1_))::(6,.d (.int .i64 ((p0_.length:Nat):Int)))::(7,.d (.int .i64 i_5))::(8,.d (.int .i64 j_3))::[],[]⟩
def JhJ:St:=⟨(0,.d (.sl (p0_.map Ae)))::(1,.d (.int .i64 p1_))::(6,.d (.int .i64 ((p0_.length:Nat):Int)))::(7,.d (.int .i64 i_6))::[],[]⟩
def Hm:Int->Ex->St->Prop:=xX 0 0 (λ (y:Int)=>JhJ p0_ p1_ y)
def Du:(Int×Int)->St:=(λ (x:(Int×Int))=>JhI p0_ p1_ x.1 x.2)
variable {p0_ p1_ i_5 j_3 i_6}
theorem GP (x:(Int×Int)) (z:((Int×Int)⊕Int)) (H:A8 n p0_ p1_ x.1 x.2=some z):WP (cxk 54 0) (Ax Try.f83) [1,1,1,0,0,0] (Av 0 (Du p0_ p1_) (Hm p0_ p1_) z) (Du p0_ p1_ x):=by
 obtain ⟨i_5,j_3⟩:=x
 refine sq (sr (ck 3 (en (cn H (λ H=>?_) (λ H=>?_)))))
 ·refine sk (qz (bk 1 (sr (ck 7 (en (sr (ck 2 (bx H λ x76 h198 H=>sp (Ao Ae h198) (ck 2 (bx H λ r45 h199 H=>ca false (Qa h199) (en (cn H (λ H=>?_) (λ H=>?_)))))))))))))
  ·exact rz (ck 3 (ae (qN (by cases H;exact og (sg [0,1,6,7,8])))))
  ·exact rz (ck 2 (ae (qN (by cases H;exact og (sg [0,1,6,7,8])))))
 ·exact ex 0 (qx (by cases H;exact xo rfl (sg [0,1,6,7])))
theorem HL {z} (H:Bj n p0_ p1_=some z):AM Try.prog 83 [.d (.sl (p0_.map Ae)),.d (.int .i64 p1_)] (.tup [.d (.int .i64 z.1),.d (.bool z.2)]):=by
 exact fO 54 (JhH p0_ p1_) Try.func83 (sr (ck 2 (en (sr (ck 1 (sp (AE Ae p0_) (ck 1 (en (sr (ck 3 (en (sq (bk 0 (bx H λ y57 h200 H=>lX GP h200 (sg [0,1,6,7,8]) rfl λ s hE45=>qH (qs (hE45) (sr (ck 7 (bx H λ x77 h201 H=>sE (λ hg=>Ao Ae (Bq h201 hg)) (gc 1 (decide (y57<((p0_.length:Nat):Int))) (ck 1 (gc 2 (decide (y57<((p0_.length:Nat):Int))) (ck 2 (bx H λ x78 h202 H=>sE (λ hg=>Ao Ae (Bq h202 hg)) (gc 1 ((decide (y57<((p0_.length:Nat):Int)))&&!(x77==p1_)) (bx H λ r46 h203 H=>cG false (leZ) rfl (λ hg=>J3 (Bq h203 hg)) (Or.inl rfl) (B1 (λ hh=>hh) (D6)) rfl (gc 1 ((decide (y57<((p0_.length:Nat):Int)))&&!(x77==p1_)) (ck 1 (bx H λ r47 h204 H=>cG false (leZ) rfl (λ hg=>J3 (Bq h204 hg)) (Or.inl rfl) (B1 (λ hh=>hh) (D6)) rfl (pG (g:=((decide (y57<((p0_.length:Nat):Int)))&&!(x77==p1_))) (v:=.d (.bool (r46&&r47))) (λ hg=>GH (c:=.gv ((decide (y57<((p0_.length:Nat):Int)))&&!(x77==p1_)) (.d (.bool r46))) (a:=.gv (((decide (y57<((p0_.length:Nat):Int)))&&!(x77==p1_))&&r46) (.d (.bool r47))) (b:=.d (.bool false)) rfl rfl rfl ((λ hh=>hh) hg) (λ ht=>by rw [(λ hh=>hh) hg,ht];rfl) trivial) (pG (g:=decide (y57<((p0_.length:Nat):Int))) (v:=.d (.bool ((x77==p1_)||(r46&&r47)))) (λ hg=>GH (c:=.gv (decide (y57<((p0_.length:Nat):Int))) (.d (.bool (x77==p1_)))) (a:=.d (.bool true)) (b:=.gv ((decide (y57<((p0_.length:Nat):Int)))&&!(x77==p1_)) (.d (.bool (r46&&r47)))) rfl rfl rfl ((λ hh=>hh) hg) trivial (λ ht=>by rw [(λ hh=>hh) hg,ht];rfl)) (pA (ck 2 (en (re (by cases H;exact pr rdT)))))))))))))))))))))))))))))))))))
end
section
variable (p0_:AD) (p1_:Int)
def JhK:St:=⟨(0,.dptr (Mr p0_) 0)::(1,.d (.int .i64 p1_))::[],[]⟩
variable {p0_ p1_}
theorem Fv {z} (H:By n p0_ p1_=some z):AM Try.prog 76 [.dptr (Mr p0_) 0,.d (.int .i64 p1_)] (.d (.int .i64 z)):=by
 refine fO 25 (JhK p0_ p1_) Try.func76 (sr (ck 1 (en (sr (ck 5 (bx H λ r48 h205 H=>ca false (HL h205) (ck 5 (en (sq (sr (ck 2 (en (cn H (λ H=>?_) (λ H=>?_))))))))))))))
 ·exact sr (ck 1 (en (re (qr (by cases H;exact pr rd)))))
 ·exact sk (qz (sr (ck 5 (bx H λ x79 h206 H=>sp (Ao Ae h206) (ck 2 (en (re (by cases H;exact pr rd))))))))
end
section
variable (p0_:Ad) (p1_:(List UInt8)) (x_52:Ac) (r52:(List Aa)) (l31:(List AD)) (number_8:(List (Aa×Int))) (x_53:Int) (number_9:(List (Aa×Int))) (y62:(List (Aa×Int))) (w_1:Ac) (x_54:Int) (w_2:Ac) (x86:Aa) (w_3:Ac) (x_55:Int) (w_4:Ac) (w_5:Ac)
def Jcy:St:=⟨(0,.agg [.d (.int .i64 p0_.Modes),.d (.int .u8 p0_.Accept),.d (.sl (p0_.Rules.map An))])::(1,.d (.str p1_))::[],[]⟩
def Jcz:St:=⟨(4,.ptr 0 0)::[],[some (.box (Am x_52 (.osl 1 2 0 (x_52.Columns.length)))),some (.narr 2 (x_52.Columns.map Ab))]⟩
def JcA:St:=⟨(2,.ptr 0 0)::(5,.ptr 1 0)::(6,.mp 2)::(33,.d (.sl (r52.map Ah)))::(34,.d (.int .i64 ((r52.length:Nat):Int)))::(35,.d (.int .i64 x_53))::[],[some (.box (Ay p0_)),some (.box [.d (.int .i64 p0_.Modes),.d (.int .u8 p0_.Accept),.d (.sl (p0_.Rules.map An)),.d (.str p1_),.d (.sl (r52.map Ah)),.osl 3 1 0 (List.length ([]:List (List AB))),.osl 4 2 0 (l31.length),.d (.int .i64 0)]),some (.map true false (Ep Ah Ae number_8)),some (.arr 1 (List.map (eL Aj) ([]:List (List AB)))),some (.narr 2 (l31.map Ab))]⟩
def JcB:St:=⟨(2,.ptr 0 0)::(5,.ptr 1 0)::(6,.mp 2)::[],[some (.box (Ay p0_)),some (.box [.d (.int .i64 p0_.Modes),.d (.int .u8 p0_.Accept),.d (.sl (p0_.Rules.map An)),.d (.str p1_),.d (.sl (r52.map Ah)),.osl 3 1 0 (List.length ([]:List (List AB))),.osl 4 2 0 (l31.length),.d (.int .i64 0)]),some (.map true false (Ep Ah Ae number_9)),some (.arr 1 (List.map (eL Aj) ([]:List (List AB)))),some (.narr 2 (l31.map Ab))]⟩
def N0:(List (Aa×Int))->Ex->St->Prop:=xX 0 0 (λ (y:(List (Aa×Int)))=>JcB p0_ p1_ r52 l31 y)
def Ie:((List (Aa×Int))×Int)->St:=(λ (x:((List (Aa×Int))×Int))=>JcA p0_ p1_ r52 l31 x.1 x.2)
def JcC:St:=⟨(2,.ptr 0 0)::(5,.ptr 1 0)::(6,.mp 2)::(56,.d (.sl (r52.map Ah)))::(57,.d (.int .i64 ((r52.length:Nat):Int)))::(58,.d (.int .i64 x_54))::[],[some (.box (Ay p0_)),some (.box (Hj w_1 (.osl 3 1 0 (w_1.Arcs.length)) (.osl 4 2 0 (w_1.Columns.length)))),some (.map true false (Ep Ah Ae y62)),some (.narr 1 (w_1.Arcs.map (nL 2 Aj))),some (.narr 2 (w_1.Columns.map Ab))]⟩
def JcD:St:=⟨(5,.ptr 0 0)::[],[some (.box (Hj w_2 (.osl 1 1 0 (w_2.Arcs.length)) (.osl 2 2 0 (w_2.Columns.length)))),some (.narr 1 (w_2.Arcs.map (nL 2 Aj))),some (.narr 2 (w_2.Columns.map Ab))]⟩
def JcE:St:=⟨(2,.ptr 0 0)::(5,.ptr 1 0)::(6,.mp 2)::(9,.d (.int .i64 x_54))::(10,.ptr 3 0)::(56,.d (.sl (r52.map Ah)))::(57,.d (.int .i64 ((r52.length:Nat):Int)))::(58,.d (.int .i64 x_54))::(65,.d (.int .i64 ((p0_.Rules.length:Nat):Int)))::(66,.d (.int .i64 x_55))::[],[some (.box (Ay p0_)),some (.box (Hj w_3 (.osl 4 1 0 (w_3.Arcs.length)) (.osl 5 2 0 (w_3.Columns.length)))),some (.map true false (Ep Ah Ae y62)),some (.box (Jt x86)),some (.narr 1 (w_3.Arcs.map (nL 2 Aj))),some (.narr 2 (w_3.Columns.map Ab))]⟩
def JcF:St:=⟨(2,.ptr 0 0)::(5,.ptr 1 0)::(6,.mp 2)::(56,.d (.sl (r52.map Ah)))::(57,.d (.int .i64 ((r52.length:Nat):Int)))::(58,.d (.int .i64 x_54))::[],[some (.box (Ay p0_)),some (.box (Hj w_4 (.osl 3 1 0 (w_4.Arcs.length)) (.osl 4 2 0 (w_4.Columns.length)))),some (.map true false (Ep Ah Ae y62)),some (.narr 1 (w_4.Arcs.map (nL 2 Aj))),some (.narr 2 (w_4.Columns.map Ab))]⟩
def JcG:St:=⟨(2,.ptr 0 0)::(5,.ptr 1 0)::(6,.mp 2)::(9,.d (.int .i64 x_54))::(10,.ptr 3 0)::(56,.d (.sl (r52.map Ah)))::(57,.d (.int .i64 ((r52.length:Nat):Int)))::(58,.d (.int .i64 x_54))::(65,.d (.int .i64 ((p0_.Rules.length:Nat):Int)))::(66,.d (.int .i64 x_55))::[],[some (.box (Ay p0_)),some (.box (Hj w_5 (.osl 4 1 0 (w_5.Arcs.length)) (.osl 5 2 0 (w_5.Columns.length)))),some (.map true false (Ep Ah Ae y62)),some (.box (Jt x86)),some (.narr 1 (w_5.Arcs.map (nL 2 Aj))),some (.narr 2 (w_5.Columns.map Ab))]⟩
def N3:Ac->Ex->St->Prop:=xX 0 4 (λ (y:Ac)=>JcF p0_ r52 y62 x_54 y)
def If:(Ac×Int)->St:=(λ (x:(Ac×Int))=>JcE p0_ r52 y62 x_54 x86 x.1 x.2)
def N4:Ac->Ex->St->Prop:=xX 0 2 (λ (y:Ac)=>JcD y)
def Ig:(Ac×Int)->St:=(λ (x:(Ac×Int))=>JcC p0_ r52 y62 x.1 x.2)
variable {p0_ p1_ x_52 r52 l31 number_8 x_53 number_9 y62 w_1 x_54 w_2 x86 w_3 x_55 w_4 w_5}
theorem Ni (x:((List (Aa×Int))×Int)) (z:(((List (Aa×Int))×Int)⊕(List (Aa×Int)))) (H:BX n p0_ p1_ r52 l31 x.1 x.2=some z):WP (cxk 100 0) (Ax Try.f57) [1,1,1,0,1,0,0] (Av 0 (Ie p0_ p1_ r52 l31) (N0 p0_ p1_ r52 l31) z) (Ie p0_ p1_ r52 l31 x):=by
 obtain ⟨number_8,x_53⟩:=x
 refine sr (ck 1 (en (sq (cn H (λ H=>?_) (λ H=>?_)))))
 ·exact sk (qz (sq (bk 1 (sr (ck 1 (bx H λ x85 h221 H=>sp (Ao Ah h221) (ck 4 (en (rz (ck 3 (sp (RC (enc:=Ae) (encK:=Ah) (k:=2) (e1:=λ x=>.int .i64 x) (m:=number_8) (l:=[.d (.int .i64 x85.Mode),.d (.int .i64 x85.Last),.d (.int .u8 x85.Need)]) (key:=x85) (y:=x_53) (v:=.d (.int .i64 x_53)) (vz:=[.int .i64 0]) SO) (ae (qN (qz (rz (ck 2 (ae (by cases H;exact og (gP [2,5,6,33,34,35] [0,1,2,3,4] (po1 (po1 (po1 (po1 (pn1 Ab l31 (Pl.z)))))))))))))))))))))))))
 ·exact ex 0 (qx (by cases H;exact xo rfl (gP [2,5,6] [0,1,2,3,4] (po1 (po1 (po1 (po1 (pn1 Ab l31 (Pl.z)))))))))
theorem Nj (x:(Ac×Int)) (z:((Ac×Int)⊕Ac)) (H:BY n p0_ r52 y62 x_54 x86 x.1 x.2=some z):WP (cxk 100 0) (Ax Try.f57) [1,1,1,1,1,0,1,0,0,1,1,0,0,1,1,0,0] (Av 0 (If p0_ r52 y62 x_54 x86) (N3 p0_ r52 y62 x_54) z) (If p0_ r52 y62 x_54 x86 x):=by
 obtain ⟨w_3,x_55⟩:=x
 refine sr (ck 1 (en (sq (cn H (λ H=>?_) (λ H=>?_)))))
 ·refine sk (qz (sj (λ (x:Ac)=>JcG p0_ r52 y62 x_54 x86 x_55 x) (λ (x:Ac)=>Cl n x_55 x) z ?_ (λ hFTr_newWriter_J1=>?_)))
  ·intro w_5 H
   exact rz (ck 2 (ae (by cases H;exact og (gP [2,5,6,9,10,56,57,58,65,66] [0,1,2,3,4,5] (po1 (po1 (po1 (po1 (pn1 (nL 2 Aj) w_5.Arcs (pn1 Ab w_5.Columns (Pl.z)))))))))))
  refine bk 5 (sr (ck 2 (en (sr (ck 3 (bx H λ r53 h225 H=>ca false (Mv h225) (ck 6 (en (sr (ck 1 (en (cn H (λ H=>?_) (λ H=>?_)))))))))))))
  ·exact bx H λ x87 h226 H=>rg (tr (so1 (encN:=(nL 2 Aj)) 4 1 h226) (sno (encN:=(nL 2 Aj)) (enc:=Aj) h226 [.own 2 (x87.map Aj)] x87 1 4 0 2)) (ck 10 (sp (As 4 1 h226) (sp (BT (encN:=(nL 2 Aj)) (row:=[.osl 7 2 0 (x87.length)]) (k:=4) (sz:=1) (off:=0) (t:=ty 137) (v:=.osl 7 2 0 (x87.length)) h226) (ck 3 (sp (SL (enc:=Ae) (encK:=Ah) (k:=2) (e1:=λ x=>.int .i64 x) (m:=y62) (l:=[.d (.int .i64 r53.1.Mode),.d (.int .i64 r53.1.Last),.d (.int .u8 r53.1.Need)]) (key:=r53.1) (z:=0) (vz:=[.int .i64 0]) SO false) (ck 2 (bx H λ l33 h227 H=>sp (B5 Aj 7 2 h227) (sp (As 4 1 h226) (sp (KI (encN:=(nL 2 Aj)) (row:=[.osl 7 2 0 (x87.length)]) (row':=[.osl 9 2 0 (l33.length)]) (k:=4) (sz:=1) (off:=0) (t:=ty 137) (v:=.osl 9 2 0 (l33.length)) h226) (ae (qN (qs (tr (tr (tr (tr (tr (sni (encN:=(nL 2 Aj)) (xs:=w_3.Arcs) (n:=x_54) (enc:=Aj) [.osl 9 2 0 (l33.length)] l33 1 4 0 9 2) (scl (encN:=(nL 2 Aj)) (xss:=w_3.Arcs) x_54 [.own 2 (l33.map Aj)] 1 4 l33)) (sn 80 4 1 (lsS w_3.Arcs x_54.toNat l33))) (sn 85 4 1 (lsS w_3.Arcs x_54.toNat l33))) (snc 1 5 4 1 (lsS w_3.Arcs x_54.toNat l33))) (gP [2,5,6,9,10,56,57,58,65,66] [0,1,2,3,4,5] (po1 (po1 (po1 (po1 (pn1 (nL 2 Aj) (List.set w_3.Arcs x_54.toNat l33) (pn1 Ab w_3.Columns (Pl.z))))))))) (hFTr_newWriter_J1 ({ T:=w_3.T,S:=w_3.S,States:=w_3.States,Arcs:=List.set w_3.Arcs x_54.toNat l33,Columns:=w_3.Columns,Last:=w_3.Last }:Ac) H)))))))))))))
  ·exact sk (qN (qs (gP [2,5,6,9,10,56,57,58,65,66] [0,1,2,3,4,5] (po1 (po1 (po1 (po1 (pn1 (nL 2 Aj) w_3.Arcs (pn1 Ab w_3.Columns (Pl.z)))))))) (hFTr_newWriter_J1 w_3 H)))
 ·exact ex 4 (qx (by cases H;exact xo rfl (gP [2,5,6,56,57,58] [0,1,2,4,5] (po1 (po1 (po1 (pn1 (nL 2 Aj) w_3.Arcs (pn1 Ab w_3.Columns (Pl.z)))))))))
theorem Nk (x:(Ac×Int)) (z:((Ac×Int)⊕Ac)) (H:Cm n p0_ r52 y62 x.1 x.2=some z):WP (cxk 100 0) (Ax Try.f57) [1,1,1,1,1,0,1,0,0] (Av 0 (Ig p0_ r52 y62) (N4) z) (Ig p0_ r52 y62 x):=by
 obtain ⟨w_1,x_54⟩:=x
 refine sr (ck 1 (en (sq (cn H (λ H=>?_) (λ H=>?_)))))
 ·exact sk (qz (sq (bk 3 (sr (ck 1 (bx H λ x86 h224 H=>sp (Ao Ah h224) (ck 4 (en (sr (ck 2 (sp (AE An p0_.Rules) (ck 1 (en (bk 4 (bx H λ y63 h228 H=>lX Nj h228 (gP [2,5,6,9,10,56,57,58,65,66] [0,1,2,5,3,4] (po1 (po1 (po1 (po1 (pn1 (nL 2 Aj) w_1.Arcs (pn1 Ab w_1.Columns (Pl.z)))))))) rfl λ s hE50=>qH (qN (qs (hE50) (rz (ck 2 (ae (by cases H;exact og (gP [2,5,6,56,57,58] [0,1,2,3,4] (po1 (po1 (po1 (pn1 (nL 2 Aj) y63.Arcs (pn1 Ab y63.Columns (Pl.z))))))))))))))))))))))))))))
 ·exact ex 2 (qx (by cases H;exact xo rfl (gP [5] [1,3,4] (po1 (pn1 (nL 2 Aj) w_1.Arcs (pn1 Ab w_1.Columns (Pl.z)))))))
theorem Qb {z} (H:DS n p0_ p1_=some z):BO Try.prog 57 [.agg (Ay p0_),.d (.str p1_)] [] 0 (.ptr 0 0) [some (.box (Am z (.osl 1 2 0 (z.Columns.length)))),some (.narr 2 (z.Columns.map Ab))]:=by
 exact fL 100 0 (Jcy p0_ p1_) Try.func57 (sr (ck 2 (en (sr (ck 3 (bx H λ r52 h219 H=>ca false (NB h219) (ck 3 (bx H λ l31 h220 H=>sp (PU 2 (ez:=[.nil,.nil]) h220) (ck 3 (en (sq (rg (tr (tr (SI (encN:=Ab) (sz:=2) (z:=[.nil,.nil]) (n:=(Ar .i64 ((p1_.length:Nat):Int) 1)) 1 (KJ h220) (by kernel_rfl) (by kernel_rfl)) (sn 21 1 2 (Fh h220))) (snc 2 6 1 2 (Fh h220))) (ck 4 (sp (AE Ah r52) (ck 2 (en (sq (sr (ck 4 (sp (AE Ah r52) (ck 1 (en (bk 0 (bx H λ y62 h222 H=>lX Ni h222 (tr (Bt 2 5 1 (by kernel_rfl)) (gP [2,5,6,33,34,35] [0,2,3,4,1] (po1 (po1 (po1 (po1 (pn1 Ab l31 (Pl.z)))))))) rfl λ s hE49=>qH (qs (hE49) (sr (ck 5 (sp (AE Ah r52) (bx H λ l32 h223 H=>sp (PU 1 (ez:=[.nil]) h223) (ck 3 (en (sq (sq (rg (tr (tr (SI (encN:=(nL 2 Aj)) (sz:=1) (z:=[.nil]) (n:=((r52.length:Nat):Int)) 5 (KJ h223) (by kernel_rfl) (by kernel_rfl)) (sn 50 5 1 (Fh h223))) (snc 1 5 5 1 (Fh h223))) (ck 4 (sp (AE Ah r52) (ck 1 (en (bk 2 (bx H λ y64 h229 H=>lX Nk h229 (gP [2,5,6,56,57,58] [0,1,2,5,4] (po1 (po1 (po1 (pn1 (nL 2 Aj) l32 (pn1 Ab l31 (Pl.z))))))) rfl λ s hE51=>qH (qs (hE51) (sr (ck 2 (en (re (by cases H;exact pL (rl (s':=Jcz z) (tr (OQ (encN:=(nL 2 Aj)) (encD:=(eL Aj)) (xss:=z.Arcs) (sz:=1) 0 5 1 (by kernel_rfl) (by kernel_rfl) (λ _=>rfl) (λ _=>rfl)) (gP [4] [0,2] (po1 (pn1 Ab z.Columns (Pl.z))))))))))))))))))))))))))))))))))))))))))))))))))))
end
section
variable (p0_:Int) (p1_:Int) (b2_:Ac) (o0_:(List (List Bool))) (x_56:Ac) (x_57:(List (List Bool)))
def JcH:St:=⟨(0,.d (.int .i64 p0_))::(1,.d (.int .i64 p1_))::(2,.eptr 0 1 0 0)::(3,.ptr 1 0)::[],[some (.narr 1 (o0_.map (nL 1 eB))),some (.box [.ptr 2 0]),some (.box (Am b2_ (.osl 3 2 0 (b2_.Columns.length)))),some (.narr 2 (b2_.Columns.map Ab))]⟩
def W3:St:=⟨[],[some (.narr 1 (x_57.map (nL 1 eB))),some (.box [.ptr 2 0]),some (.box (Am x_56 (.osl 3 2 0 (x_56.Columns.length)))),some (.narr 2 (x_56.Columns.map Ab))]⟩
variable {p0_ p1_ b2_ o0_ x_56 x_57}
theorem Gk {z} (H:BU n p0_ p1_ b2_ o0_=some z):BO Try.prog 72 [.d (.int .i64 p0_),.d (.int .i64 p1_),.eptr 0 1 0 0,.ptr 1 0] [some (.narr 1 (o0_.map (nL 1 eB))),some (.box [.ptr 2 0]),some (.box (Am b2_ (.osl 3 2 0 (b2_.Columns.length)))),some (.narr 2 (b2_.Columns.map Ab))] 4 (.tup []) [some (.narr 1 (z.2.map (nL 1 eB))),some (.box [.ptr 2 0]),some (.box (Am z.1 (.osl 3 2 0 (z.1.Columns.length)))),some (.narr 2 (z.1.Columns.map Ab))]:=by
 refine fL 37 4 (JcH p0_ p1_ b2_ o0_) Try.func72 (sq (bx H λ x88 h230 H=>rg (tr (so1 (encN:=(nL 1 eB)) 0 1 h230) (sno (encN:=(nL 1 eB)) (enc:=eB) h230 [.own 1 (x88.map eB)] x88 1 0 0 1)) (ck 2 (bx H λ gd5 h231 H=>sp (Vh 0 1 0 5 (j:=0) h231) (sp (BT (encN:=(nL 1 eB)) (row:=[.osl 4 1 0 (x88.length)]) (k:=0) (sz:=1) (off:=0) (t:=ty 108) (v:=.osl 4 1 0 (x88.length)) h230) (ck 1 (en (sr (ck 2 (bx H λ x89 h232 H=>sp (As 4 1 h232) (sp (Ct eB 4 0 (ty 4) h232) (ck 1 (en (cn H (λ H=>?_) (λ H=>?_)))))))))))))))
 ·exact sr (ck 2 (bx H λ x90 h233 H=>sp (As 4 1 h233) (bx H λ l34 h234 H=>stA eB 4 0 (ty 4) h233 h234 (en (bx H λ x91 h235 H=>rg (tr (tr (tr (tr (tr (tr (tr (tr (sn 10 4 1 (A5 h234)) (sn 6 4 1 (A5 h234))) (sn 11 4 1 (A5 h234))) (sn 16 4 1 (A5 h234))) (snr (encN:=(nL 1 eB)) (xs:=o0_) (n:=Bv p0_ 5) [.osl 4 1 0 (x88.length)] 1 0 0 4 1 (A5 h234))) (sni (encN:=(nL 1 eB)) (xs:=o0_) (n:=Bv p0_ 5) (enc:=eB) [.osl 4 1 0 (l34.length)] l34 1 0 0 4 1)) (scl (encN:=(nL 1 eB)) (xss:=o0_) (Bv p0_ 5) [.own 1 (l34.map eB)] 1 0 l34)) (so1 (encN:=Ab) 3 2 h235)) (sno (encN:=Ab) (enc:=Ae) h235 [.own 1 (x91.States.map Ae),.own 1 (x91.Costs.map Ae)] x91.States 2 3 0 1)) (ck 10 (sp (As 3 2 h235) (ck 1 (sp (BT (encN:=Ab) (row:=[.osl 5 1 0 (x91.States.length),.own 1 (x91.Costs.map Ae)]) (k:=3) (sz:=2) (off:=0) (t:=ty 32) (v:=.osl 5 1 0 (x91.States.length)) h235) (ck 2 (bx H λ l35 h236 H=>sp (B5 Ae 5 1 h236) (sp (As 3 2 h235) (ck 1 (sp (KI (encN:=Ab) (row:=[.osl 5 1 0 (x91.States.length),.own 1 (x91.Costs.map Ae)]) (row':=[.osl 7 1 0 (l35.length),.own 1 (x91.Costs.map Ae)]) (k:=3) (sz:=2) (off:=0) (t:=ty 32) (v:=.osl 7 1 0 (l35.length)) h235) (ae (by cases H;exact pL' (rl (s':=W3 ({ T:=b2_.T,S:=b2_.S,States:=b2_.States,Arcs:=b2_.Arcs,Columns:=List.set b2_.Columns p0_.toNat ({ States:=l35,Costs:=x91.Costs }:AD),Last:=b2_.Last }:Ac) (List.set o0_ (Int.toNat (Bv p0_ 5)) l34)) (tr (tr (tr (tr (tr (sni (encN:=Ab) (xs:=b2_.Columns) (n:=p0_) (enc:=Ae) [.osl 7 1 0 (l35.length),.own 1 (x91.Costs.map Ae)] l35 2 3 0 7 1) (scl (encN:=Ab) (xss:=b2_.Columns) p0_ [.own 1 (l35.map Ae),.own 1 (x91.Costs.map Ae)] 2 3 ({ States:=l35,Costs:=x91.Costs }:AD))) (sn 22 3 2 (lsS b2_.Columns p0_.toNat ({ States:=l35,Costs:=x91.Costs }:AD)))) (sn 27 3 2 (lsS b2_.Columns p0_.toNat ({ States:=l35,Costs:=x91.Costs }:AD)))) (snc 2 6 3 2 (lsS b2_.Columns p0_.toNat ({ States:=l35,Costs:=x91.Costs }:AD)))) (gP [] [0,1,2,3] (pn1 (nL 1 eB) (List.set o0_ (Int.toNat (Bv p0_ 5)) l34) (po1 (po1 (pn1 Ab (List.set b2_.Columns p0_.toNat ({ States:=l35,Costs:=x91.Costs }:AD)) (Pl.z))))))))))))))))))))))))
 ·exact sk (by cases H;exact pL' (rl (s':=W3 b2_ (List.set o0_ (Int.toNat (Bv p0_ 5)) x88)) (tr (tr (sni (encN:=(nL 1 eB)) (xs:=o0_) (n:=Bv p0_ 5) (enc:=eB) [.osl 4 1 0 (x88.length)] x88 1 0 0 4 1) (scl (encN:=(nL 1 eB)) (xss:=o0_) (Bv p0_ 5) [.own 1 (x88.map eB)] 1 0 x88)) (gP [] [0,1,2,3] (pn1 (nL 1 eB) (List.set o0_ (Int.toNat (Bv p0_ 5)) x88) (po1 (po1 (pn1 Ab b2_.Columns (Pl.z)))))))))
end
section
variable (p1_:Int) (p2_:Int) (b0_:Ac) (x_58:Int) (x_59:Bool)
def JcI:St:=⟨(0,.ptr 0 0)::(1,.d (.int .i64 p1_))::(2,.d (.int .i64 p2_))::[],[some (.box (Am b0_ (.osl 1 2 0 (b0_.Columns.length)))),some (.narr 2 (b0_.Columns.map Ab))]⟩
def JcJ:St:=⟨(6,.d (.int .i64 x_58))::(7,.d (.bool x_59))::[],[some (.box (Am b0_ (.osl 1 2 0 (b0_.Columns.length)))),some (.narr 2 (b0_.Columns.map Ab))]⟩
variable {p1_ p2_ b0_ x_58 x_59}
theorem DZ {z} (H:Bx n p1_ p2_ b0_=some z):BO Try.prog 73 [.ptr 0 0,.d (.int .i64 p1_),.d (.int .i64 p2_)] [some (.box (Am b0_ (.osl 1 2 0 (b0_.Columns.length)))),some (.narr 2 (b0_.Columns.map Ab))] 2 (.tup [.d (.int .i64 z.1),.d (.bool z.2)]) [some (.box (Am b0_ (.osl 1 2 0 (b0_.Columns.length)))),some (.narr 2 (b0_.Columns.map Ab))]:=by
 exact fL 30 2 (JcI p1_ p2_ b0_) Try.func73 (sr (ck 2 (en (sr (ck 6 (bx H λ x92 h237 H=>sp (Ao An h237) (ck 3 (en (sr (ck 9 (bx H λ s8 h238 H=>sp (KH h238) (ck 1 (bx H λ r54 h239 H=>ca true (J1 h239) (ck 2 (en (re (by cases H;exact pL (rl (s':=JcJ b0_ (Ar .i64 p1_ ((x92.Print.length:Nat):Int)) r54) (gP [6,7] [0,1] (po1 (pn1 Ab b0_.Columns (Pl.z))))))))))))))))))))))
end
theorem JcK {n:Nat} {o0_:List Int} {z:List Int} (H:Ux n o0_=some z):BO Try.prog 74 [.osl 0 1 0 (o0_.length)] [some (.arr 1 (o0_.map Ae))] 1 (.tup []) [some (.arr 1 (z.map Ae))]:=ZN Try.laysSort ⟨_,_,Try.func74,rfl,rfl⟩ H
section
variable (b0_:Ac) (x_60:Ac) (known_5:(List (List Bool))) (x_61:Int) (known_6:(List (List Bool))) (r55:(Ac×(List (List Bool)))) (w_6:Ac) (known_7:(List (List Bool))) (x_62:Int) (x_63:Ac) (class_1:Int) (w_7:Ac) (known_8:(List (List Bool))) (i_7:Int) (w_8:Ac) (known_9:(List (List Bool))) (x96:Int) (w_9:Ac) (x97:(List AB)) (w_10:Ac) (known_10:(List (List Bool))) (x_64:Int) (w_11:Ac) (known_11:(List (List Bool))) (w_12:Ac) (known_12:(List (List Bool)))
def JcL:St:=⟨(0,.ptr 0 0)::[],[some (.box (Am b0_ (.osl 1 2 0 (b0_.Columns.length)))),some (.narr 2 (b0_.Columns.map Ab))]⟩
def JcM:St:=⟨[],[some (.box (Am x_60 (.osl 1 2 0 (x_60.Columns.length)))),some (.narr 2 (x_60.Columns.map Ab))]⟩
def JcN:St:=⟨(1,.ptr 2 0)::(2,.eptr 3 1 0 0)::(13,.d (.int .i64 x_61))::[],[some (.box (Am b0_ (.osl 1 2 0 (b0_.Columns.length)))),some (.narr 2 (b0_.Columns.map Ab)),some (.box [.ptr 0 0]),some (.narr 1 (known_5.map (nL 1 eB)))]⟩
def JcO:St:=⟨(1,.ptr 2 0)::(2,.eptr 3 1 0 0)::[],[some (.box (Am b0_ (.osl 1 2 0 (b0_.Columns.length)))),some (.narr 2 (b0_.Columns.map Ab)),some (.box [.ptr 0 0]),some (.narr 1 (known_6.map (nL 1 eB)))]⟩
def LS:(List (List Bool))->Ex->St->Prop:=xX 2 0 (λ (y:(List (List Bool)))=>JcO b0_ y)
def Gl:((List (List Bool))×Int)->St:=(λ (x:((List (List Bool))×Int))=>JcN b0_ x.1 x.2)
def JcP:St:=⟨(1,.ptr 2 0)::(2,.eptr 3 1 0 0)::(4,.clo 72 [.eptr 3 1 0 0,.ptr 2 0])::(32,.d (.int .i64 ((r55.1.Columns.length:Nat):Int)))::(33,.d (.int .i64 x_62))::[],[some (.box (Am w_6 (.osl 1 2 0 (w_6.Columns.length)))),some (.narr 2 (w_6.Columns.map Ab)),some (.box [.ptr 0 0]),some (.narr 1 (known_7.map (nL 1 eB)))]⟩
def JcQ:St:=⟨[],[some (.box (Am x_63 (.osl 1 2 0 (x_63.Columns.length)))),some (.narr 2 (x_63.Columns.map Ab))]⟩
def JcR:St:=⟨(1,.ptr 2 0)::(2,.eptr 3 1 0 0)::(4,.clo 72 [.eptr 3 1 0 0,.ptr 2 0])::(5,.d (.int .i64 x_62))::(6,.d (.int .i64 class_1))::(32,.d (.int .i64 ((r55.1.Columns.length:Nat):Int)))::(33,.d (.int .i64 x_62))::[],[some (.box (Am w_6 (.osl 1 2 0 (w_6.Columns.length)))),some (.narr 2 (w_6.Columns.map Ab)),some (.box [.ptr 0 0]),some (.narr 1 (known_7.map (nL 1 eB)))]⟩
def JcS:St:=⟨(1,.ptr 2 0)::(2,.eptr 3 1 0 0)::(4,.clo 72 [.eptr 3 1 0 0,.ptr 2 0])::(5,.d (.int .i64 x_62))::(6,.d (.int .i64 class_1))::(7,.d (.int .i64 i_7))::(32,.d (.int .i64 ((r55.1.Columns.length:Nat):Int)))::(33,.d (.int .i64 x_62))::[],[some (.box (Am w_7 (.osl 1 2 0 (w_7.Columns.length)))),some (.narr 2 (w_7.Columns.map Ab)),some (.box [.ptr 0 0]),some (.narr 1 (known_8.map (nL 1 eB)))]⟩
def JcT:St:=⟨(1,.ptr 2 0)::(2,.eptr 3 1 0 0)::(4,.clo 72 [.eptr 3 1 0 0,.ptr 2 0])::(5,.d (.int .i64 x_62))::(32,.d (.int .i64 ((r55.1.Columns.length:Nat):Int)))::(33,.d (.int .i64 x_62))::[],[some (.box (Am w_8 (.osl 1 2 0 (w_8.Columns.length)))),some (.narr 2 (w_8.Columns.map Ab)),some (.box [.ptr 0 0]),some (.narr 1 (known_9.map (nL 1 eB)))]⟩
def ZW:St:=⟨(1,.ptr 2 0)::(2,.eptr 3 1 0 0)::(4,.clo 72 [.eptr 3 1 0 0,.ptr 2 0])::(5,.d (.int .i64 x_62))::(6,.d (.int .i64 class_1))::(7,.d (.int .i64 i_7))::(8,.d (.int .i64 x96))::(32,.d (.int .i64 ((r55.1.Columns.length:Nat):Int)))::(33,.d (.int .i64 x_62))::[],[some (.box (Am w_9 (.osl 1 2 0 (w_9.Columns.length)))),some (.narr 2 (w_9.Columns.map Ab)),some (.box [.ptr 0 0]),some (.narr 1 (known_8.map (nL 1 eB)))]⟩
def ZX:St:=⟨(1,.ptr 2 0)::(2,.eptr 3 1 0 0)::(4,.clo 72 [.eptr 3 1 0 0,.ptr 2 0])::(5,.d (.int .i64 x_62))::(6,.d (.int .i64 class_1))::(7,.d (.int .i64 i_7))::(32,.d (.int .i64 ((r55.1.Columns.length:Nat):Int)))::(33,.d (.int .i64 x_62))::(96,.d (.sl (x97.map Aj)))::(97,.d (.int .i64 ((x97.length:Nat):Int)))::(98,.d (.int .i64 x_64))::[],[some (.box (Am w_10 (.osl 1 2 0 (w_10.Columns.length)))),some (.narr 2 (w_10.Columns.map Ab)),some (.box [.ptr 0 0]),some (.narr 1 (known_10.map (nL 1 eB)))]⟩
def ZY:St:=⟨(1,.ptr 2 0)::(2,.eptr 3 1 0 0)::(4,.clo 72 [.eptr 3 1 0 0,.ptr 2 0])::(5,.d (.int .i64 x_62))::(6,.d (.int .i64 class_1))::(7,.d (.int .i64 i_7))::(32,.d (.int .i64 ((r55.1.Columns.length:Nat):Int)))::(33,.d (.int .i64 x_62))::[],[some (.box (Am w_11 (.osl 1 2 0 (w_11.Columns.length)))),some (.narr 2 (w_11.Columns.map Ab)),some (.box [.ptr 0 0]),some (.narr 1 (known_11.map (nL 1 eB)))]⟩
def ZZ:St:=⟨(1,.ptr 2 0)::(2,.eptr 3 1 0 0)::(4,.clo 72 [.eptr 3 1 0 0,.ptr 2 0])::(5,.d (.int .i64 x_62))::(6,.d (.int .i64 class_1))::(7,.d (.int .i64 i_7))::(32,.d (.int .i64 ((r55.1.Columns.length:Nat):Int)))::(33,.d (.int .i64 x_62))::(96,.d (.sl (x97.map Aj)))::(97,.d (.int .i64 ((x97.length:Nat):Int)))::(98,.d (.int .i64 x_64))::[],[some (.box (Am w_12 (.osl 1 2 0 (w_12.Columns.length)))),some (.narr 2 (w_12.Columns.map Ab)),some (.box [.ptr 0 0]),some (.narr 1 (known_12.map (nL 1 eB)))]⟩
def LT:(Ac×(List (List Bool)))->Ex->St->Prop:=xX 2 6 (λ (y:(Ac×(List (List Bool))))=>ZY r55 x_62 class_1 i_7 y.1 y.2)
def Gm:(Ac×(List (List Bool))×Int)->St:=(λ (x:(Ac×(List (List Bool))×Int))=>ZX r55 x_62 class_1 i_7 x97 x.1 x.2.1 x.2.2)
def LU:(Ac×(List (List Bool)))->Ex->St->Prop:=xX 2 4 (λ (y:(Ac×(List (List Bool))))=>JcT r55 x_62 y.1 y.2)
def Gn:(Ac×(List (List Bool))×Int)->St:=(λ (x:(Ac×(List (List Bool))×Int))=>JcS r55 x_62 class_1 x.1 x.2.1 x.2.2)
def LV:Ac->Ex->St->Prop:=xX 2 2 (λ (y:Ac)=>JcQ y)
def Gp:(Ac×(List (List Bool))×Int)->St:=(λ (x:(Ac×(List (List Bool))×Int))=>JcP r55 x.1 x.2.1 x.2.2)
variable {b0_ x_60 known_5 x_61 known_6 r55 w_6 known_7 x_62 x_63 class_1 w_7 known_8 i_7 w_8 known_9 x96 w_9 x97 w_10 known_10 x_64 w_11 known_11 w_12 known_12}
theorem KR (x:((List (List Bool))×Int)) (z:(((List (List Bool))×Int)⊕(List (List Bool)))) (H:BE n b0_ x.1 x.2=some z):WP (cxk 131 2) (Ax Try.f58) [1,1,0,1,0,0] (Av 2 (Gl b0_) (LS b0_) z) (Gl b0_ x):=by
 obtain ⟨known_5,x_61⟩:=x
 refine sr (ck 1 (en (sq (cn H (λ H=>?_) (λ H=>?_)))))
 ·exact sk (qz (sq (bk 1 (sr (ck 2 (en (bx H λ x93 h240 H=>rg (so1 (encN:=(nL 1 eB)) 3 1 h240) (ck 5 (sp (AE Ah b0_.States) (bx H λ l36 h241 H=>sp (SK eB 1 h241) (bx H λ gd6 h242 H=>sp (Vh 3 1 0 5 (j:=0) h242) (sp (KI (encN:=(nL 1 eB)) (row:=[.own 1 (x93.map eB)]) (row':=[.osl 4 1 0 (l36.length)]) (k:=3) (sz:=1) (off:=0) (t:=ty 108) (v:=.osl 4 1 0 (l36.length)) h240) (ae (qN (qz (rg (tr (sni (encN:=(nL 1 eB)) (xs:=known_5) (n:=x_61) (enc:=eB) [.osl 4 1 0 (l36.length)] l36 1 3 0 4 1) (scl (encN:=(nL 1 eB)) (xss:=known_5) x_61 [.own 1 (l36.map eB)] 1 3 l36)) (ck 2 (ae (by cases H;exact og (gP [1,2,13] [0,1,2,3] (po1 (pn1 Ab b0_.Columns (po1 (pn1 (nL 1 eB) (List.set known_5 x_61.toNat l36) (Pl.z)))))))))))))))))))))))))
 ·exact ex 0 (qx (by cases H;exact xo rfl (gP [1,2] [0,1,2,3] (po1 (pn1 Ab b0_.Columns (po1 (pn1 (nL 1 eB) known_5 (Pl.z))))))))
theorem KS (x:(Ac×(List (List Bool))×Int)) (z:((Ac×(List (List Bool))×Int)⊕(Ac×(List (List Bool))))) (H:Bk n r55 x_62 class_1 i_7 x97 x.1 x.2.1 x.2.2=some z):WP (cxk 131 2) (Ax Try.f58) [1,1,1,1,1,1,0,0,1,1,0,0,1,1,1,0,1,0,0,1,0,0,1,1,1,0,0] (Av 2 (Gm r55 x_62 class_1 i_7 x97) (LT r55 x_62 class_1 i_7) z) (Gm r55 x_62 class_1 i_7 x97 x):=by
 obtain ⟨w_10,known_10,x_64⟩:=x
 refine sr (ck 1 (en (sq (cn H (λ H=>?_) (λ H=>?_)))))
 ·refine sk (qz (sj (λ (x:(Ac×(List (List Bool))))=>ZZ r55 x_62 class_1 i_7 x97 x_64 x.1 x.2) (λ (x:(Ac×(List (List Bool))))=>BF n x_64 x.1 x.2) z ?_ (λ hFTr_writer_reach_J3=>?_)))
  ·rintro ⟨w_12,known_12⟩ H
   exact rz (ck 2 (ae (by cases H;exact og (gP [1,2,4,5,6,7,32,33,96,97,98] [0,1,2,3] (po1 (pn1 Ab w_12.Columns (po1 (pn1 (nL 1 eB) known_12 (Pl.z)))))))))
  refine bk 7 (sr (bx H λ x98 h249 H=>sp (Ao Aj h249) (ck 3 (en (sr (ck 4 (bx H λ r56 h250 H=>ltP [0,1] (DZ h250) (po1 (pn1 Ab w_10.Columns (Pl.z))) (tb (f:=Ds (CD [0,1] 5 2)) [some (.box (Am w_10 (.osl 1 2 0 (w_10.Columns.length)))),some (.narr 2 (w_10.Columns.map Ab)),some (.box [.ptr 0 0]),some (.narr 1 (known_10.map (nL 1 eB))),some (.box [.d (.int .i64 x98.Rule),.d (.int .i64 x98.To)])] (po1 (pn1 Ab w_10.Columns (po1 (po1 (po1 (Pl.z)))))) (ck 5 (en (sr (ck 1 (en (cn H (λ H=>?_) (λ H=>?_)))))))))))))))
  ·exact rz (ck 4 (bx H λ r57 h251 H=>xcP (xok _ _) [3,2,0,1] (Gk h251) (pn1 (nL 1 eB) known_10 (po1 (po1 (pn1 Ab w_10.Columns (Pl.z))))) (tb (f:=Ds (CD [3,2,0,1] 5 4)) [some (.box (Am r57.1 (.osl 1 2 0 (r57.1.Columns.length)))),some (.narr 2 (r57.1.Columns.map Ab)),some (.box [.ptr 0 0]),some (.narr 1 (r57.2.map (nL 1 eB))),some (.box [.d (.int .i64 x98.Rule),.d (.int .i64 x98.To)])] (po1 (pn1 Ab r57.1.Columns (po1 (pn1 (nL 1 eB) r57.2 (po1 (Pl.z)))))) (ae (qN (qs (gP [1,2,4,5,6,7,32,33,96,97,98] [0,1,2,3] (po1 (pn1 Ab r57.1.Columns (po1 (pn1 (nL 1 eB) r57.2 (Pl.z)))))) (hFTr_writer_reach_J3 (r57.1,r57.2) H)))))))
  ·exact sk (qN (qs (gP [1,2,4,5,6,7,32,33,96,97,98] [0,1,2,3] (po1 (pn1 Ab w_10.Columns (po1 (pn1 (nL 1 eB) known_10 (Pl.z)))))) (hFTr_writer_reach_J3 (w_10,known_10) H)))
 ·exact ex 6 (qx (by cases H;exact xo rfl (gP [1,2,4,5,6,7,32,33] [0,1,2,3] (po1 (pn1 Ab w_10.Columns (po1 (pn1 (nL 1 eB) known_10 (Pl.z))))))))
theorem KT (x:(Ac×(List (List Bool))×Int)) (z:((Ac×(List (List Bool))×Int)⊕(Ac×(List (List Bool))))) (H:BH n r55 x_62 class_1 x.1 x.2.1 x.2.2=some z):WP (cxk 131 2) (Ax Try.f58) [1,1,1,1,1,1,0,0,1,1,0,0,1,1,1,0,1,0,0] (Av 2 (Gn r55 x_62 class_1) (LU r55 x_62) z) (Gn r55 x_62 class_1 x):=by
 obtain ⟨w_7,known_8,i_7⟩:=x
 refine sq (sq (bx H λ x94 h245 H=>rg (tr (so1 (encN:=Ab) 1 2 h245) (sno (encN:=Ab) (enc:=Ae) h245 [.own 1 (x94.States.map Ae),.own 1 (x94.Costs.map Ae)] x94.States 2 1 0 1)) (ck 6 (sp (As 1 2 h245) (ck 1 (sp (BT (encN:=Ab) (row:=[.osl 4 1 0 (x94.States.length),.own 1 (x94.Costs.map Ae)]) (k:=1) (sz:=2) (off:=0) (t:=ty 32) (v:=.osl 4 1 0 (x94.States.length)) h245) (ck 2 (en (cn H (λ H=>?_) (λ H=>?_))))))))))
 ·refine sk (qz (sq (bk 5 (sq (bx H λ x95 h246 H=>rg (tr (tr (tr (tr (tr (sni (encN:=Ab) (xs:=w_7.Columns) (n:=x_62) (enc:=Ae) [.osl 4 1 0 (x94.States.length),.own 1 (x94.Costs.map Ae)] x94.States 2 1 0 4 1) (scl (encN:=Ab) (xss:=w_7.Columns) x_62 [.own 1 (x94.States.map Ae),.own 1 (x94.Costs.map Ae)] 2 1 x94)) (sn 54 1 2 (lsS w_7.Columns x_62.toNat x94))) (snc 0 6 1 2 (lsS w_7.Columns x_62.toNat x94))) (so1 (encN:=Ab) 1 2 h246)) (sno (encN:=Ab) (enc:=Ae) h246 [.own 1 (x95.States.map Ae),.own 1 (x95.Costs.map Ae)] x95.States 2 1 0 1)) (ck 5 (sp (As 1 2 h246) (ck 1 (sp (BT (encN:=Ab) (row:=[.osl 5 1 0 (x95.States.length),.own 1 (x95.Costs.map Ae)]) (k:=1) (sz:=2) (off:=0) (t:=ty 32) (v:=.osl 5 1 0 (x95.States.length)) h246) (ck 1 (bx H λ x96 h247 H=>sp (As 5 1 h247) (sp (Ct Ae 5 0 (ty 3) h247) (ck 1 (en (sj (λ (x:Ac)=>ZW r55 x_62 class_1 known_8 i_7 x96 x) (λ (x:Ac)=>BG n r55 x_62 class_1 known_8 i_7 x96 x) z ?_ (λ hFTr_writer_reach_J2=>?_))))))))))))))))
  ·intro w_9 H
   exact sr (ck 5 (bx H λ x97 h248 H=>sp (Ao (eL Aj) h248) (ck 1 (sp (AE Aj x97) (ck 1 (en (bk 6 (bx H λ y66 h252 H=>lX KS h252 (gP [1,2,4,5,6,7,32,33,96,97,98] [0,1,2,3] (po1 (pn1 Ab w_9.Columns (po1 (pn1 (nL 1 eB) known_8 (Pl.z)))))) rfl λ s hE53=>qH (qN (qs (hE53) (rz (ck 3 (ae (by cases H;exact og (gP [1,2,4,5,6,7,32,33] [0,1,2,3] (po1 (pn1 Ab y66.1.Columns (po1 (pn1 (nL 1 eB) y66.2 (Pl.z))))))))))))))))))))
  refine sq (rg (tr (tr (tr (tr (sni (encN:=Ab) (xs:=List.set w_7.Columns x_62.toNat x94) (n:=x_62) (enc:=Ae) [.osl 5 1 0 (x95.States.length),.own 1 (x95.Costs.map Ae)] x95.States 2 1 0 5 1) (scl (encN:=Ab) (xss:=List.set w_7.Columns x_62.toNat x94) x_62 [.own 1 (x95.States.map Ae),.own 1 (x95.Costs.map Ae)] 2 1 x95)) (sn 54 1 2 (lsS (List.set w_7.Columns x_62.toNat x94) x_62.toNat x95))) (sn 66 1 2 (lsS (List.set w_7.Columns x_62.toNat x94) x_62.toNat x95))) (snc 0 6 1 2 (lsS (List.set w_7.Columns x_62.toNat x94) x_62.toNat x95))) (ck 5 (bx H λ x99 h253 H=>sp (Ao Ah h253) (ck 3 (bx H λ gd7 h254 H=>so (H4 h254) (ck 2 (en (cn H (λ H=>?_) (λ H=>?_)))))))))
  ·exact rz (ck 5 (ae (qs (gP [1,2,4,5,6,7,8,32,33] [0,1,2,3] (po1 (pn1 Ab (List.set (List.set w_7.Columns x_62.toNat x94) x_62.toNat x95) (po1 (pn1 (nL 1 eB) known_8 (Pl.z)))))) (hFTr_writer_reach_J2 ({ T:=w_7.T,S:=w_7.S,States:=w_7.States,Arcs:=w_7.Arcs,Columns:=List.set (List.set w_7.Columns x_62.toNat x94) x_62.toNat x95,Last:=x_62 }:Ac) H))))
  ·exact sk (qs (gP [1,2,4,5,6,7,8,32,33] [0,1,2,3] (po1 (pn1 Ab (List.set (List.set w_7.Columns x_62.toNat x94) x_62.toNat x95) (po1 (pn1 (nL 1 eB) known_8 (Pl.z)))))) (hFTr_writer_reach_J2 ({ T:=w_7.T,S:=w_7.S,States:=w_7.States,Arcs:=w_7.Arcs,Columns:=List.set (List.set w_7.Columns x_62.toNat x94) x_62.toNat x95,Last:=w_7.Last }:Ac) H))
 ·exact ex 4 (qx (by cases H;exact xo rfl (tr (tr (tr (tr (sni (encN:=Ab) (xs:=w_7.Columns) (n:=x_62) (enc:=Ae) [.osl 4 1 0 (x94.States.length),.own 1 (x94.Costs.map Ae)] x94.States 2 1 0 4 1) (scl (encN:=Ab) (xss:=w_7.Columns) x_62 [.own 1 (x94.States.map Ae),.own 1 (x94.Costs.map Ae)] 2 1 x94)) (sn 54 1 2 (lsS w_7.Columns x_62.toNat x94))) (snc 0 6 1 2 (lsS w_7.Columns x_62.toNat x94))) (gP [1,2,4,5,32,33] [0,1,2,3] (po1 (pn1 Ab (List.set w_7.Columns x_62.toNat x94) (po1 (pn1 (nL 1 eB) known_8 (Pl.z)))))))))
theorem KU (x:(Ac×(List (List Bool))×Int)) (z:((Ac×(List (List Bool))×Int)⊕Ac)) (H:BI n r55 x.1 x.2.1 x.2.2=some z):WP (cxk 131 2) (Ax Try.f58) [1,1,1,1,1,1,0,0] (Av 2 (Gp r55) (LV) z) (Gp r55 x):=by
 obtain ⟨w_6,known_7,x_62⟩:=x
 refine sr (ck 1 (en (sq (cn H (λ H=>?_) (λ H=>?_)))))
 ·refine sk (qz (sq (bk 3 (sr (ck 2 (en (sr (ck 1 (en (sj (λ (x:Int)=>JcR r55 w_6 known_7 x_62 x) (λ (x:Int)=>Bl n r55 w_6 known_7 x_62 x) z ?_ (λ hFTr_writer_reach_J1=>?_)))))))))))
  ·intro class_1 H
   exact sq (sr (ck 1 (en (bk 4 (bx H λ y67 h255 H=>lX KT h255 (gP [1,2,4,5,6,7,32,33] [0,1,2,3] (po1 (pn1 Ab w_6.Columns (po1 (pn1 (nL 1 eB) known_7 (Pl.z)))))) rfl λ s hE54=>qH (qs (hE54) (sq (bx H λ x100 h256 H=>rg (tr (so1 (encN:=Ab) 1 2 h256) (sno (encN:=Ab) (enc:=Ae) h256 [.own 1 (x100.States.map Ae),.own 1 (x100.Costs.map Ae)] x100.States 2 1 0 1)) (ck 5 (sp (As 1 2 h256) (ck 1 (sp (BT (encN:=Ab) (row:=[.osl 4 1 0 (x100.States.length),.own 1 (x100.Costs.map Ae)]) (k:=1) (sz:=2) (off:=0) (t:=ty 32) (v:=.osl 4 1 0 (x100.States.length)) h256) (bx H λ r58 h257 H=>lt [4] (JcK h257) (bx H λ _ h258 H=>en (bx H λ x101 h259 H=>rg (tr (tr (tr (tr (tr (tr (tr (sn 124 4 1 (Uu h258)) (snr (encN:=Ab) (xs:=y67.1.Columns) (n:=x_62) [.osl 4 1 0 (x100.States.length),.own 1 (x100.Costs.map Ae)] 2 1 0 4 1 (Uu h258))) (sni (encN:=Ab) (xs:=y67.1.Columns) (n:=x_62) (enc:=Ae) [.osl 4 1 0 (r58.length),.own 1 (x100.Costs.map Ae)] r58 2 1 0 4 1)) (scl (encN:=Ab) (xss:=y67.1.Columns) x_62 [.own 1 (r58.map Ae),.own 1 (x100.Costs.map Ae)] 2 1 ({ States:=r58,Costs:=x100.Costs }:AD))) (sn 120 1 2 (lsS y67.1.Columns x_62.toNat ({ States:=r58,Costs:=x100.Costs }:AD)))) (snc 0 6 1 2 (lsS y67.1.Columns x_62.toNat ({ States:=r58,Costs:=x100.Costs }:AD)))) (so1 (encN:=(nL 1 eB)) 3 1 h259)) (sno (encN:=(nL 1 eB)) (enc:=eB) h259 [.own 1 (x101.map eB)] x101 1 3 0 1)) (ck 2 (bx H λ gd8 h260 H=>sp (Vh 3 1 0 5 (j:=0) h260) (sp (BT (encN:=(nL 1 eB)) (row:=[.osl 5 1 0 (x101.length)]) (k:=3) (sz:=1) (off:=0) (t:=ty 108) (v:=.osl 5 1 0 (x101.length)) h259) (xz (xok _ _) (xs:=x101) eB (false:Bool) 5 1 (ae (qN (qz (rg (tr (tr (tr (sn 129 5 1 (lrS (x101.length) (false:Bool))) (snr (encN:=(nL 1 eB)) (xs:=y67.2) (n:=Bv x_62 5) [.osl 5 1 0 (x101.length)] 1 3 0 5 1 (lrS (x101.length) (false:Bool)))) (sni (encN:=(nL 1 eB)) (xs:=y67.2) (n:=Bv x_62 5) (enc:=eB) [.osl 5 1 0 (List.length (List.replicate (x101.length) (false:Bool)))] (List.replicate (x101.length) (false:Bool)) 1 3 0 5 1)) (scl (encN:=(nL 1 eB)) (xss:=y67.2) (Bv x_62 5) [.own 1 (List.map eB (List.replicate (x101.length) (false:Bool)))] 1 3 (List.replicate (x101.length) (false:Bool)))) (ck 2 (ae (by cases H;exact og (gP [1,2,4,32,33] [0,1,2,3] (po1 (pn1 Ab (List.set y67.1.Columns x_62.toNat ({ States:=r58,Costs:=x100.Costs }:AD)) (po1 (pn1 (nL 1 eB) (List.set y67.2 (Int.toNat (Bv x_62 5)) (List.replicate (x101.length) (false:Bool))) (Pl.z))))))))))))))))))))))))))))))))
  refine sr (ck 7 (en (cn H (λ H=>?_) (λ H=>?_))))
  ·exact rz (ck 5 (bx H λ b5 h261 H=>sp (GX h261) (bx H λ r59 h262 H=>ca false (HK h262) (ck 1 (ae (qs (gP [1,2,4,5,6,32,33] [0,1,2,3] (po1 (pn1 Ab w_6.Columns (po1 (pn1 (nL 1 eB) known_7 (Pl.z)))))) (hFTr_writer_reach_J1 r59 H)))))))
  ·exact sk (qs (gP [1,2,4,5,6,32,33] [0,1,2,3] (po1 (pn1 Ab w_6.Columns (po1 (pn1 (nL 1 eB) known_7 (Pl.z)))))) (hFTr_writer_reach_J1 0 H))
 ·exact ex 2 (qx (by cases H;exact xo rfl (gP [] [0,1] (po1 (pn1 Ab w_6.Columns (Pl.z))))))
theorem Nl {z} (H:CS n b0_=some z):BO Try.prog 58 [.ptr 0 0] [some (.box (Am b0_ (.osl 1 2 0 (b0_.Columns.length)))),some (.narr 2 (b0_.Columns.map Ab))] 2 (.tup []) [some (.box (Am z (.osl 1 2 0 (z.Columns.length)))),some (.narr 2 (z.Columns.map Ab))]:=by
 exact fL 131 2 (JcL b0_) Try.func58 (sr (ck 1 (en (sr (ck 1 (en (sq (sq (rg (tr (tr (JeE 3 [.nil,.nil,.nil,.nil,.nil] (by kernel_rfl)) (Jbp (sz:=1) (es:=[[.nil],[.nil],[.nil],[.nil],[.nil]]) 3 (List.map (nL 1 eB) ([[],[],[],[],[]]:List (List Bool))) (by kernel_rfl) (by kernel_rfl))) (JjE 2 3 1 (by kernel_rfl))) (ck 1 (en (bk 0 (bx H λ y65 h243 H=>lX KR h243 (gP [1,2,13] [0,1,2,3] (po1 (pn1 Ab b0_.Columns (po1 (pn1 (nL 1 eB) ([[],[],[],[],[]]:List (List Bool)) (Pl.z)))))) rfl λ s hE52=>qH (qs (hE52) (sr (xm (xok _ _) (ck 1 (en (sr (ck 1 (bx H λ r55 h244 H=>xcP (xok _ _) [3,2,0,1] (Gk h244) (pn1 (nL 1 eB) y65 (po1 (po1 (pn1 Ab b0_.Columns (Pl.z))))) (tb (f:=Ds (CD [3,2,0,1] 4 4)) [some (.box (Am r55.1 (.osl 1 2 0 (r55.1.Columns.length)))),some (.narr 2 (r55.1.Columns.map Ab)),some (.box [.ptr 0 0]),some (.narr 1 (r55.2.map (nL 1 eB)))] (po1 (pn1 Ab r55.1.Columns (po1 (pn1 (nL 1 eB) r55.2 (Pl.z))))) (en (sr (ck 6 (en (bk 2 (bx H λ y68 h263 H=>lX KU h263 (gP [1,2,4,32,33] [0,1,2,3] (po1 (pn1 Ab r55.1.Columns (po1 (pn1 (nL 1 eB) r55.2 (Pl.z)))))) rfl λ s hE55=>qH (by cases H;exact pL' (rl (s':=JcM z) (tr (hE55) (gP [] [0,1] (po1 (pn1 Ab z.Columns (Pl.z)))))))))))))))))))))))))))))))))))
end
section
variable (p0_:Int) (p1_:Bool) (b1_0_:Int) (b2_0_:Int) (b3_:Ac) (x_65:Ac) (x_66:Bool) (x104:(List AB)) (x_67:Ac) (better_7:Bool) (x_68:Int) (x_69:Ac) (better_8:Bool) (x_70:Ac) (better_9:Bool)
def JcU:St:=⟨(0,.d (.int .i64 p0_))::(1,.d (.bool p1_))::(2,.ptr 0 0)::(3,.ptr 1 0)::(4,.ptr 2 0)::[],[some (.box [.ptr 3 0]),some (.box [.eptr 4 2 (0+Int.toNat b1_0_) 0]),some (.box [.d (.int .i64 b2_0_)]),some (.box (Am b3_ (.osl 4 2 0 (b3_.Columns.length)))),some (.narr 2 (b3_.Columns.map Ab))]⟩
def JcV:St:=⟨(7,.d (.bool x_66))::[],[some (.box [.ptr 3 0]),some (.box [.eptr 4 2 (0+Int.toNat b1_0_) 0]),some (.box [.d (.int .i64 b2_0_)]),some (.box (Am x_65 (.osl 4 2 0 (x_65.Columns.length)))),some (.narr 2 (x_65.Columns.map Ab))]⟩
def JcW:St:=⟨(0,.d (.int .i64 p0_))::(1,.d (.bool p1_))::(2,.ptr 0 0)::(3,.ptr 1 0)::(4,.ptr 2 0)::(8,.d (.bool better_7))::(27,.d (.sl (x104.map Aj)))::(28,.d (.int .i64 ((x104.length:Nat):Int)))::(29,.d (.int .i64 x_68))::[],[some (.box [.ptr 3 0]),some (.box [.eptr 4 2 (0+Int.toNat b1_0_) 0]),some (.box [.d (.int .i64 b2_0_)]),some (.box (Am x_67 (.osl 4 2 0 (x_67.Columns.length)))),some (.narr 2 (x_67.Columns.map Ab))]⟩
def JcX:St:=⟨(8,.d (.bool better_8))::[],[some (.box [.ptr 3 0]),some (.box [.eptr 4 2 (0+Int.toNat b1_0_) 0]),some (.box [.d (.int .i64 b2_0_)]),some (.box (Am x_69 (.osl 4 2 0 (x_69.Columns.length)))),some (.narr 2 (x_69.Columns.map Ab))]⟩
def JcY:St:=⟨(0,.d (.int .i64 p0_))::(1,.d (.bool p1_))::(2,.ptr 0 0)::(3,.ptr 1 0)::(4,.ptr 2 0)::(8,.d (.bool better_9))::(27,.d (.sl (x104.map Aj)))::(28,.d (.int .i64 ((x104.length:Nat):Int)))::(29,.d (.int .i64 x_68))::[],[some (.box [.ptr 3 0]),some (.box [.eptr 4 2 (0+Int.toNat b1_0_) 0]),some (.box [.d (.int .i64 b2_0_)]),some (.box (Am x_70 (.osl 4 2 0 (x_70.Columns.length)))),some (.narr 2 (x_70.Columns.map Ab))]⟩
def J4:(Ac×Bool)->Ex->St->Prop:=xX 5 0 (λ (y:(Ac×Bool))=>JcX b1_0_ b2_0_ y.1 y.2)
def FS:(Ac×Bool×Int)->St:=(λ (x:(Ac×Bool×Int))=>JcW p0_ p1_ b1_0_ b2_0_ x104 x.1 x.2.1 x.2.2)
variable {p0_ p1_ b1_0_ b2_0_ b3_ x_65 x_66 x104 x_67 better_7 x_68 x_69 better_8 x_70 better_9}
theorem JB (x:(Ac×Bool×Int)) (z:((Ac×Bool×Int)⊕(Ac×Bool))) (H:Bd n p0_ p1_ b1_0_ b2_0_ x104 x.1 x.2.1 x.2.2=some z):WP (cxk 104 5) (Ax Try.f75) [1,1,0,1,0,0] (Av 5 (FS p0_ p1_ b1_0_ b2_0_ x104) (J4 b1_0_ b2_0_) z) (FS p0_ p1_ b1_0_ b2_0_ x104 x):=by
 obtain ⟨x_67,better_7,x_68⟩:=x
 refine sr (ck 1 (en (sq (cn H (λ H=>?_) (λ H=>?_)))))
 ·refine sk (qz (sj (λ (x:(Ac×Bool))=>JcY p0_ p1_ b1_0_ b2_0_ x104 x_68 x.1 x.2) (λ (x:(Ac×Bool))=>Bc n x_68 x.1 x.2) z ?_ (λ hFTr_writer_price_1_J1=>?_)))
  ·rintro ⟨x_70,better_9⟩ H
   exact rz (ck 2 (ae (by cases H;exact og (gP [0,1,2,3,4,8,27,28,29] [0,1,2,3,4] (po1 (po1 (po1 (po1 (pn1 Ab x_70.Columns (Pl.z))))))))))
  refine bk 1 (sr (bx H λ x105 h267 H=>sp (Ao Aj h267) (ck 3 (en (sr (ck 4 (bx H λ r60 h268 H=>ltP [3,4] (DZ h268) (po1 (pn1 Ab x_67.Columns (Pl.z))) (tb (f:=Ds (CD [3,4] 6 2)) [some (.box [.ptr 3 0]),some (.box [.eptr 4 2 (0+Int.toNat b1_0_) 0]),some (.box [.d (.int .i64 b2_0_)]),some (.box (Am x_67 (.osl 4 2 0 (x_67.Columns.length)))),some (.narr 2 (x_67.Columns.map Ab)),some (.box [.d (.int .i64 x105.Rule),.d (.int .i64 x105.To)])] (po1 (po1 (po1 (po1 (pn1 Ab x_67.Columns (po1 (Pl.z))))))) (ck 5 (en (sq (sr (ck 5 (gc 1 (!(!r60.2)) (ck 1 (gc 1 (!(!r60.2)) (pO (en (cn H (λ H=>?_) (λ H=>?_))))))))))))))))))))
  ·exact ex 1 (qx (qH (qs (gP [0,1,2,3,4,8,27,28,29] [0,1,2,3,4] (po1 (po1 (po1 (po1 (pn1 Ab x_67.Columns (Pl.z))))))) (hFTr_writer_price_1_J1 (x_67,better_7) H))))
  ·refine sk (qz (sr (ck 5 (bx H λ x106 h269 H=>sp (As 4 2 h269) (ck 2 (bx H λ r61 h270 H=>cb (ks:=[4]) (obl:=[(0+Int.toNat r60.1+1,List.length (x_67.Columns.map Ab)),(Oo (x_67.Columns.map Ab),0)]) false (leK (Jgw (encN:=Ab) h269) (leK (JeN λ _=>rfl) (leZ))) (Dt (Jbx (encN:=Ab) (encD:=Mr) h269 λ _=>rfl) (Dt rfl rfl)) (Fv h270) (Or.inr trivial) rfl (ck 1 (en (sr (ck 8 (bx H λ x107 h271 H=>sp (Ao An h271) (ck 2 (sp (AE eU8 x107.Cells) (ck 2 (en (sq (bx H λ x108 h272 H=>rg (tr (so1 (encN:=Ab) 4 2 h272) (sno (encN:=Ab) (enc:=Ae) h272 [.own 1 (x108.States.map Ae),.own 1 (x108.Costs.map Ae)] x108.Costs 2 4 1 1)) (ck 4 (gc 2 (decide (r61>=0)) (sE (g:=decide (r61>=0)) (λ hg=>BT (encN:=Ab) (row:=[.own 1 (x108.States.map Ae),.osl 6 1 0 (x108.Costs.length)]) (k:=4) (sz:=2) (off:=1) (t:=ty 32) (v:=.osl 6 1 0 (x108.Costs.length)) h272) (ck 1 (bx H λ x109 h273 H=>sE (λ hg=>As 6 1 (Bq h273 hg)) (sE (g:=decide (r61>=0)) (λ hg=>Ct Ae 6 0 (ty 3) (Bq h273 hg)) (gc 2 (decide (r61>=0)) (ck 2 (gc 2 ((decide (r61>=0))&&!(decide (x109<0))) (sE (g:=((decide (r61>=0))&&!(decide (x109<0)))) (λ hg=>BT (encN:=Ab) (row:=[.own 1 (x108.States.map Ae),.osl 6 1 0 (x108.Costs.length)]) (k:=4) (sz:=2) (off:=1) (t:=ty 32) (v:=.osl 6 1 0 (x108.Costs.length)) h272) (ck 1 (bx H λ x110 h274 H=>sE (λ hg=>As 6 1 (Bq h274 hg)) (sE (g:=((decide (r61>=0))&&!(decide (x109<0)))) (λ hg=>Ct Ae 6 0 (ty 3) (Bq h274 hg)) (gc 1 ((decide (r61>=0))&&!(decide (x109<0))) (pG (g:=decide (r61>=0)) (v:=.d (.bool ((decide (x109<0))||(decide (Ar .i64 r61 ((x107.Cells.length:Nat):Int)<x110))))) (λ hg=>GH (c:=.gv (decide (r61>=0)) (.d (.bool (decide (x109<0))))) (a:=.d (.bool true)) (b:=.gv ((decide (r61>=0))&&!(decide (x109<0))) (.d (.bool (decide (Ar .i64 r61 ((x107.Cells.length:Nat):Int)<x110))))) rfl rfl rfl ((λ hh=>hh) hg) trivial (λ ht=>by rw [(λ hh=>hh) hg,ht];rfl)) (pA (en (cn H (λ H=>?_) (λ H=>?_))))))))))))))))))))))))))))))))))))
   ·exact sq (bx H λ x111 h275 H=>rg (tr (tr (tr (tr (tr (sni (encN:=Ab) (xs:=x_67.Columns) (n:=b1_0_) (enc:=Ae) [.own 1 (x108.States.map Ae),.osl 6 1 0 (x108.Costs.length)] x108.Costs 2 4 1 6 1) (scl (encN:=Ab) (xss:=x_67.Columns) b1_0_ [.own 1 (x108.States.map Ae),.own 1 (x108.Costs.map Ae)] 2 4 x108)) (sn 53 4 2 (lsS x_67.Columns b1_0_.toNat x108))) (snc 3 6 4 2 (lsS x_67.Columns b1_0_.toNat x108))) (so1 (encN:=Ab) 4 2 h275)) (sno (encN:=Ab) (enc:=Ae) h275 [.own 1 (x111.States.map Ae),.own 1 (x111.Costs.map Ae)] x111.Costs 2 4 1 1)) (ck 3 (sp (BT (encN:=Ab) (row:=[.own 1 (x111.States.map Ae),.osl 7 1 0 (x111.Costs.length)]) (k:=4) (sz:=2) (off:=1) (t:=ty 32) (v:=.osl 7 1 0 (x111.Costs.length)) h275) (ck 2 (bx H λ x112 h276 H=>sp (As 7 1 h276) (bx H λ l37 h277 H=>stA Ae 7 0 (ty 3) h276 h277 (en (rg (tr (tr (tr (tr (tr (sn 98 7 1 (A5 h277)) (snr (encN:=Ab) (xs:=List.set x_67.Columns b1_0_.toNat x108) (n:=b1_0_) [.own 1 (x111.States.map Ae),.osl 7 1 0 (x111.Costs.length)] 2 4 1 7 1 (A5 h277))) (sni (encN:=Ab) (xs:=List.set x_67.Columns b1_0_.toNat x108) (n:=b1_0_) (enc:=Ae) [.own 1 (x111.States.map Ae),.osl 7 1 0 (l37.length)] l37 2 4 1 7 1)) (scl (encN:=Ab) (xss:=List.set x_67.Columns b1_0_.toNat x108) b1_0_ [.own 1 (x111.States.map Ae),.own 1 (l37.map Ae)] 2 4 ({ States:=x111.States,Costs:=l37 }:AD))) (sn 53 4 2 (lsS (List.set x_67.Columns b1_0_.toNat x108) b1_0_.toNat ({ States:=x111.States,Costs:=l37 }:AD)))) (snc 3 6 4 2 (lsS (List.set x_67.Columns b1_0_.toNat x108) b1_0_.toNat ({ States:=x111.States,Costs:=l37 }:AD)))) (ck 1 (ae (qN (qs (gP [0,1,2,3,4,8,27,28,29] [0,1,2,3,4] (po1 (po1 (po1 (po1 (pn1 Ab (List.set (List.set x_67.Columns b1_0_.toNat x108) b1_0_.toNat ({ States:=x111.States,Costs:=l37 }:AD)) (Pl.z))))))) (hFTr_writer_price_1_J1 (({ T:=x_67.T,S:=x_67.S,States:=x_67.States,Arcs:=x_67.Arcs,Columns:=List.set (List.set x_67.Columns b1_0_.toNat x108) b1_0_.toNat ({ States:=x111.States,Costs:=l37 }:AD),Last:=x_67.Last }:Ac),true) H)))))))))))))
   ·exact sk (qN (qs (tr (tr (tr (tr (sni (encN:=Ab) (xs:=x_67.Columns) (n:=b1_0_) (enc:=Ae) [.own 1 (x108.States.map Ae),.osl 6 1 0 (x108.Costs.length)] x108.Costs 2 4 1 6 1) (scl (encN:=Ab) (xss:=x_67.Columns) b1_0_ [.own 1 (x108.States.map Ae),.own 1 (x108.Costs.map Ae)] 2 4 x108)) (sn 53 4 2 (lsS x_67.Columns b1_0_.toNat x108))) (snc 3 6 4 2 (lsS x_67.Columns b1_0_.toNat x108))) (gP [0,1,2,3,4,8,27,28,29] [0,1,2,3,4] (po1 (po1 (po1 (po1 (pn1 Ab (List.set x_67.Columns b1_0_.toNat x108) (Pl.z)))))))) (hFTr_writer_price_1_J1 (({ T:=x_67.T,S:=x_67.S,States:=x_67.States,Arcs:=x_67.Arcs,Columns:=List.set x_67.Columns b1_0_.toNat x108,Last:=x_67.Last }:Ac),better_7) H)))
 ·exact ex 0 (qx (by cases H;exact xo rfl (gP [8] [0,1,2,3,4] (po1 (po1 (po1 (po1 (pn1 Ab x_67.Columns (Pl.z)))))))))
theorem Gq {z} (H:BV n p0_ p1_ b1_0_ b2_0_ b3_=some z):BO Try.prog 75 [.d (.int .i64 p0_),.d (.bool p1_),.ptr 0 0,.ptr 1 0,.ptr 2 0] [some (.box [.ptr 3 0]),some (.box [.eptr 4 2 (0+Int.toNat b1_0_) 0]),some (.box [.d (.int .i64 b2_0_)]),some (.box (Am b3_ (.osl 4 2 0 (b3_.Columns.length)))),some (.narr 2 (b3_.Columns.map Ab))] 5 (.d (.bool z.2)) [some (.box [.ptr 3 0]),some (.box [.eptr 4 2 (0+Int.toNat b1_0_) 0]),some (.box [.d (.int .i64 b2_0_)]),some (.box (Am z.1 (.osl 4 2 0 (z.1.Columns.length)))),some (.narr 2 (z.1.Columns.map Ab))]:=by
 exact fL 104 5 (JcU p0_ p1_ b1_0_ b2_0_ b3_) Try.func75 (sr (ck 1 (en (sr (ck 1 (en (sq (sq (bx H λ x102 h264 H=>rg (tr (so1 (encN:=Ab) 4 2 h264) (sno (encN:=Ab) (enc:=Ae) h264 [.own 1 (x102.States.map Ae),.own 1 (x102.Costs.map Ae)] x102.States 2 4 0 1)) (ck 7 (sp (BT (encN:=Ab) (row:=[.osl 5 1 0 (x102.States.length),.own 1 (x102.Costs.map Ae)]) (k:=4) (sz:=2) (off:=0) (t:=ty 32) (v:=.osl 5 1 0 (x102.States.length)) h264) (ck 1 (bx H λ x103 h265 H=>sp (As 5 1 h265) (sp (Ct Ae 5 0 (ty 3) h265) (bx H λ x104 h266 H=>sp (Ao (eL Aj) h266) (ck 1 (sp (AE Aj x104) (ck 1 (en (bk 0 (bx H λ y69 h278 H=>lX JB h278 (tr (tr (tr (sni (encN:=Ab) (xs:=b3_.Columns) (n:=b1_0_) (enc:=Ae) [.osl 5 1 0 (x102.States.length),.own 1 (x102.Costs.map Ae)] x102.States 2 4 0 5 1) (scl (encN:=Ab) (xss:=b3_.Columns) b1_0_ [.own 1 (x102.States.map Ae),.own 1 (x102.Costs.map Ae)] 2 4 x102)) (snc 3 6 4 2 (lsS b3_.Columns b1_0_.toNat x102))) (gP [0,1,2,3,4,8,27,28,29] [0,1,2,3,4] (po1 (po1 (po1 (po1 (pn1 Ab (List.set b3_.Columns b1_0_.toNat x102) (Pl.z)))))))) rfl λ s hE56=>qH (qs (hE56) (sr (ck 2 (en (re (by cases H;exact pL (rl (s':=JcV b1_0_ b2_0_ y69.1 y69.2) (gP [7] [0,1,2,3,4] (po1 (po1 (po1 (po1 (pn1 Ab y69.1.Columns (Pl.z)))))))))))))))))))))))))))))))))))
end
end Go.AI
end
section
namespace Go.AI
open Go.Proofs
set_option maxRecDepth 10000
variable {n:Nat}
section
variable (b0_:Ac) (x_71:Ac) (w_13:Ac) (place_3:Int) (x_72:Ac) (x114:AD) (l38:(List Int)) (x115:AD) (r_1:(List Int)) (x_73:Int) (w_14:Ac) (r_2:(List Int)) (x121:AD) (w_15:Ac) (x_74:Int) (w_16:Ac) (w_17:Ac) (w_18:Ac) (x122:AD) (w_19:Ac) (better_10:Bool) (x_75:Int) (w_20:Ac) (better_11:Bool)
def JcZ:St:=⟨(0,.ptr 0 0)::[],[some (.box (Am b0_ (.osl 1 2 0 (b0_.Columns.length)))),some (.narr 2 (b0_.Columns.map Ab))]⟩
def Jc0:St:=⟨[],[some (.box (Am x_71 (.osl 1 2 0 (x_71.Columns.length)))),some (.narr 2 (x_71.Columns.map Ab))]⟩
def Jc1:St:=⟨(1,.ptr 2 0)::(2,.ptr 3 0)::[],[some (.box (Am w_13 (.osl 1 2 0 (w_13.Columns.length)))),some (.narr 2 (w_13.Columns.map Ab)),some (.box [.ptr 0 0]),some (.box [.d (.int .i64 place_3)])]⟩
def Jc2:St:=⟨[],[some (.box (Am x_72 (.osl 1 2 0 (x_72.Columns.length)))),some (.narr 2 (x_72.Columns.map Ab))]⟩
def Jc3:St:=⟨(1,.ptr 2 0)::(2,.ptr 3 0)::(3,.ptr 4 0)::(37,.osl 5 1 0 (x115.States.length))::(38,.d (.int .i64 ((x115.States.length:Nat):Int)))::(39,.d (.int .i64 x_73))::[],[some (.box (Am w_13 (.osl 1 2 0 (List.length (List.set w_13.Columns place_3.toNat ({ States:=x114.States,Costs:=l38 }:AD)))))),some (.narr 2 (List.set (List.map Ab (List.set w_13.Columns place_3.toNat ({ States:=x114.States,Costs:=l38 }:AD))) place_3.toNat [.osl 5 1 0 (x115.States.length),.own 1 (r_1.map Ae)])),some (.box [.ptr 0 0]),some (.box [.d (.int .i64 place_3)]),some (.box [.eptr 1 2 (0+Int.toNat place_3) 0]),some (.arr 1 (x115.States.map Ae))]⟩
def Jc4:St:=⟨(1,.ptr 2 0)::(2,.ptr 3 0)::(3,.ptr 4 0)::[],[some (.box (Am w_14 (.osl 1 2 0 (w_14.Columns.length)))),some (.narr 2 (w_14.Columns.map Ab)),some (.box [.ptr 0 0]),some (.box [.d (.int .i64 place_3)]),some (.box [.eptr 1 2 (0+Int.toNat place_3) 0])]⟩
def Jc5:St:=⟨(1,.ptr 2 0)::(2,.ptr 3 0)::(3,.ptr 4 0)::(37,.osl 5 1 0 (x115.States.length))::(38,.d (.int .i64 ((x115.States.length:Nat):Int)))::(39,.d (.int .i64 x_73))::[],[some (.box (Am w_13 (.osl 1 2 0 (List.length (List.set w_13.Columns place_3.toNat ({ States:=x114.States,Costs:=l38 }:AD)))))),some (.narr 2 (List.set (List.map Ab (List.set w_13.Columns place_3.toNat ({ States:=x114.States,Costs:=l38 }:AD))) place_3.toNat [.osl 5 1 0 (x115.States.length),.own 1 (r_2.map Ae)])),some (.box [.ptr 0 0]),some (.box [.d (.int .i64 place_3)]),some (.box [.eptr 1 2 (0+Int.toNat place_3) 0]),some (.arr 1 (x115.States.map Ae))]⟩
def LW:Ac->Ex->St->Prop:=xX 2 2 (λ (y:Ac)=>Jc4 place_3 y)
def Gr:((List Int)×Int)->St:=(λ (x:((List Int)×Int))=>Jc3 w_13 place_3 x114 l38 x115 x.1 x.2)
def Jc6:St:=⟨(1,.ptr 2 0)::(2,.ptr 3 0)::(3,.ptr 4 0)::(6,.clo 75 [.ptr 2 0,.ptr 4 0,.ptr 3 0])::(83,.d (.int .i64 ((x121.States.length:Nat):Int)))::(84,.d (.int .i64 x_74))::[],[some (.box (Am w_15 (.osl 1 2 0 (w_15.Columns.length)))),some (.narr 2 (w_15.Columns.map Ab)),some (.box [.ptr 0 0]),some (.box [.d (.int .i64 place_3)]),some (.box [.eptr 1 2 (0+Int.toNat place_3) 0])]⟩
def Jc7:St:=⟨(1,.ptr 2 0)::(2,.ptr 3 0)::(3,.ptr 4 0)::(6,.clo 75 [.ptr 2 0,.ptr 4 0,.ptr 3 0])::[],[some (.box (Am w_16 (.osl 1 2 0 (w_16.Columns.length)))),some (.narr 2 (w_16.Columns.map Ab)),some (.box [.ptr 0 0]),some (.box [.d (.int .i64 place_3)]),some (.box [.eptr 1 2 (0+Int.toNat place_3) 0])]⟩
def LX:Ac->Ex->St->Prop:=xX 2 4 (λ (y:Ac)=>Jc7 place_3 y)
def Gs:(Ac×Int)->St:=(λ (x:(Ac×Int))=>Jc6 place_3 x121 x.1 x.2)
def Z0:St:=⟨(1,.ptr 2 0)::(2,.ptr 3 0)::(3,.ptr 4 0)::(6,.clo 75 [.ptr 2 0,.ptr 4 0,.ptr 3 0])::[],[some (.box (Am w_17 (.osl 1 2 0 (w_17.Columns.length)))),some (.narr 2 (w_17.Columns.map Ab)),some (.box [.ptr 0 0]),some (.box [.d (.int .i64 place_3)]),some (.box [.eptr 1 2 (0+Int.toNat place_3) 0])]⟩
def Z1:St:=⟨(1,.ptr 2 0)::(2,.ptr 3 0)::[],[some (.box (Am w_18 (.osl 1 2 0 (w_18.Columns.length)))),some (.narr 2 (w_18.Columns.map Ab)),some (.box [.ptr 0 0]),some (.box [.d (.int .i64 place_3)])]⟩
def Z2:St:=⟨(1,.ptr 2 0)::(2,.ptr 3 0)::(3,.ptr 4 0)::(6,.clo 75 [.ptr 2 0,.ptr 4 0,.ptr 3 0])::(8,.d (.bool better_10))::(95,.d (.int .i64 ((x122.States.length:Nat):Int)))::(96,.d (.int .i64 x_75))::[],[some (.box (Am w_19 (.osl 1 2 0 (w_19.Columns.length)))),some (.narr 2 (w_19.Columns.map Ab)),some (.box [.ptr 0 0]),some (.box [.d (.int .i64 place_3)]),some (.box [.eptr 1 2 (0+Int.toNat place_3) 0])]⟩
def Z3:St:=⟨(1,.ptr 2 0)::(2,.ptr 3 0)::(3,.ptr 4 0)::(6,.clo 75 [.ptr 2 0,.ptr 4 0,.ptr 3 0])::(8,.d (.bool better_11))::[],[some (.box (Am w_20 (.osl 1 2 0 (w_20.Columns.length)))),some (.narr 2 (w_20.Columns.map Ab)),some (.box [.ptr 0 0]),some (.box [.d (.int .i64 place_3)]),some (.box [.eptr 1 2 (0+Int.toNat place_3) 0])]⟩
def LY:(Ac×Bool)->Ex->St->Prop:=xX 2 8 (λ (y:(Ac×Bool))=>Z3 place_3 y.1 y.2)
def Gt:(Ac×Bool×Int)->St:=(λ (x:(Ac×Bool×Int))=>Z2 place_3 x122 x.1 x.2.1 x.2.2)
def LZ:Ac->Ex->St->Prop:=xX 2 6 (λ (y:Ac)=>Z1 place_3 y)
def Gu:Ac->St:=(λ (x:Ac)=>Z0 place_3 x)
def L3:Ac->Ex->St->Prop:=xX 2 0 (λ (y:Ac)=>Jc2 y)
def Gv:(Ac×Int)->St:=(λ (x:(Ac×Int))=>Jc1 x.1 x.2)
variable {b0_ x_71 w_13 place_3 x_72 x114 l38 x115 r_1 x_73 w_14 r_2 x121 w_15 x_74 w_16 w_17 w_18 x122 w_19 better_10 x_75 w_20 better_11}
theorem KW (x:((List Int)×Int)) (z:(((List Int)×Int)⊕Ac)) (H:Bm n w_13 place_3 x114 l38 x115 x.1 x.2=some z):WP (cxk 109 2) (Ax Try.f59) [1,1,0,0,1,0,0,0,1,1,0,1,0,0] (Av 2 (Gr w_13 place_3 x114 l38 x115) (LW place_3) z) (Gr w_13 place_3 x114 l38 x115 x):=by
 obtain ⟨r_1,x_73⟩:=x
 refine sr (ck 1 (en (sq (cn H (λ H=>?_) (λ H=>?_)))))
 ·refine sk (qz (sj (λ (x:(List Int))=>Jc5 w_13 place_3 x114 l38 x115 x_73 x) (λ (x:(List Int))=>BJ n x_73 x) z ?_ (λ hFTr_writer_price_J1=>?_)))
  ·intro r_2 H
   exact rz (ck 2 (ae (by cases H;exact og (gP [1,2,3,37,38,39] [0,1,2,3,4,5] (po1 (Pl.n _ (nrH (n:=Int.toNat place_3) (row:=[.osl 5 1 0 (x115.States.length),.own 1 (r_2.map Ae)]) (row':=[.osl 5 1 0 (x115.States.length),.own 1 (r_2.map Ae)]) (nrM (encN:=Ab) (xss:=List.set w_13.Columns place_3.toNat ({ States:=x114.States,Costs:=l38 }:AD)) λ _=>rfl) rfl) (po1 (po1 (po1 (po1 (Pl.z)))))))))))
  refine bk 3 (sr (ck 1 (bx H λ x116 h283 H=>sp (As 5 1 h283) (sp (Ct Ae 5 0 (ty 3) h283) (ck 2 (en (sq (bx H λ x117 h284 H=>rg (sno (encN:=Ab) (enc:=Ae) h284 [.osl 5 1 0 (x115.States.length),.own 1 (r_1.map Ae)] r_1 2 1 1 1) (ck 3 (sp (BT (encN:=Ab) (row:=[.osl 5 1 0 (x115.States.length),.osl 6 1 0 (r_1.length)]) (k:=1) (sz:=2) (off:=1) (t:=ty 32) (v:=.osl 6 1 0 (r_1.length)) h284) (ck 1 (bx H λ x118 h285 H=>sp (As 6 1 h285) (bx H λ l39 h286 H=>stA Ae 6 0 (ty 3) h285 h286 (en (sq (rg (tr (tr (sn 47 6 1 (A5 h286)) (snr (encN:=Ab) (xs:=List.set w_13.Columns place_3.toNat ({ States:=x114.States,Costs:=l38 }:AD)) (n:=place_3) [.osl 5 1 0 (x115.States.length),.osl 6 1 0 (r_1.length)] 2 1 1 6 1 (A5 h286))) (sni (encN:=Ab) (xs:=List.set w_13.Columns place_3.toNat ({ States:=x114.States,Costs:=l38 }:AD)) (n:=place_3) (enc:=Ae) [.osl 5 1 0 (x115.States.length),.osl 6 1 0 (l39.length)] l39 2 1 1 6 1)) (ck 9 (gc 3 (place_3==((w_13.S.length:Nat):Int)) (ck 1 (gc 3 (place_3==((w_13.S.length:Nat):Int)) (ck 1 (bx H λ x119 h287 H=>sE (λ hg=>Ao Ah (Bq h287 hg)) (gc 1 (place_3==((w_13.S.length:Nat):Int)) (bx H λ r62 h288 H=>cG false (leZ) rfl (λ hg=>Mw (Bq h288 hg)) (Or.inl rfl) (B1 (λ hh=>hh) (B1 (λ hh=>hh) (D6))) rfl (pA (en (cn H (λ H=>?_) (λ H=>?_))))))))))))))))))))))))))))
  ·exact rg (sno (encN:=Ab) (enc:=Ae) h284 [.osl 5 1 0 (x115.States.length),.own 1 (l39.map Ae)] l39 2 1 1 1) (ck 3 (sp (BT (encN:=Ab) (row:=[.osl 5 1 0 (x115.States.length),.osl 7 1 0 (l39.length)]) (k:=1) (sz:=2) (off:=1) (t:=ty 32) (v:=.osl 7 1 0 (l39.length)) h284) (ck 1 (bx H λ x120 h289 H=>sp (As 7 1 h289) (bx H λ l40 h290 H=>stA Ae 7 0 (ty 3) h289 h290 (ae (qN (qs (tr (tr (tr (sn 74 7 1 (A5 h290)) (snr (encN:=Ab) (xs:=List.set w_13.Columns place_3.toNat ({ States:=x114.States,Costs:=l38 }:AD)) (n:=place_3) [.osl 5 1 0 (x115.States.length),.osl 7 1 0 (l39.length)] 2 1 1 7 1 (A5 h290))) (sni (encN:=Ab) (xs:=List.set w_13.Columns place_3.toNat ({ States:=x114.States,Costs:=l38 }:AD)) (n:=place_3) (enc:=Ae) [.osl 5 1 0 (x115.States.length),.osl 7 1 0 (l40.length)] l40 2 1 1 7 1)) (gP [1,2,3,37,38,39] [0,1,2,3,4,5] (po1 (Pl.n _ (nrH (n:=Int.toNat place_3) (row:=[.osl 5 1 0 (x115.States.length),.own 1 (l40.map Ae)]) (row':=[.osl 5 1 0 (x115.States.length),.own 1 (l40.map Ae)]) (nrM (encN:=Ab) (xss:=List.set w_13.Columns place_3.toNat ({ States:=x114.States,Costs:=l38 }:AD)) λ _=>rfl) rfl) (po1 (po1 (po1 (po1 (Pl.z))))))))) (hFTr_writer_price_J1 l40 H)))))))))
  ·exact sk (qN (qs (gP [1,2,3,37,38,39] [0,1,2,3,4,5] (po1 (Pl.n _ (nrH (n:=Int.toNat place_3) (row:=[.osl 5 1 0 (x115.States.length),.own 1 (l39.map Ae)]) (row':=[.osl 5 1 0 (x115.States.length),.own 1 (l39.map Ae)]) (nrM (encN:=Ab) (xss:=List.set w_13.Columns place_3.toNat ({ States:=x114.States,Costs:=l38 }:AD)) λ _=>rfl) rfl) (po1 (po1 (po1 (po1 (Pl.z)))))))) (hFTr_writer_price_J1 l39 H)))
 ·exact ex 2 (qx (by cases H;exact xo rfl (tr (tr (tr (sni (encN:=Ab) (xs:=List.set w_13.Columns place_3.toNat ({ States:=x114.States,Costs:=l38 }:AD)) (n:=place_3) (enc:=Ae) [.osl 5 1 0 (x115.States.length),.own 1 (r_1.map Ae)] x115.States 2 1 0 5 1) (scl (encN:=Ab) (xss:=List.set w_13.Columns place_3.toNat ({ States:=x114.States,Costs:=l38 }:AD)) place_3 [.own 1 (x115.States.map Ae),.own 1 (r_1.map Ae)] 2 1 ({ States:=x115.States,Costs:=r_1 }:AD))) (snc 0 6 1 2 (lsS (List.set w_13.Columns place_3.toNat ({ States:=x114.States,Costs:=l38 }:AD)) place_3.toNat ({ States:=x115.States,Costs:=r_1 }:AD)))) (gP [1,2,3] [0,1,2,3,4] (po1 (pn1 Ab (List.set (List.set w_13.Columns place_3.toNat ({ States:=x114.States,Costs:=l38 }:AD)) place_3.toNat ({ States:=x115.States,Costs:=r_1 }:AD)) (po1 (po1 (po1 (Pl.z))))))))))
theorem KX (x:(Ac×Int)) (z:((Ac×Int)⊕Ac)) (H:Bn n place_3 x121 x.1 x.2=some z):WP (cxk 109 2) (Ax Try.f59) [1,1,0,0,1,0,0,0,1,1,1,1,0,1,0,0] (Av 2 (Gs place_3 x121) (LX place_3) z) (Gs place_3 x121 x):=by
 obtain ⟨w_15,x_74⟩:=x
 refine sr (ck 1 (en (sq (cn H (λ H=>?_) (λ H=>?_)))))
 ·exact sk (qz (sq (bk 5 (sr (ck 2 (en (rz (ck 2 (bx H λ r63 h293 H=>xcP (xok _ _) [2,4,3,0,1] (Gq h293) (po1 (po1 (po1 (po1 (pn1 Ab w_15.Columns (Pl.z)))))) (tb (f:=Ds (CD [2,4,3,0,1] 5 5)) [some (.box (Am r63.1 (.osl 1 2 0 (r63.1.Columns.length)))),some (.narr 2 (r63.1.Columns.map Ab)),some (.box [.ptr 0 0]),some (.box [.d (.int .i64 place_3)]),some (.box [.eptr 1 2 (0+Int.toNat place_3) 0])] (po1 (pn1 Ab r63.1.Columns (po1 (po1 (po1 (Pl.z)))))) (ae (qN (qz (rz (ck 2 (ae (by cases H;exact og (gP [1,2,3,6,83,84] [0,1,2,3,4] (po1 (pn1 Ab r63.1.Columns (po1 (po1 (po1 (Pl.z))))))))))))))))))))))))
 ·exact ex 4 (qx (by cases H;exact xo rfl (gP [1,2,3,6] [0,1,2,3,4] (po1 (pn1 Ab w_15.Columns (po1 (po1 (po1 (Pl.z)))))))))
theorem KY (x:(Ac×Bool×Int)) (z:((Ac×Bool×Int)⊕(Ac×Bool))) (H:Bo n place_3 x122 x.1 x.2.1 x.2.2=some z):WP (cxk 109 2) (Ax Try.f59) [1,1,0,0,1,0,0,0,1,1,1,1,1,1,0,0,0,1,0,1,0,0] (Av 2 (Gt place_3 x122) (LY place_3) z) (Gt place_3 x122 x):=by
 obtain ⟨w_19,better_10,x_75⟩:=x
 refine sr (ck 1 (en (sq (cn H (λ H=>?_) (λ H=>?_)))))
 ·exact sk (qz (sq (bk 9 (sr (ck 2 (en (rz (ck 2 (bx H λ r64 h296 H=>xcP (xok _ _) [2,4,3,0,1] (Gq h296) (po1 (po1 (po1 (po1 (pn1 Ab w_19.Columns (Pl.z)))))) (tb (f:=Ds (CD [2,4,3,0,1] 5 5)) [some (.box (Am r64.1 (.osl 1 2 0 (r64.1.Columns.length)))),some (.narr 2 (r64.1.Columns.map Ab)),some (.box [.ptr 0 0]),some (.box [.d (.int .i64 place_3)]),some (.box [.eptr 1 2 (0+Int.toNat place_3) 0])] (po1 (pn1 Ab r64.1.Columns (po1 (po1 (po1 (Pl.z)))))) (ck 2 (pO (ck 1 (ae (qN (qz (rz (ck 2 (ae (by cases H;exact og (gP [1,2,3,6,8,95,96] [0,1,2,3,4] (po1 (pn1 Ab r64.1.Columns (po1 (po1 (po1 (Pl.z)))))))))))))))))))))))))))
 ·exact ex 8 (qx (by cases H;exact xo rfl (gP [1,2,3,6,8] [0,1,2,3,4] (po1 (pn1 Ab w_19.Columns (po1 (po1 (po1 (Pl.z)))))))))
theorem KZ (x:Ac) (z:(Ac⊕Ac)) (H:BK n place_3 x=some z):WP (cxk 109 2) (Ax Try.f59) [1,1,0,0,1,0,0,0,1,1,1,1,1,1,0,0] (Av 2 (Gu place_3) (LZ place_3) z) (Gu place_3 x):=by
 revert H
 generalize x=w_17
 intro H
 refine bk 7 (sr (ck 1 (en (sq (sq (bx H λ x122 h295 H=>rg (tr (so1 (encN:=Ab) 1 2 h295) (sno (encN:=Ab) (enc:=Ae) h295 [.own 1 (x122.States.map Ae),.own 1 (x122.Costs.map Ae)] x122.States 2 1 0 1)) (ck 3 (sp (BT (encN:=Ab) (row:=[.osl 5 1 0 (x122.States.length),.own 1 (x122.Costs.map Ae)]) (k:=1) (sz:=2) (off:=0) (t:=ty 32) (v:=.osl 5 1 0 (x122.States.length)) h295) (ck 2 (en (bk 8 (bx H λ y72 h297 H=>lX KY h297 (tr (tr (tr (sni (encN:=Ab) (xs:=w_17.Columns) (n:=place_3) (enc:=Ae) [.osl 5 1 0 (x122.States.length),.own 1 (x122.Costs.map Ae)] x122.States 2 1 0 5 1) (scl (encN:=Ab) (xss:=w_17.Columns) place_3 [.own 1 (x122.States.map Ae),.own 1 (x122.Costs.map Ae)] 2 1 x122)) (snc 0 6 1 2 (lsS w_17.Columns place_3.toNat x122))) (gP [1,2,3,6,8,95,96] [0,1,2,3,4] (po1 (pn1 Ab (List.set w_17.Columns place_3.toNat x122) (po1 (po1 (po1 (Pl.z)))))))) rfl λ s hE59=>qH (qs (hE59) (sr (ck 2 (en (cn H (λ H=>?_) (λ H=>?_))))))))))))))))))
 ·exact ex 6 (qX rfl (by cases H;exact xo rfl (gP [1,2] [0,1,2,3] (po1 (pn1 Ab y72.1.Columns (po1 (po1 (Pl.z))))))))
 ·exact sk (qN (by cases H;exact og (gP [1,2,3,6] [0,1,2,3,4] (po1 (pn1 Ab y72.1.Columns (po1 (po1 (po1 (Pl.z)))))))))
theorem K0 (x:(Ac×Int)) (z:((Ac×Int)⊕Ac)) (H:B9 n x.1 x.2=some z):WP (cxk 109 2) (Ax Try.f59) [1,1,0,0] (Av 2 (Gv) (L3) z) (Gv x):=by
 obtain ⟨w_13,place_3⟩:=x
 refine sq (sr (ck 2 (en (cn H (λ H=>?_) (λ H=>?_)))))
 ·exact sk (qz (sq (bk 1 (sc (sr (ck 5 (bx H λ x113 h279 H=>sp (As 1 2 h279) (ck 2 (en (sq (bx H λ x114 h280 H=>rg (tr (so1 (encN:=Ab) 1 2 h280) (sno (encN:=Ab) (enc:=Ae) h280 [.own 1 (x114.States.map Ae),.own 1 (x114.Costs.map Ae)] x114.States 2 1 0 1)) (ck 4 (sp (BT (encN:=Ab) (row:=[.osl 5 1 0 (x114.States.length),.own 1 (x114.Costs.map Ae)]) (k:=1) (sz:=2) (off:=0) (t:=ty 32) (v:=.osl 5 1 0 (x114.States.length)) h280) (ck 1 (bx H λ l38 h281 H=>sp (SK Ae 1 h281) (ck 2 (sp (KI (encN:=Ab) (row:=[.osl 5 1 0 (x114.States.length),.own 1 (x114.Costs.map Ae)]) (row':=[.osl 5 1 0 (x114.States.length),.osl 6 1 0 (l38.length)]) (k:=1) (sz:=2) (off:=1) (t:=ty 32) (v:=.osl 6 1 0 (l38.length)) h280) (en (sq (sq (bx H λ x115 h282 H=>rg (tr (tr (tr (tr (tr (tr (sni (encN:=Ab) (xs:=w_13.Columns) (n:=place_3) (enc:=Ae) [.osl 5 1 0 (x114.States.length),.osl 6 1 0 (l38.length)] x114.States 2 1 0 5 1) (sni (encN:=Ab) (xs:=w_13.Columns) (n:=place_3) (enc:=Ae) [.own 1 (x114.States.map Ae),.osl 6 1 0 (l38.length)] l38 2 1 1 6 1)) (scl (encN:=Ab) (xss:=w_13.Columns) place_3 [.own 1 (x114.States.map Ae),.own 1 (l38.map Ae)] 2 1 ({ States:=x114.States,Costs:=l38 }:AD))) (sn 22 1 2 (lsS w_13.Columns place_3.toNat ({ States:=x114.States,Costs:=l38 }:AD)))) (snc 0 6 1 2 (lsS w_13.Columns place_3.toNat ({ States:=x114.States,Costs:=l38 }:AD)))) (so1 (encN:=Ab) 1 2 h282)) (sno (encN:=Ab) (enc:=Ae) h282 [.own 1 (x115.States.map Ae),.own 1 (x115.Costs.map Ae)] x115.States 2 1 0 1)) (ck 3 (sp (BT (encN:=Ab) (row:=[.osl 7 1 0 (x115.States.length),.own 1 (x115.Costs.map Ae)]) (k:=1) (sz:=2) (off:=0) (t:=ty 32) (v:=.osl 7 1 0 (x115.States.length)) h282) (ck 2 (en (bk 2 (bx H λ y70 h291 H=>lX KW h291 (gP [1,2,3,37,38,39] [0,1,2,3,4,7] (po1 (Pl.n _ (nrH (n:=Int.toNat place_3) (row:=[.osl 7 1 0 (x115.States.length),.own 1 (x115.Costs.map Ae)]) (row':=[.osl 5 1 0 (x115.States.length),.own 1 (x115.Costs.map Ae)]) (nrM (encN:=Ab) (xss:=List.set w_13.Columns place_3.toNat ({ States:=x114.States,Costs:=l38 }:AD)) λ _=>rfl) rfl) (po1 (po1 (po1 (po1 (Pl.z)))))))) rfl λ s hE57=>qH (qs (hE57) (sr (xm (xok _ _) (ck 1 (en (sq (sq (bx H λ x121 h292 H=>rg (tr (so1 (encN:=Ab) 1 2 h292) (sno (encN:=Ab) (enc:=Ae) h292 [.own 1 (x121.States.map Ae),.own 1 (x121.Costs.map Ae)] x121.States 2 1 0 1)) (ck 3 (sp (BT (encN:=Ab) (row:=[.osl 5 1 0 (x121.States.length),.own 1 (x121.Costs.map Ae)]) (k:=1) (sz:=2) (off:=0) (t:=ty 32) (v:=.osl 5 1 0 (x121.States.length)) h292) (ck 2 (en (bk 4 (bx H λ y71 h294 H=>lX KX h294 (tr (tr (tr (sni (encN:=Ab) (xs:=y70.Columns) (n:=place_3) (enc:=Ae) [.osl 5 1 0 (x121.States.length),.own 1 (x121.Costs.map Ae)] x121.States 2 1 0 5 1) (scl (encN:=Ab) (xss:=y70.Columns) place_3 [.own 1 (x121.States.map Ae),.own 1 (x121.Costs.map Ae)] 2 1 x121)) (snc 0 6 1 2 (lsS y70.Columns place_3.toNat x121))) (gP [1,2,3,6,83,84] [0,1,2,3,4] (po1 (pn1 Ab (List.set y70.Columns place_3.toNat x121) (po1 (po1 (po1 (Pl.z)))))))) rfl λ s hE58=>qH (qs (hE58) (sq (lbl (qz (bk 6 (bx H λ y73 h298 H=>lX KZ h298 (gP [1,2,3,6] [0,1,2,3,4] (po1 (pn1 Ab y71.Columns (po1 (po1 (po1 (Pl.z))))))) rfl λ s hE60=>qH (qN (qs (hE60) (sq (sr (ck 1 (en (rz (ck 2 (en (rz (ck 3 (ae (by cases H;exact og (gP [1,2] [0,1,2,4] (po1 (pn1 Ab y73.Columns (po1 (po1 (Pl.z))))))))))))))))))))))))))))))))))))))))))))))))))))))))))))))))))
 ·exact ex 0 (qx (by cases H;exact xo rfl (gP [] [0,1] (po1 (pn1 Ab w_13.Columns (Pl.z))))))
theorem Nm {z} (H:CT n b0_=some z):BO Try.prog 59 [.ptr 0 0] [some (.box (Am b0_ (.osl 1 2 0 (b0_.Columns.length)))),some (.narr 2 (b0_.Columns.map Ab))] 2 (.tup []) [some (.box (Am z (.osl 1 2 0 (z.Columns.length)))),some (.narr 2 (z.Columns.map Ab))]:=by
 exact fL 109 2 (JcZ b0_) Try.func59 (sr (ck 1 (en (sr (ck 7 (en (bk 0 (bx H λ y74 h299 H=>lX K0 h299 (gP [1,2] [0,1,2,3] (po1 (pn1 Ab b0_.Columns (po1 (po1 (Pl.z)))))) rfl λ s hE61=>qH (by cases H;exact pL' (rl (s':=Jc0 z) (tr (hE61) (gP [] [0,1] (po1 (pn1 Ab z.Columns (Pl.z)))))))))))))))
end
section
variable (b0_:Ac) (x_76:AK) (result_12:AK) (place_4:Int) (state_3:Int) (cost_3:Int) (result_13:AK) (x124:(List AB)) (x_77:Int) (result_14:AK) (place_5:Int) (state_4:Int) (cost_4:Int)
def Jc8:St:=⟨(0,.ptr 0 0)::[],[some (.box (Am b0_ (.osl 1 2 0 (b0_.Columns.length)))),some (.narr 2 (b0_.Columns.map Ab))]⟩
def Jc9:St:=⟨(2,.ptr 2 0)::[],[some (.box (Am b0_ (.osl 1 2 0 (b0_.Columns.length)))),some (.narr 2 (b0_.Columns.map Ab)),some (.box [.osl 3 1 0 (x_76.Cells.length),.osl 4 1 0 (x_76.Path.length)]),some (.arr 1 (x_76.Cells.map eU8)),some (.arr 1 (x_76.Path.map Ae))]⟩
def Jda:St:=⟨(0,.ptr 0 0)::(2,.ptr 2 0)::(3,.ptr 3 0)::(4,.d (.int .i64 place_4))::(5,.d (.int .i64 state_3))::(6,.d (.int .i64 cost_3))::[],[some (.box (Am b0_ (.osl 1 2 0 (b0_.Columns.length)))),some (.narr 2 (b0_.Columns.map Ab)),some (.box [.osl 4 1 0 (List.length ([]:List Int)),.osl 5 1 0 (List.length ([]:List Int))]),some (.box [.osl 6 1 0 (result_12.Cells.length),.osl 7 1 0 (result_12.Path.length)]),some (.arr 1 (List.map eU8 ([]:List Int))),some (.arr 1 (List.map Ae ([]:List Int))),some (.arr 1 (result_12.Cells.map eU8)),some (.arr 1 (result_12.Path.map Ae))]⟩
def Jdb:St:=⟨(2,.ptr 2 0)::(3,.ptr 3 0)::[],[some (.box (Am b0_ (.osl 1 2 0 (b0_.Columns.length)))),some (.narr 2 (b0_.Columns.map Ab)),some (.box [.osl 4 1 0 (List.length ([]:List Int)),.osl 5 1 0 (List.length ([]:List Int))]),some (.box [.osl 6 1 0 (result_13.Cells.length),.osl 7 1 0 (result_13.Path.length)]),some (.arr 1 (List.map eU8 ([]:List Int))),some (.arr 1 (List.map Ae ([]:List Int))),some (.arr 1 (result_13.Cells.map eU8)),some (.arr 1 (result_13.Path.map Ae))]⟩
def Jdc:St:=⟨(0,.ptr 0 0)::(2,.ptr 2 0)::(3,.ptr 3 0)::(4,.d (.int .i64 place_4))::(6,.d (.int .i64 cost_3))::(27,.d (.sl (x124.map Aj)))::(28,.d (.int .i64 ((x124.length:Nat):Int)))::(29,.d (.int .i64 x_77))::[],[some (.box (Am b0_ (.osl 1 2 0 (b0_.Columns.length)))),some (.narr 2 (b0_.Columns.map Ab)),some (.box [.osl 4 1 0 (List.length ([]:List Int)),.osl 5 1 0 (List.length ([]:List Int))]),some (.box [.osl 6 1 0 (result_12.Cells.length),.osl 7 1 0 (result_12.Path.length)]),some (.arr 1 (List.map eU8 ([]:List Int))),some (.arr 1 (List.map Ae ([]:List Int))),some (.arr 1 (result_12.Cells.map eU8)),some (.arr 1 (result_12.Path.map Ae))]⟩
def Jdd:St:=⟨(0,.ptr 0 0)::(2,.ptr 2 0)::(3,.ptr 3 0)::(4,.d (.int .i64 place_5))::(5,.d (.int .i64 state_4))::(6,.d (.int .i64 cost_4))::[],[some (.box (Am b0_ (.osl 1 2 0 (b0_.Columns.length)))),some (.narr 2 (b0_.Columns.map Ab)),some (.box [.osl 4 1 0 (List.length ([]:List Int)),.osl 5 1 0 (List.length ([]:List Int))]),some (.box [.osl 6 1 0 (result_14.Cells.length),.osl 7 1 0 (result_14.Path.length)]),some (.arr 1 (List.map eU8 ([]:List Int))),some (.arr 1 (List.map Ae ([]:List Int))),some (.arr 1 (result_14.Cells.map eU8)),some (.arr 1 (result_14.Path.map Ae))]⟩
def Jde:St:=⟨(2,.ptr 2 0)::(3,.ptr 3 0)::[],[some (.box (Am b0_ (.osl 1 2 0 (b0_.Columns.length)))),some (.narr 2 (b0_.Columns.map Ab)),some (.box [.osl 4 1 0 (List.length ([]:List Int)),.osl 5 1 0 (List.length ([]:List Int))]),some (.box [.osl 6 1 0 (result_12.Cells.length),.osl 7 1 0 (result_12.Path.length)]),some (.arr 1 (List.map eU8 ([]:List Int))),some (.arr 1 (List.map Ae ([]:List Int))),some (.arr 1 (result_12.Cells.map eU8)),some (.arr 1 (result_12.Path.map Ae))]⟩
def Jdf:St:=⟨(0,.ptr 0 0)::(2,.ptr 2 0)::(3,.ptr 3 0)::(4,.d (.int .i64 place_4))::(6,.d (.int .i64 cost_3))::(27,.d (.sl (x124.map Aj)))::(28,.d (.int .i64 ((x124.length:Nat):Int)))::(29,.d (.int .i64 x_77))::[],[some (.box (Am b0_ (.osl 1 2 0 (b0_.Columns.length)))),some (.narr 2 (b0_.Columns.map Ab)),some (.box [.osl 4 1 0 (List.length ([]:List Int)),.osl 5 1 0 (List.length ([]:List Int))]),some (.box [.osl 6 1 0 (result_12.Cells.length),.osl 7 1 0 (result_12.Path.length)]),some (.arr 1 (List.map eU8 ([]:List Int))),some (.arr 1 (List.map Ae ([]:List Int))),some (.arr 1 (result_12.Cells.map eU8)),some (.arr 1 (result_12.Path.map Ae))]⟩
def JC:((AK×Int×Int×Int)⊕Unit)->Ex->St->Prop:=xS (xX 2 1 (λ (y:(AK×Int×Int×Int))=>Jdd b0_ y.1 y.2.1 y.2.2.1 y.2.2.2)) (xX 2 2 (λ (_:Unit)=>Jde b0_ result_12))
def E9:Int->St:=(λ (x:Int)=>Jdc b0_ result_12 place_4 cost_3 x124 x)
def JD:AK->Ex->St->Prop:=xX 2 0 (λ (y:AK)=>Jdb b0_ y)
def Fa:(AK×Int×Int×Int)->St:=(λ (x:(AK×Int×Int×Int))=>Jda b0_ x.1 x.2.1 x.2.2.1 x.2.2.2)
variable {b0_ x_76 result_12 place_4 state_3 cost_3 result_13 x124 x_77 result_14 place_5 state_4 cost_4}
theorem EF (x:Int) (z:(Int⊕((AK×Int×Int×Int)⊕Unit))) (H:Bi n b0_ result_12 place_4 cost_3 x124 x=some z):WP (cxk 93 2) (Ax Try.f60) [1,0,1,1,1,0,1,0,0,1,0,0,1,0,0] (Av 2 (E9 b0_ result_12 place_4 cost_3 x124) (JC b0_ result_12) z) (E9 b0_ result_12 place_4 cost_3 x124 x):=by
 revert H
 generalize x=x_77
 intro H
 refine sr (ck 1 (en (sq (cn H (λ H=>?_) (λ H=>?_)))))
 ·refine sk (qz (sj (λ (x:Unit)=>Jdf b0_ result_12 place_4 cost_3 x124 x_77) (λ (x:Unit)=>Bh n x_77) z ?_ (λ hFTr_writer_writingx_J1=>?_)))
  ·intro _ H
   exact rz (ck 2 (ae (by cases H;exact og (gP [0,2,3,4,6,27,28,29] [0,1,2,3,4,5,6,7] (po1 (pn1 Ab b0_.Columns (po1 (po1 (po1 (po1 (po1 (po1 (Pl.z)))))))))))))
  refine bk 3 (sr (bx H λ x125 h303 H=>sp (Ao Aj h303) (ck 3 (en (sr (ck 4 (bx H λ r66 h304 H=>ltP [0,1] (DZ h304) (po1 (pn1 Ab b0_.Columns (Pl.z))) (tb (f:=Ds (CD [0,1] 9 2)) [some (.box (Am b0_ (.osl 1 2 0 (b0_.Columns.length)))),some (.narr 2 (b0_.Columns.map Ab)),some (.box [.osl 4 1 0 (List.length ([]:List Int)),.osl 5 1 0 (List.length ([]:List Int))]),some (.box [.osl 6 1 0 (result_12.Cells.length),.osl 7 1 0 (result_12.Path.length)]),some (.arr 1 (List.map eU8 ([]:List Int))),some (.arr 1 (List.map Ae ([]:List Int))),some (.arr 1 (result_12.Cells.map eU8)),some (.arr 1 (result_12.Path.map Ae)),some (.box [.d (.int .i64 x125.Rule),.d (.int .i64 x125.To)])] (po1 (pn1 Ab b0_.Columns (po1 (po1 (po1 (po1 (po1 (po1 (po1 (Pl.z)))))))))) (ck 5 (en (sq (sr (ck 2 (en (cn H (λ H=>?_) (λ H=>?_))))))))))))))))
  ·exact ex 3 (qx (qH (qs (gP [0,2,3,4,6,27,28,29] [0,1,2,3,4,5,6,7] (po1 (pn1 Ab b0_.Columns (po1 (po1 (po1 (po1 (po1 (po1 (Pl.z)))))))))) (hFTr_writer_writingx_J1 () H))))
  ·refine sk (qz (sr (ck 7 (bx H λ x126 h305 H=>sp (Ao An h305) (ck 3 (en (sq (sr (ck 5 (bx H λ x127 h306 H=>sp (As 1 2 h306) (ck 2 (bx H λ r67 h307 H=>cb (ks:=[1]) (obl:=[(0+Int.toNat r66.1+1,List.length (b0_.Columns.map Ab)),(Oo (b0_.Columns.map Ab),0)]) false (leK (Jgw (encN:=Ab) h306) (leK (JeN λ _=>rfl) (leZ))) (Dt (Jbx (encN:=Ab) (encD:=Mr) h306 λ _=>rfl) (Dt rfl rfl)) (Fv h307) (Or.inr trivial) rfl (ck 1 (en (sr (ck 6 (sE (g:=(!(decide (r67<0)))) (λ hg=>AE eU8 x126.Cells) (gc 2 (!(decide (r67<0))) (pO (en (cn H (λ H=>?_) (λ H=>?_))))))))))))))))))))))
   ·exact ex 3 (qx (qH (qs (gP [0,2,3,4,6,27,28,29] [0,1,2,3,4,5,6,7] (po1 (pn1 Ab b0_.Columns (po1 (po1 (po1 (po1 (po1 (po1 (Pl.z)))))))))) (hFTr_writer_writingx_J1 () H))))
   ·exact sk (qz (sr (ck 3 (bx H λ l41 h308 H=>sp (Jbu eU8 6 1 h308) (ck 2 (en (sr (ck 5 (bx H λ l42 h309 H=>sp (B5 Ae 7 1 h309) (ck 2 (en (sr (ck 5 (sp (AE eU8 x126.Cells) (ck 4 (en (ex 1 (qX rfl (qx (by cases H;exact xo rfl (gP [0,2,3,4,5,6] [0,1,2,3,4,5,9,11] (po1 (pn1 Ab b0_.Columns (po1 (po1 (po1 (po1 (po1 (po1 (Pl.z))))))))))))))))))))))))))))))
 ·exact ex 2 (qx (by cases H;exact xo rfl (gP [2,3] [0,1,2,3,4,5,6,7] (po1 (pn1 Ab b0_.Columns (po1 (po1 (po1 (po1 (po1 (po1 (Pl.z))))))))))))
theorem IA (x:(AK×Int×Int×Int)) (z:((AK×Int×Int×Int)⊕AK)) (H:BC n b0_ x.1 x.2.1 x.2.2.1 x.2.2.2=some z):WP (cxk 93 2) (Ax Try.f60) [1,0,1,1,1,0,1,0,0] (Av 2 (Fa b0_) (JD b0_) z) (Fa b0_ x):=by
 obtain ⟨result_12,place_4,state_3,cost_3⟩:=x
 refine sq (sr (ck 2 (en (cn H (λ H=>?_) (λ H=>?_)))))
 ·refine sk (qz (bk 1 (sq (sr (ck 5 (bx H λ x124 h302 H=>sp (Ao (eL Aj) h302) (ck 1 (sp (AE Aj x124) (ck 1 (en (bk 2 (bx H λ y75 h310 H=>?_))))))))))))
  rcases y75 with y76|y77
  ·exact lX EF h310 (gP [0,2,3,4,6,27,28,29] [0,1,2,3,4,5,6,7] (po1 (pn1 Ab b0_.Columns (po1 (po1 (po1 (po1 (po1 (po1 (Pl.z)))))))))) rfl λ s hE62=>qX rfl (qx (qH (by cases H;exact og (tr (hE62) (gP [0,2,3,4,5,6] [0,1,2,3,4,5,6,7] (po1 (pn1 Ab b0_.Columns (po1 (po1 (po1 (po1 (po1 (po1 (Pl.z))))))))))))))
  ·exact lX EF h310 (gP [0,2,3,4,6,27,28,29] [0,1,2,3,4,5,6,7] (po1 (pn1 Ab b0_.Columns (po1 (po1 (po1 (po1 (po1 (po1 (Pl.z)))))))))) rfl λ s hE63=>qH (qs (hE63) (ex 0 (qX rfl (by cases H;exact xo rfl (gP [2,3] [0,1,2,3,4,5,6,7] (po1 (pn1 Ab b0_.Columns (po1 (po1 (po1 (po1 (po1 (po1 (Pl.z))))))))))))))
 ·exact ex 0 (qx (by cases H;exact xo rfl (gP [2,3] [0,1,2,3,4,5,6,7] (po1 (pn1 Ab b0_.Columns (po1 (po1 (po1 (po1 (po1 (po1 (Pl.z))))))))))))
theorem K1 {z} (H:Ca n b0_=some z):BO Try.prog 60 [.ptr 0 0] [some (.box (Am b0_ (.osl 1 2 0 (b0_.Columns.length)))),some (.narr 2 (b0_.Columns.map Ab))] 2 (.agg [.osl 3 1 0 (z.Cells.length),.osl 4 1 0 (z.Path.length)]) [some (.box (Am b0_ (.osl 1 2 0 (b0_.Columns.length)))),some (.narr 2 (b0_.Columns.map Ab)),some (.box [.osl 3 1 0 (z.Cells.length),.osl 4 1 0 (z.Path.length)]),some (.arr 1 (z.Cells.map eU8)),some (.arr 1 (z.Path.map Ae))]:=by
 exact fL 93 2 (Jc8 b0_) Try.func60 (sr (ck 1 (en (sc (sr (ck 1 (en (sr (ck 2 (en (sq (lbl (qz (sq (sr (ck 4 (bx H λ x123 h300 H=>sp (As 1 2 h300) (bx H λ r65 h301 H=>cb (ks:=[1]) (obl:=[(0+Int.toNat 0+1,List.length (b0_.Columns.map Ab)),(Oo (b0_.Columns.map Ab),0)]) false (leK (Jgw (encN:=Ab) h300) (leK (JeN λ _=>rfl) (leZ))) (Dt (Jbx (encN:=Ab) (encD:=Mr) h300 λ _=>rfl) (Dt rfl rfl)) (Fv h301) (Or.inr trivial) rfl (ck 1 (en (bk 0 (bx H λ y78 h311 H=>lX IA h311 (tr (tr (tr (tr (Bt 2 0 1 (by kernel_rfl)) (Bt 2 1 1 (by kernel_rfl))) (Bt 3 0 1 (by kernel_rfl))) (Bt 3 1 1 (by kernel_rfl))) (gP [0,2,3,4,5,6] [0,1,2,3,4,5,6,7] (po1 (pn1 Ab b0_.Columns (po1 (po1 (po1 (po1 (po1 (po1 (Pl.z))))))))))) rfl λ s hE64=>qH (qs (hE64) (sr (ck 2 (en (re (by cases H;exact pL (rl (s':=Jc9 b0_ z) (gP [2] [0,1,2,6,7] (po1 (pn1 Ab b0_.Columns (po1 (po1 (po1 (Pl.z))))))))))))))))))))))))))))))))))))
end
section
variable (p0_:Ad) (p1_:(List UInt8))
def JhL:St:=⟨(0,.agg [.d (.int .i64 p0_.Modes),.d (.int .u8 p0_.Accept),.d (.sl (p0_.Rules.map An))])::(1,.d (.str p1_))::[],[]⟩
variable {p0_ p1_}
theorem Vt {z} (H:HV n p0_ p1_=some z):AM Try.prog 30 [.agg (Ay p0_),.d (.str p1_)] (.tup [.agg [.own 1 (z.1.Cells.map eU8),.own 1 (z.1.Path.map Ae)],.d (.int .i64 z.2.1),.d (.int .i64 z.2.2)]):=by
 refine fO 50 (JhL p0_ p1_) Try.func30 (sr (ck 4 (en (sq (sr (ck 1 (bx H λ r68 h312 H=>ca true (I2 h312) (ck 5 (en (sr (ck 2 (en (cn H (λ H=>?_) (λ H=>?_))))))))))))))
 ·exact sr (ck 6 (en (re (qr (by cases H;exact pr (rT (vs:=[.agg [.d (.nil),.d (.nil)],.d (.int .i64 r68.1),.d (.int .i64 r68.2)]) [] (t1 (a1 (c1 vz (c1 vz (c0)))) (t1 (ad vd) (t1 (ad vd) (t0))))))))))
 ·refine sk (qz (sq (sr (ck 1 (bx H λ r69 h313 H=>ca false (Vs h313) (ck 1 (en (cn H (λ H=>?_) (λ H=>?_)))))))))
  ·exact sr (ck 4 (en (re (qr (by cases H;exact pr (rT (vs:=[.agg [.d (.nil),.d (.nil)],.d (.int .i64 0),.d (.int .i64 61)]) [] (t1 (a1 (c1 vz (c1 vz (c0)))) (t1 (ad vd) (t1 (ad vd) (t0))))))))))
  ·refine sk (qz (sr (ck 2 (bx H λ r70 h314 H=>lt [] (Qb h314) (tb (f:=Ds (CD [] 2 0)) [some (.box (Ay p0_)),some (.box [.d (.nil),.d (.nil)]),some (.box (Am r70 (.osl 3 2 0 (r70.Columns.length)))),some (.narr 2 (r70.Columns.map Ab))] (po1 (po1 (po1 (pn1 Ab r70.Columns (Pl.z))))) (ck 1 (en (sr (ck 1 (bx H λ r71 h315 H=>ltP [2,3] (Nl h315) (po1 (pn1 Ab r70.Columns (Pl.z))) (tb (f:=Ds (CD [2,3] 4 2)) [some (.box (Ay p0_)),some (.box [.d (.nil),.d (.nil)]),some (.box (Am r71 (.osl 3 2 0 (r71.Columns.length)))),some (.narr 2 (r71.Columns.map Ab))] (po1 (po1 (po1 (pn1 Ab r71.Columns (Pl.z))))) (en (sr (ck 1 (bx H λ r72 h316 H=>ltP [2,3] (Nm h316) (po1 (pn1 Ab r71.Columns (Pl.z))) (tb (f:=Ds (CD [2,3] 4 2)) [some (.box (Ay p0_)),some (.box [.d (.nil),.d (.nil)]),some (.box (Am r72 (.osl 3 2 0 (r72.Columns.length)))),some (.narr 2 (r72.Columns.map Ab))] (po1 (po1 (po1 (pn1 Ab r72.Columns (Pl.z))))) (en (sq (sq (bx H λ x128 h317 H=>rg (tr (so1 (encN:=Ab) 3 2 h317) (sno (encN:=Ab) (enc:=Ae) h317 [.own 1 (x128.States.map Ae),.own 1 (x128.Costs.map Ae)] x128.Costs 2 3 1 1)) (ck 4 (sp (As 3 2 h317) (ck 1 (sp (BT (encN:=Ab) (row:=[.own 1 (x128.States.map Ae),.osl 4 1 0 (x128.Costs.length)]) (k:=3) (sz:=2) (off:=1) (t:=ty 32) (v:=.osl 4 1 0 (x128.Costs.length)) h317) (bx H λ x129 h318 H=>sp (As 4 1 h318) (sp (Ct Ae 4 0 (ty 3) h318) (ck 1 (en (cn H (λ H=>?_) (λ H=>?_))))))))))))))))))))))))))))))
   ·exact sq (rg (tr (tr (tr (sni (encN:=Ab) (xs:=r72.Columns) (n:=0) (enc:=Ae) [.own 1 (x128.States.map Ae),.osl 4 1 0 (x128.Costs.length)] x128.Costs 2 3 1 4 1) (scl (encN:=Ab) (xss:=r72.Columns) 0 [.own 1 (x128.States.map Ae),.own 1 (x128.Costs.map Ae)] 2 3 x128)) (sn 34 3 2 (lsS r72.Columns (Int.toNat 0) x128))) (snc 2 6 3 2 (lsS r72.Columns (Int.toNat 0) x128))) (ck 8 (en (re (qr (by cases H;exact pr (rT (vs:=[.agg [.d (.nil),.d (.nil)],.d (.int .i64 r72.Last),.d (.int .i64 61)]) [] (t1 (a1 (c1 vz (c1 vz (c0)))) (t1 (ad vd) (t1 (ad vd) (t0)))))))))))
   ·exact sk (qz (sq (rg (tr (tr (tr (sni (encN:=Ab) (xs:=r72.Columns) (n:=0) (enc:=Ae) [.own 1 (x128.States.map Ae),.osl 4 1 0 (x128.Costs.length)] x128.Costs 2 3 1 4 1) (scl (encN:=Ab) (xss:=r72.Columns) 0 [.own 1 (x128.States.map Ae),.own 1 (x128.Costs.map Ae)] 2 3 x128)) (sn 34 3 2 (lsS r72.Columns (Int.toNat 0) x128))) (snc 2 6 3 2 (lsS r72.Columns (Int.toNat 0) x128))) (ck 1 (bx H λ r73 h319 H=>ltP [2,3] (K1 h319) (po1 (pn1 Ab (List.set r72.Columns (Int.toNat 0) x128) (Pl.z))) (tb (f:=Ds (CD [2,3] 5 2)) [some (.box (Ay p0_)),some (.box [.d (.nil),.d (.nil)]),some (.box (Am r72 (.osl 3 2 0 (List.length (List.set r72.Columns (Int.toNat 0) x128))))),some (.narr 2 (List.map Ab (List.set r72.Columns (Int.toNat 0) x128))),none,some (.box [.osl 6 1 0 (r73.Cells.length),.osl 7 1 0 (r73.Path.length)]),some (.arr 1 (r73.Cells.map eU8)),some (.arr 1 (r73.Path.map Ae))] (po1 (po1 (po1 (pn1 Ab (List.set r72.Columns (Int.toNat 0) x128) (po1 (po1 (po1 (po1 (Pl.z))))))))) (ck 5 (en (re (by cases H;exact pr (rT (vs:=[.agg [.osl 6 1 0 (r73.Cells.length),.osl 7 1 0 (r73.Path.length)],.d (.int .i64 ((p1_.length:Nat):Int)),.d (.int .i64 0)]) [6,7] (t1 (a1 (c1 vo (c1 vo (c0)))) (t1 (ad vd) (t1 (ad vd) (t0)))))))))))))))
end
section
variable (p0_:Ad) (p1_:BM)
def JhM:St:=⟨(0,.agg [.d (.int .i64 p0_.Modes),.d (.int .u8 p0_.Accept),.d (.sl (p0_.Rules.map An))])::(1,.agg [.d (.str p1_.Text),.d (.sl (p1_.Costs.map (eL Ae))),.d (.sl (p1_.Least.map Ae))])::[],[]⟩
variable {p0_ p1_}
theorem JE {z} (H:Ed n p0_ p1_=some z):AM Try.prog 13 [.agg (Ay p0_),.agg (Ib p1_)] (.tup [.agg [.d (.sl (z.1.Cells.map eU8)),.d (.sl (z.1.Path.map Ae))],.d (.int .i64 z.2)]):=by
 refine fO 21 (JhM p0_ p1_) Try.func13 (sr (ck 4 (en (sr (ck 3 (bx H λ r74 h320 H=>ca false (Vt h320) (ck 8 (en (sq (sr (ck 2 (en (cn H (λ H=>?_) (λ H=>?_))))))))))))))
 ·exact sr (ck 3 (en (re (qr (by cases H;exact pr (rT (vs:=[.agg [.d (.nil),.d (.nil)],.d (.int .i64 61)]) [] (t1 (a1 (c1 vn (c1 vn (c0)))) (t1 (ad vd) (t0)))))))))
 ·exact sk (qz (sr (ck 3 (en (re (by cases H;exact pr rdT))))))
end
section
variable (p0_:(List Int)) (p1_:(List Int)) (i_8:Int)
def JhN:St:=⟨(0,.d (.sl (p0_.map Ae)))::(1,.d (.sl (p1_.map Ae)))::[],[]⟩
def JhO:St:=⟨(0,.d (.sl (p0_.map Ae)))::(1,.d (.sl (p1_.map Ae)))::(5,.d (.int .i64 i_8))::[],[]⟩
def JhP:St:=⟨[],[]⟩
def TI:(Unit⊕Bool)->Ex->St->Prop:=xS (xX 0 0 (λ (_:Unit)=>JhP)) (xR ty Try.f20 (λ (y:Bool)=>.d (.bool y)))
def NC:Int->St:=(λ (x:Int)=>JhO p0_ p1_ x)
variable {p0_ p1_ i_8}
theorem MC (x:Int) (z:(Int⊕(Unit⊕Bool))) (H:FG n p0_ p1_ x=some z):WP (cxk 26 0) (Ax Try.f20) [1,1,0,1,0,0] (Av 0 (NC p0_ p1_) (TI) z) (NC p0_ p1_ x):=by
 revert H
 generalize x=i_8
 intro H
 refine sq (sr (ck 2 (sp (AE Ae p0_) (ck 1 (en (cn H (λ H=>?_) (λ H=>?_)))))))
 ·refine sk (qz (sq (bk 1 (sr (ck 2 (bx H λ x130 h321 H=>sp (Ao Ae h321) (ck 3 (bx H λ x131 h322 H=>sp (Ao Ae h322) (ck 2 (en (cn H (λ H=>?_) (λ H=>?_))))))))))))
  ·exact sr (ck 1 (en (re (qR (qr (by cases H;exact ro rfl rd))))))
  ·exact sk (qN (qz (rz (ck 3 (ae (by cases H;exact og (sg [0,1,5])))))))
 ·exact ex 0 (qx (by cases H;exact xo rfl (sg [])))
theorem I9 {z} (H:F4 n p0_ p1_=some z):AM Try.prog 20 [.d (.sl (p0_.map Ae)),.d (.sl (p1_.map Ae))] (.d (.bool z)):=by
 refine fO 26 (JhN p0_ p1_) Try.func20 (sr (ck 1 (en (sq (sr (ck 1 (sp (AE Ae p0_) (ck 1 (sp (AE Ae p1_) (ck 1 (en (cn H (λ H=>?_) (λ H=>?_)))))))))))))
 ·exact sr (ck 1 (en (re (qr (by cases H;exact pr rd)))))
 ·refine sk (qz (sq (sr (ck 1 (en (bk 0 (bx H λ y79 h323 H=>?_)))))))
  rcases y79 with y80|y81
  ·exact lX MC h323 (sg [0,1,5]) rfl λ s hE65=>qH (qs (hE65) (sr (ck 1 (en (re (by cases H;exact pr rd))))))
  ·exact lR MC h323 (sg [0,1,5]) rfl λ s hE66=>qR (qr (by cases H;exact pr hE66))
end
section
variable (p0_:(List Int)) (p1_:(List Int)) (i_9:Int)
def JhQ:St:=⟨(0,.d (.sl (p0_.map eU8)))::(1,.d (.sl (p1_.map eU8)))::[],[]⟩
def JhR:St:=⟨(0,.d (.sl (p0_.map eU8)))::(1,.d (.sl (p1_.map eU8)))::(5,.d (.int .i64 i_9))::[],[]⟩
def JhS:St:=⟨[],[]⟩
def N5:(Unit⊕Bool)->Ex->St->Prop:=xS (xX 0 0 (λ (_:Unit)=>JhS)) (xR ty Try.f37 (λ (y:Bool)=>.d (.bool y)))
def Ih:Int->St:=(λ (x:Int)=>JhR p0_ p1_ x)
variable {p0_ p1_ i_9}
theorem HB (x:Int) (z:(Int⊕(Unit⊕Bool))) (H:CU n p0_ p1_ x=some z):WP (cxk 26 0) (Ax Try.f37) [1,1,0,1,0,0] (Av 0 (Ih p0_ p1_) (N5) z) (Ih p0_ p1_ x):=by
 revert H
 generalize x=i_9
 intro H
 refine sq (sr (ck 2 (sp (AE eU8 p0_) (ck 1 (en (cn H (λ H=>?_) (λ H=>?_)))))))
 ·refine sk (qz (sq (bk 1 (sr (ck 2 (bx H λ x132 h324 H=>sp (Ao eU8 h324) (ck 3 (bx H λ x133 h325 H=>sp (Ao eU8 h325) (ck 2 (en (cn H (λ H=>?_) (λ H=>?_))))))))))))
  ·exact sr (ck 1 (en (re (qR (qr (by cases H;exact ro rfl rd))))))
  ·exact sk (qN (qz (rz (ck 3 (ae (by cases H;exact og (sg [0,1,5])))))))
 ·exact ex 0 (qx (by cases H;exact xo rfl (sg [])))
theorem J5 {z} (H:Df n p0_ p1_=some z):AM Try.prog 37 [.d (.sl (p0_.map eU8)),.d (.sl (p1_.map eU8))] (.d (.bool z)):=by
 refine fO 26 (JhQ p0_ p1_) Try.func37 (sr (ck 1 (en (sq (sr (ck 1 (sp (AE eU8 p0_) (ck 1 (sp (AE eU8 p1_) (ck 1 (en (cn H (λ H=>?_) (λ H=>?_)))))))))))))
 ·exact sr (ck 1 (en (re (qr (by cases H;exact pr rd)))))
 ·refine sk (qz (sq (sr (ck 1 (en (bk 0 (bx H λ y82 h326 H=>?_)))))))
  rcases y82 with y83|y84
  ·exact lX HB h326 (sg [0,1,5]) rfl λ s hE67=>qH (qs (hE67) (sr (ck 1 (en (re (by cases H;exact pr rd))))))
  ·exact lR HB h326 (sg [0,1,5]) rfl λ s hE68=>qR (qr (by cases H;exact pr hE68))
end
section
variable (p0_:AK) (p1_:AK)
def JhT:St:=⟨(0,.agg [.d (.sl (p0_.Cells.map eU8)),.d (.sl (p0_.Path.map Ae))])::(1,.agg [.d (.sl (p1_.Cells.map eU8)),.d (.sl (p1_.Path.map Ae))])::[],[]⟩
variable {p0_ p1_}
theorem QW {z} (H:H7 n p0_ p1_=some z):AM Try.prog 15 [.agg [.d (.sl (p0_.Cells.map eU8)),.d (.sl (p0_.Path.map Ae))],.agg [.d (.sl (p1_.Cells.map eU8)),.d (.sl (p1_.Path.map Ae))]] (.d (.bool z)):=by
 exact fO 17 (JhT p0_ p1_) Try.func15 (sr (ck 3 (en (sr (ck 4 (bx H λ r75 h327 H=>ca false (J5 h327) (ck 2 (gc 1 r75 (ck 1 (gc 1 r75 (bx H λ r76 h328 H=>cG false (leZ) rfl (λ hg=>I9 (Bq h328 hg)) (Or.inl rfl) (B1 (λ hh=>hh) (B1 (λ hh=>hh) (D6))) rfl (pA (ck 1 (en (re (by cases H;exact pr rd))))))))))))))))
end
def Jko:St:=⟨[],[]⟩
theorem TJ {z} (H:H8 n=some z):AM Try.prog 6 [] (.d (.bool z)):=by
 exact fO 139 Jko Try.func6 (sr (ck 1 (en (sr (bx H λ r77 h329 H=>ca false (TF h329) (ck 2 (en (sr (ck 1 (bx H λ r78 h330 H=>ca false (KQ h330) (ck 6 (en (sr (ck 1 (bx H λ r79 h331 H=>ca false (KQ h331) (ck 6 (en (sr (ck 3 (bx H λ r80 h332 H=>ca false (JA h332) (ck 8 (en (sr (ck 3 (bx H λ r81 h333 H=>ca false (JA h333) (ck 8 (en (sr (ck 3 (bx H λ r82 h334 H=>ca false (JA h334) (ck 8 (en (sr (ck 2 (bx H λ r83 h335 H=>ca false (JE h335) (ck 6 (en (sr (ck 1 (bx H λ r84 h336 H=>ca false (KQ h336) (ck 6 (en (sr (ck 2 (bx H λ r85 h337 H=>ca false (JE h337) (ck 6 (en (sr (ck 4 (gc 1 (r78.2==0) (pA (ck 2 (gc 1 ((r78.2==0)&&(r79.2==60)) (pA (ck 2 (gc 1 (((r78.2==0)&&(r79.2==60))&&(r80.2.2==0)) (pA (ck 2 (gc 1 ((((r78.2==0)&&(r79.2==60))&&(r80.2.2==0))&&(r81.2.2==1)) (pA (ck 2 (gc 1 (((((r78.2==0)&&(r79.2==60))&&(r80.2.2==0))&&(r81.2.2==1))&&(r82.2.2==60)) (pA (ck 2 (gc 1 ((((((r78.2==0)&&(r79.2==60))&&(r80.2.2==0))&&(r81.2.2==1))&&(r82.2.2==60))&&(r83.2==0)) (pA (ck 2 (gc 1 (((((((r78.2==0)&&(r79.2==60))&&(r80.2.2==0))&&(r81.2.2==1))&&(r82.2.2==60))&&(r83.2==0))&&(r84.2==0)) (pA (ck 1 (en (sr (ck 3 (gc 1 ((((((((r78.2==0)&&(r79.2==60))&&(r80.2.2==0))&&(r81.2.2==1))&&(r82.2.2==60))&&(r83.2==0))&&(r84.2==0))&&(r85.2==61)) (ck 1 (bx H λ r86 h338 H=>cG (ks:=[9]) (obl:=[(0+List.length [2,1,1,0],List.length (List.map Ae [2,1,1,0]))]) false (leK leM (leZ)) (Dt rfl (Dt SE rfl)) (λ hg=>I9 (Bq h338 hg)) (Or.inr trivial) (B1 (λ hh=>hh) (B1 (λ hh=>hh) (D6))) rfl (pA (ck 2 (gc 1 (((((((((r78.2==0)&&(r79.2==60))&&(r80.2.2==0))&&(r81.2.2==1))&&(r82.2.2==60))&&(r83.2==0))&&(r84.2==0))&&(r85.2==61))&&r86) (pA (ck 2 (gc 2 ((((((((((r78.2==0)&&(r79.2==60))&&(r80.2.2==0))&&(r81.2.2==1))&&(r82.2.2==60))&&(r83.2==0))&&(r84.2==0))&&(r85.2==61))&&r86)&&(r80.2.1==1)) (pA (ck 2 (gc 1 (((((((((((r78.2==0)&&(r79.2==60))&&(r80.2.2==0))&&(r81.2.2==1))&&(r82.2.2==60))&&(r83.2==0))&&(r84.2==0))&&(r85.2==61))&&r86)&&(r80.2.1==1))&&(r80.1.Text==[98,97,98])) (ck 1 (bx H λ r87 h339 H=>cG (ks:=[10]) (obl:=[(0+List.length [2,1,1,0],List.length (List.map Ae [2,1,1,0]))]) false (leK leM (leZ)) (Dt rfl (Dt SE rfl)) (λ hg=>I9 (Bq h339 hg)) (Or.inr trivial) (B1 (λ hh=>hh) (B1 (λ hh=>hh) (D6))) rfl (pA (ck 4 (gc 1 ((((((((((((r78.2==0)&&(r79.2==60))&&(r80.2.2==0))&&(r81.2.2==1))&&(r82.2.2==60))&&(r83.2==0))&&(r84.2==0))&&(r85.2==61))&&r86)&&(r80.2.1==1))&&(r80.1.Text==[98,97,98]))&&r87) (bx H λ r88 h340 H=>cG (ks:=[11,12]) (obl:=[(0+List.length [1,7],List.length (List.map eU8 [1,7])),(0+List.length [0,2],List.length (List.map Ae [0,2]))]) false (leK leM (leK leM (leZ))) (Dt rfl (Dt (Jjy (Dt SE (Dt SE rfl))) rfl)) (λ hg=>QW (Bq h340 hg)) (Or.inr trivial) (B1 (λ hh=>hh) (B1 (λ hh=>hh) (D6))) rfl (pA (ck 2 (gc 1 (((((((((((((r78.2==0)&&(r79.2==60))&&(r80.2.2==0))&&(r81.2.2==1))&&(r82.2.2==60))&&(r83.2==0))&&(r84.2==0))&&(r85.2==61))&&r86)&&(r80.2.1==1))&&(r80.1.Text==[98,97,98]))&&r87)&&r88) (ck 1 (bx H λ r89 h341 H=>cG (ks:=[13]) (obl:=[(0+List.length [(-1),0],List.length (List.map Ae [(-1),0]))]) false (leK leM (leZ)) (Dt rfl (Dt SE rfl)) (λ hg=>I9 (Bq h341 hg)) (Or.inr trivial) (B1 (λ hh=>hh) (B1 (λ hh=>hh) (D6))) rfl (pA (ck 1 (en (re (by cases H;exact pr rd)))))))))))))))))))))))))))))))))))))))))))))))))))))))))))))))))))))))))))))))))))))))))))))))))))))
section
variable (p0_:(List UInt8)) (p1_:(List Int)) (p2_:(FT Int))
def JhU:St:=⟨(0,.d (.str p0_))::(1,.d (.sl (p1_.map eU8)))::(2,.agg [.d (.int .i64 p2_.a0),.d (.int .i64 p2_.a1)])::[],[]⟩
variable {p0_ p1_ p2_}
theorem AQ {z} (H:A6 n p0_ p1_ p2_=some z):AM Try.prog 42 [.d (.str p0_),.d (.sl (p1_.map eU8)),.agg [.d (.int .i64 p2_.a0),.d (.int .i64 p2_.a1)]] (.agg [.d (.str z.Print),.d (.sl (z.Cells.map eU8)),.d (.int .u8 z.Left),.d (.int .u8 z.Right),.d (.int .i64 z.From),.d (.int .i64 z.To)]):=by
 exact fO 14 (JhU p0_ p1_ p2_) Try.func42 (sr (ck 2 (en (sr (ck 8 (en (re (by cases H;exact pr rd))))))))
end
def JhV:St:=⟨[],[]⟩
theorem SZ {z} (H:QV n=some z):AM Try.prog 40 [] (.own 6 (z.map An)):=by
 exact fO 16 JhV Try.func40 (sr (ck 1 (en (sr (ck 3 (en (sr (sF (ck 1 (bx H λ r90 h342 H=>ca false (AQ h342) (sF (ck 1 (bx H λ r91 h343 H=>ca false (AQ h343) (sF (ck 1 (bx H λ r92 h344 H=>ca false (AQ h344) (sF (ck 1 (bx H λ r93 h345 H=>ca false (AQ h345) (ck 2 (en (re (by cases H;exact pr (rO (v:=.osl 1 6 0 (List.length [r90,r91,r92,r93])) [1] (ao vo)))))))))))))))))))))))))
section
variable (p0_:Int) (p1_:Int) (p2_:(FT Int))
def JhW:St:=⟨(0,.d (.int .u8 p0_))::(1,.d (.int .i64 p1_))::(2,.agg [.d (.int .i64 p2_.a0),.d (.int .i64 p2_.a1)])::[],[]⟩
variable {p0_ p1_ p2_}
theorem GQ {z} (H:G4 n p0_ p1_ p2_=some z):AM Try.prog 41 [.d (.int .u8 p0_),.d (.int .i64 p1_),.agg [.d (.int .i64 p2_.a0),.d (.int .i64 p2_.a1)]] (.agg [.d (.str z.Print),.d (.sl (z.Cells.map eU8)),.d (.int .u8 z.Left),.d (.int .u8 z.Right),.d (.int .i64 z.From),.d (.int .i64 z.To)]):=by
 exact fO 16 (JhW p0_ p1_ p2_) Try.func41 (sr (ck 2 (en (sr (ck 1 (sF (ck 1 (bx H λ r94 h346 H=>ca false (AQ h346) (ck 2 (en (sr (ck 1 (bx H λ gd9 h347 H=>so (H4 h347) (ck 2 (en (sr (ck 2 (en (re (by cases H;exact pr rd))))))))))))))))))))
end
section
variable (p0_:Int) (l_1:(List Az))
def JhX:St:=⟨(0,.d (.int .u8 p0_))::[],[]⟩
def JhY:St:=⟨(2,.ptr 0 0)::(3,.osl 1 6 0 (l_1.length))::[],[some (.box [.d (.int .i64 0),.d (.int .u8 0),.osl 2 6 0 (List.length ([]:List Az))]),some (.arr 6 (l_1.map An)),some (.arr 6 (List.map An ([]:List Az)))]⟩
variable {p0_ l_1}
theorem W4 {z} (H:JX n p0_=some z):AM Try.prog 21 [.d (.int .u8 p0_)] (.agg [.d (.int .i64 z.Modes),.d (.int .u8 z.Accept),.own 6 (z.Rules.map An)]):=by
 refine fO 121 (JhX p0_) Try.func21 (sr (ck 1 (en (sr (bx H λ r95 h348 H=>cl [List.length r95] (SZ h348) (ck 13 (en (sj (λ (x:(List Az))=>JhY x) (λ (x:(List Az))=>FH n x) z ?_ (λ hFR2_Base_J1=>?_)))))))))
 ·intro l_1 H
  exact sr (ck 3 (en (re (by cases H;exact pr (rO (v:=.agg [.d (.int .i64 1),.d (.int .u8 1),.osl 1 6 0 (l_1.length)]) [1] (a1 (c1 vd (c1 vd (c1 vo (c0))))))))))
 refine sr (ck 2 (en (bk 0 (sr (ck 2 (en (cn H (λ H=>?_) (λ H=>?_))))))))
 ·exact sr (ck 2 (bx H λ r96 h349 H=>ca false (GQ h349) (sF (ck 1 (bx H λ r97 h350 H=>ca false (AQ h350) (sF (ck 1 (bx H λ r98 h351 H=>ca false (AQ h351) (sF (ck 1 (bx H λ r99 h352 H=>ca false (AQ h352) (ck 1 (bx H λ l43 h353 H=>sp (B5 An 1 6 h353) (ck 1 (en (sr (ck 3 (en (re (qR (qr (by cases H;exact pr (rO (v:=.agg [.d (.int .i64 2),.d (.int .u8 3),.osl 7 6 0 (l43.length)]) [7] (a1 (c1 vd (c1 vd (c1 vo (c0))))))))))))))))))))))))))))
 ·refine sr (ck 2 (en (cn H (λ H=>?_) (λ H=>?_))))
  ·exact sr (ck 2 (bx H λ r100 h354 H=>ca false (GQ h354) (sF (ck 1 (bx H λ r101 h355 H=>ca false (AQ h355) (sF (ck 1 (bx H λ r102 h356 H=>ca false (AQ h356) (ck 1 (bx H λ l44 h357 H=>sp (B5 An 1 6 h357) (ck 1 (en (sr (ck 3 (en (re (qR (qr (by cases H;exact pr (rO (v:=.agg [.d (.int .i64 2),.d (.int .u8 1),.osl 7 6 0 (l44.length)]) [7] (a1 (c1 vd (c1 vd (c1 vo (c0)))))))))))))))))))))))))
  ·refine sr (ck 2 (en (cn H (λ H=>?_) (λ H=>?_))))
   ·exact rz (ck 1 (sF (ck 1 (bx H λ r103 h358 H=>ca false (AQ h358) (sF (ck 1 (bx H λ r104 h359 H=>ca false (AQ h359) (sF (ck 1 (bx H λ r105 h360 H=>ca false (AQ h360) (ck 1 (bx H λ l45 h361 H=>sp (B5 An 1 6 h361) (ck 1 (ae (qN (qs (tr (Bt 0 2 6 (by kernel_rfl)) (sg [2,3])) (hFR2_Base_J1 l45 H)))))))))))))))))
   ·refine sr (ck 2 (en (cn H (λ H=>?_) (λ H=>?_))))
    ·exact rz (ck 1 (sF (ck 1 (bx H λ r106 h362 H=>ca false (AQ h362) (ck 1 (bx H λ l46 h363 H=>sp (B5 An 1 6 h363) (ck 1 (ae (qN (qs (tr (Bt 0 2 6 (by kernel_rfl)) (sg [2,3])) (hFR2_Base_J1 l46 H)))))))))))
    ·refine sr (ck 2 (en (cn H (λ H=>?_) (λ H=>?_))))
     ·exact sr (sF (ck 1 (bx H λ r107 h364 H=>ca false (AQ h364) (sF (ck 1 (bx H λ r108 h365 H=>ca false (AQ h365) (ck 4 (en (sr (ck 4 (en (rz (ck 3 (sF (ck 1 (bx H λ r109 h366 H=>ca false (AQ h366) (ck 1 (bx H λ l47 h367 H=>sp (B5 An 1 6 h367) (ck 1 (ae (qN (qs (tr (Bt 0 2 6 (by kernel_rfl)) (sg [2,3])) (hFR2_Base_J1 l47 H)))))))))))))))))))))))
     ·refine sr (ck 2 (en (cn H (λ H=>?_) (λ H=>?_))))
      ·exact sr (ck 2 (bx H λ r110 h368 H=>ca false (GQ h368) (sF (ck 1 (bx H λ r111 h369 H=>ca false (AQ h369) (sF (ck 1 (bx H λ r112 h370 H=>ca false (AQ h370) (ck 1 (bx H λ l48 h371 H=>sp (B5 An 1 6 h371) (ck 1 (en (sr (ck 3 (en (re (qR (qr (by cases H;exact pr (rO (v:=.agg [.d (.int .i64 2),.d (.int .u8 1),.osl 7 6 0 (l48.length)]) [7] (a1 (c1 vd (c1 vd (c1 vo (c0)))))))))))))))))))))))))
      ·refine sr (ck 2 (en (cn H (λ H=>?_) (λ H=>?_))))
       ·exact rz (ck 1 (sF (ck 1 (bx H λ r113 h372 H=>ca false (AQ h372) (sF (ck 1 (bx H λ r114 h373 H=>ca false (AQ h373) (sF (ck 1 (bx H λ r115 h374 H=>ca false (AQ h374) (ck 1 (bx H λ l49 h375 H=>sp (B5 An 1 6 h375) (ck 1 (ae (qN (qs (tr (Bt 0 2 6 (by kernel_rfl)) (sg [2,3])) (hFR2_Base_J1 l49 H)))))))))))))))))
       ·exact sk (qN (qs (tr (Bt 0 2 6 (by kernel_rfl)) (sg [2,3])) (hFR2_Base_J1 r95 H)))
end
section
variable (p0_:Dj) (p1_:Int) (out_1:Az) (i_10:Int) (out_2:Az) (out_3:Az) (i_11:Int) (out_4:Az)
def JhZ:St:=⟨(0,.agg [.d (.sl (p0_.P.map eU8)),.d (.sl (p0_.C.map eU8)),.d (.int .u8 p0_.L),.d (.int .u8 p0_.R),.d (.int .u8 p0_.W.a0),.d (.int .u8 p0_.W.a1)])::(1,.d (.int .i64 p1_))::[],[]⟩
def Jh0:St:=⟨(2,.ptr 0 0)::(4,.ptr 1 0)::(5,.d (.str [97,98,99,65,66,49,50,45,46]))::(7,.ptr 2 0)::(8,.d (.int .i64 i_10))::[],[some (.box (OX p0_)),some (.box [.d (.str []),.osl 3 1 0 (List.length ([]:List Int)),.d (.int .u8 0),.d (.int .u8 0),.d (.int .i64 0),.d (.int .i64 0)]),some (.box (RE out_1 (.osl 4 1 0 (out_1.Cells.length)))),some (.arr 1 (List.map eU8 ([]:List Int))),some (.arr 1 (out_1.Cells.map eU8))]⟩
def Jh1:St:=⟨(2,.ptr 0 0)::(4,.ptr 1 0)::(7,.ptr 2 0)::[],[some (.box (OX p0_)),some (.box [.d (.str []),.osl 3 1 0 (List.length ([]:List Int)),.d (.int .u8 0),.d (.int .u8 0),.d (.int .i64 0),.d (.int .i64 0)]),some (.box (RE out_2 (.osl 4 1 0 (out_2.Cells.length)))),some (.arr 1 (List.map eU8 ([]:List Int))),some (.arr 1 (out_2.Cells.map eU8))]⟩
def TL:Az->Ex->St->Prop:=xX 0 0 (λ (y:Az)=>Jh1 p0_ y)
def ND:(Az×Int)->St:=(λ (x:(Az×Int))=>Jh0 p0_ x.1 x.2)
def Jh2:St:=⟨(2,.ptr 0 0)::(4,.ptr 1 0)::(7,.ptr 2 0)::(10,.osl 3 1 0 (List.length [1,3,9,5,7,32,44,60]))::(11,.d (.int .i64 i_11))::[],[some (.box (OX p0_)),some (.box [.d (.str []),.osl 4 1 0 (List.length ([]:List Int)),.d (.int .u8 0),.d (.int .u8 0),.d (.int .i64 0),.d (.int .i64 0)]),some (.box (RE out_3 (.osl 5 1 0 (out_3.Cells.length)))),some (.arr 1 (List.map eU8 [1,3,9,5,7,32,44,60])),some (.arr 1 (List.map eU8 ([]:List Int))),some (.arr 1 (out_3.Cells.map eU8))]⟩
def Jh3:St:=⟨(4,.ptr 0 0)::(7,.ptr 1 0)::[],[some (.box [.d (.str []),.osl 2 1 0 (List.length ([]:List Int)),.d (.int .u8 0),.d (.int .u8 0),.d (.int .i64 0),.d (.int .i64 0)]),some (.box (RE out_4 (.osl 3 1 0 (out_4.Cells.length)))),some (.arr 1 (List.map eU8 ([]:List Int))),some (.arr 1 (out_4.Cells.map eU8))]⟩
def TM:Az->Ex->St->Prop:=xX 0 2 (λ (y:Az)=>Jh3 y)
def NE:(Az×Int)->St:=(λ (x:(Az×Int))=>Jh2 p0_ x.1 x.2)
variable {p0_ p1_ out_1 i_10 out_2 out_3 i_11 out_4}
theorem S0 (x:(Az×Int)) (z:((Az×Int)⊕Az)) (H:FI n p0_ x.1 x.2=some z):WP (cxk 101 0) (Ax Try.f22) [1,1,1,0,1,0,0] (Av 0 (ND p0_) (TL p0_) z) (ND p0_ x):=by
 obtain ⟨out_1,i_10⟩:=x
 refine sq (sr (ck 3 (sp (AE eU8 p0_.P) (ck 3 (gc 1 (decide (i_10<((p0_.P.length:Nat):Int))) (pA (en (cn H (λ H=>?_) (λ H=>?_)))))))))
 ·exact sk (qz (sq (bk 1 (sr (ck 3 (bx H λ x136 h380 H=>sp (Ao eU8 h380) (ck 4 (en (rz (ck 6 (bx H λ s9 h381 H=>sp (KH h381) (bx H λ s10 h382 H=>sp (Vg h382) (ck 2 (ae (qN (qz (rz (ck 3 (ae (by cases H;exact og (sg [2,4,5,7,8])))))))))))))))))))))
 ·exact ex 0 (qx (by cases H;exact xo rfl (sg [2,4,7])))
theorem S1 (x:(Az×Int)) (z:((Az×Int)⊕Az)) (H:FJ n p0_ x.1 x.2=some z):WP (cxk 101 0) (Ax Try.f22) [1,1,1,1,1,1,0,1,0,0] (Av 0 (NE p0_) (TM) z) (NE p0_ x):=by
 obtain ⟨out_3,i_11⟩:=x
 refine sq (sr (ck 3 (sp (AE eU8 p0_.C) (ck 3 (gc 1 (decide (i_11<((p0_.C.length:Nat):Int))) (pA (en (cn H (λ H=>?_) (λ H=>?_)))))))))
 ·exact sk (qz (sq (bk 3 (rz (ck 6 (bx H λ x138 h385 H=>sp (Ao eU8 h385) (ck 2 (bx H λ x139 h386 H=>sp (As 3 1 h386) (sp (Ct eU8 3 0 (ty 64) h386) (ck 1 (bx H λ l50 h387 H=>sp (B5 eU8 5 1 h387) (ck 2 (ae (qN (qz (rz (ck 3 (ae (by cases H;exact og (sg [2,4,7,10,11]))))))))))))))))))))
 ·exact ex 2 (qx (by cases H;exact xo rfl (sg [4,7])))
theorem W5 {z} (H:OU n p0_ p1_=some z):AM Try.prog 22 [.agg (OX p0_),.d (.int .i64 p1_)] (.agg [.d (.str z.Print),.own 1 (z.Cells.map eU8),.d (.int .u8 z.Left),.d (.int .u8 z.Right),.d (.int .i64 z.From),.d (.int .i64 z.To)]):=by
 exact fO 101 (JhZ p0_ p1_) Try.func22 (sr (ck 2 (en (sr (ck 3 (en (sr (ck 4 (bx H λ x134 h376 H=>sp (As 2 1 h376) (sp (Ct eU8 2 0 (ty 5) h376) (ck 4 (bx H λ x135 h377 H=>sp (As 2 1 h377) (sp (Ct eU8 2 0 (ty 5) h377) (ck 5 (bx H λ gd10 h378 H=>so (SF h378) (ck 5 (bx H λ gd11 h379 H=>so (SF h379) (ck 3 (en (sq (sr (ck 1 (en (bk 0 (bx H λ y85 h383 H=>lX S0 h383 (tr (tr (Bt 1 1 1 (by kernel_rfl)) (Bt 3 1 1 (by kernel_rfl))) (sg [2,4,5,7,8])) rfl λ s hE69=>qH (qs (hE69) (sr (ck 2 (en (sr (ck 5 (bx H λ x137 h384 H=>sp (As 5 1 h384) (sp (Ct eU8 5 0 (ty 64) h384) (ck 3 (en (sq (sr (ck 1 (en (bk 2 (bx H λ y86 h388 H=>lX S1 h388 (sg [2,4,7,10,11]) rfl λ s hE70=>qH (qs (hE70) (sr (ck 2 (en (re (by cases H;exact pr (rO (v:=.agg [.d (.str z.Print),.osl 3 1 0 (z.Cells.length),.d (.int .u8 z.Left),.d (.int .u8 z.Right),.d (.int .i64 z.From),.d (.int .i64 z.To)]) [3] (a1 (c1 vd (c1 vo (c1 vd (c1 vd (c1 vd (c1 vd (c0))))))))))))))))))))))))))))))))))))))))))))))))))))))))
end
section
variable (p0_:Int)
def Jh4:St:=⟨(0,.d (.int .u8 p0_))::[],[]⟩
variable {p0_}
theorem Qc {z} (H:Js n p0_=some z):AM Try.prog 55 [.d (.int .u8 p0_)] (.d (.bool z)):=by
 exact fO 11 (Jh4 p0_) Try.func55 (sr (ck 1 (en (sr (ck 5 (gc 2 (decide (Cp .u8 p0_ 127>=32)) (pA (ck 1 (en (re (by cases H;exact pr rd)))))))))))
end
section
variable (p0_:(List UInt8)) (i_12:Int)
def Jh5:St:=⟨(0,.d (.str p0_))::[],[]⟩
def Jh6:St:=⟨(0,.d (.str p0_))::(4,.d (.int .i64 i_12))::[],[]⟩
def Jh7:St:=⟨(0,.d (.str p0_))::[],[]⟩
def TN:(Unit⊕(Int×Int))->Ex->St->Prop:=xS (xX 0 0 (λ (_:Unit)=>Jh7 p0_)) (xR ty Try.f29 (λ (y:(Int×Int))=>.tup [.d (.int .i64 y.1),.d (.int .i64 y.2)]))
def NF:Int->St:=(λ (x:Int)=>Jh6 p0_ x)
variable {p0_ i_12}
theorem MD (x:Int) (z:(Int⊕(Unit⊕(Int×Int)))) (H:IW n p0_ x=some z):WP (cxk 19 0) (Ax Try.f29) [1,0,1,0,0] (Av 0 (NF p0_) (TN p0_) z) (NF p0_ x):=by
 revert H
 generalize x=i_12
 intro H
 refine sq (sr (ck 4 (en (cn H (λ H=>?_) (λ H=>?_)))))
 ·refine sk (qz (sq (bk 1 (sr (ck 2 (bx H λ b6 h389 H=>sp (GX h389) (bx H λ r116 h390 H=>ca false (Qc h390) (ck 1 (en (cn H (λ H=>?_) (λ H=>?_)))))))))))
  ·exact sr (ck 3 (en (re (qR (qr (by cases H;exact ro rfl rdT))))))
  ·exact sk (qN (qz (rz (ck 3 (ae (by cases H;exact og (sg [0,4])))))))
 ·exact ex 0 (qx (by cases H;exact xo rfl (sg [0])))
theorem QX {z} (H:Mq n p0_=some z):AM Try.prog 29 [.d (.str p0_)] (.tup [.d (.int .i64 z.1),.d (.int .i64 z.2)]):=by
 refine fO 19 (Jh5 p0_) Try.func29 (sr (ck 2 (en (sq (sr (ck 1 (en (bk 0 (bx H λ y87 h391 H=>?_)))))))))
 rcases y87 with y88|y89
 ·exact lX MD h391 (sg [0,4]) rfl λ s hE71=>qH (qs (hE71) (sr (ck 4 (en (re (by cases H;exact pr rdT))))))
 ·exact lR MD h391 (sg [0,4]) rfl λ s hE72=>qR (qr (by cases H;exact pr hE72))
end
section
variable (p0_:(List UInt8))
def Jh8:St:=⟨(0,.d (.str p0_))::[],[]⟩
variable {p0_}
theorem TO {z} (H:KM n p0_=some z):AM Try.prog 12 [.d (.str p0_)] (.d (.bool z)):=by
 exact fO 12 (Jh8 p0_) Try.func12 (sr (ck 1 (en (sr (ck 1 (bx H λ r117 h392 H=>ca false (QX h392) (ck 5 (en (sr (ck 3 (en (re (by cases H;exact pr rd)))))))))))))
end
section
variable (p0_:Int)
def Jh9:St:=⟨(0,.d (.int .u8 p0_))::[],[]⟩
variable {p0_}
theorem Vu {z} (H:PY n p0_=some z):AM Try.prog 77 [.d (.int .u8 p0_)] (.d (.bool z)):=by
 exact fO 6 (Jh9 p0_) Try.func77 (sr (ck 1 (en (sr (ck 4 (en (re (by cases H;exact pr rd))))))))
end
section
variable (p0_:Az) (p1_:Int) (space_1:Bool) (i_13:Int) (space_2:Bool) (y90:Bool) (blank_1:Bool) (i_14:Int) (blank_2:Bool)
def Jia:St:=⟨(0,.agg [.d (.str p0_.Print),.d (.sl (p0_.Cells.map eU8)),.d (.int .u8 p0_.Left),.d (.int .u8 p0_.Right),.d (.int .i64 p0_.From),.d (.int .i64 p0_.To)])::(1,.d (.int .i64 p1_))::[],[]⟩
def Jib:St:=⟨(2,.ptr 0 0)::(5,.d (.bool space_1))::(6,.d (.bool false))::(7,.d (.int .i64 i_13))::[],[some (.box (Ms p0_))]⟩
def Jic:St:=⟨(2,.ptr 0 0)::(5,.d (.bool space_2))::(6,.d (.bool false))::[],[some (.box (Ms p0_))]⟩
def S2:Bool->Ex->St->Prop:=xX 0 0 (λ (y:Bool)=>Jic p0_ y)
def ME:(Bool×Int)->St:=(λ (x:(Bool×Int))=>Jib p0_ x.1 x.2)
def Jid:St:=⟨(2,.ptr 0 0)::(5,.d (.bool y90))::(6,.d (.bool blank_1))::(8,.d (.int .i64 i_14))::[],[some (.box (Ms p0_))]⟩
def Jie:St:=⟨(2,.ptr 0 0)::(5,.d (.bool y90))::(6,.d (.bool blank_2))::[],[some (.box (Ms p0_))]⟩
def S3:(Bool⊕Bool)->Ex->St->Prop:=xS (xX 0 2 (λ (y:Bool)=>Jie p0_ y90 y)) (xR ty Try.f65 (λ (y:Bool)=>.d (.bool y)))
def MF:(Bool×Int)->St:=(λ (x:(Bool×Int))=>Jid p0_ y90 x.1 x.2)
variable {p0_ p1_ space_1 i_13 space_2 y90 blank_1 i_14 blank_2}
theorem Ri (x:(Bool×Int)) (z:((Bool×Int)⊕Bool)) (H:Ew n p0_ x.1 x.2=some z):WP (cxk 125 0) (Ax Try.f65) [1,1,1,1,0,1,0,0] (Av 0 (ME p0_) (S2 p0_) z) (ME p0_ x):=by
 obtain ⟨space_1,i_13⟩:=x
 refine sq (sr (ck 5 (en (cn H (λ H=>?_) (λ H=>?_)))))
 ·exact sk (qz (sq (bk 1 (rz (ck 3 (gc 1 (!space_1) (ck 1 (bx H λ b7 h394 H=>sE (λ hg=>GX (Bq h394 hg)) (bx H λ r119 h395 H=>cG false (leZ) rfl (λ hg=>Vu (Bq h395 hg)) (Or.inl rfl) (B1 (λ hh=>hh) (D6)) rfl (pO (ck 1 (ae (qN (qz (rz (ck 3 (ae (by cases H;exact og (sg [2,5,6,7])))))))))))))))))))
 ·exact ex 0 (qx (by cases H;exact xo rfl (sg [2,5,6])))
theorem LF (x:(Bool×Int)) (z:((Bool×Int)⊕(Bool⊕Bool))) (H:DB n p0_ y90 x.1 x.2=some z):WP (cxk 125 0) (Ax Try.f65) [1,1,1,1,1,0,1,0,0] (Av 0 (MF p0_ y90) (S3 p0_ y90) z) (MF p0_ y90 x):=by
 obtain ⟨blank_1,i_14⟩:=x
 refine sq (sr (ck 3 (sp (AE eU8 p0_.Cells) (ck 1 (en (cn H (λ H=>?_) (λ H=>?_)))))))
 ·refine sk (qz (sq (bk 3 (sq (sr (ck 3 (bx H λ x140 h397 H=>sp (Ao eU8 h397) (ck 2 (en (cn H (λ H=>?_) (λ H=>?_)))))))))))
  ·exact sr (ck 1 (en (re (qr (qR (qr (by cases H;exact ro rfl rd)))))))
  ·exact sk (qz (rz (ck 3 (gc 1 (!blank_1) (ck 1 (bx H λ x141 h398 H=>sE (λ hg=>Ao eU8 (Bq h398 hg)) (gc 2 (!blank_1) (pO (ck 1 (ae (qN (qz (rz (ck 3 (ae (by cases H;exact og (sg [2,5,6,8])))))))))))))))))
 ·exact ex 2 (qx (by cases H;exact xo rfl (sg [2,5,6])))
theorem Vv {z} (H:M0 n p0_ p1_=some z):AM Try.prog 65 [.agg (Ms p0_),.d (.int .i64 p1_)] (.d (.bool z)):=by
 refine fO 125 (Jia p0_ p1_) Try.func65 (sr (ck 2 (en (sq (sr (ck 2 (bx H λ r118 h393 H=>ca false (TO h393) (ck 3 (gc 3 (!(!r118)) (pO (ck 2 (gc 1 (!((!r118)||(decide (((p0_.Print.length:Nat):Int)>4)))) (sE (g:=(!((!r118)||(decide (((p0_.Print.length:Nat):Int)>4))))) (λ hg=>AE eU8 p0_.Cells) (gc 1 (!((!r118)||(decide (((p0_.Print.length:Nat):Int)>4)))) (pO (ck 2 (gc 1 (!(((!r118)||(decide (((p0_.Print.length:Nat):Int)>4)))||(decide (((p0_.Cells.length:Nat):Int)<1)))) (sE (g:=(!(((!r118)||(decide (((p0_.Print.length:Nat):Int)>4)))||(decide (((p0_.Cells.length:Nat):Int)<1))))) (λ hg=>AE eU8 p0_.Cells) (gc 1 (!(((!r118)||(decide (((p0_.Print.length:Nat):Int)>4)))||(decide (((p0_.Cells.length:Nat):Int)<1)))) (pO (en (cn H (λ H=>?_) (λ H=>?_)))))))))))))))))))))))
 ·exact sr (ck 1 (en (re (qr (by cases H;exact pr rd)))))
 ·refine sk (qz (sq (sr (ck 5 (gc 2 (!(decide (p0_.Left<1))) (pO (ck 2 (gc 2 (!((decide (p0_.Left<1))||(decide (p0_.Left>63)))) (pO (ck 2 (gc 2 (!(((decide (p0_.Left<1))||(decide (p0_.Left>63)))||(decide (p0_.Right<1)))) (pO (ck 2 (gc 2 (!((((decide (p0_.Left<1))||(decide (p0_.Left>63)))||(decide (p0_.Right<1)))||(decide (p0_.Right>63)))) (pO (ck 2 (gc 1 (!(((((decide (p0_.Left<1))||(decide (p0_.Left>63)))||(decide (p0_.Right<1)))||(decide (p0_.Right>63)))||(decide (p0_.From<0)))) (ck 1 (gc 1 (!(((((decide (p0_.Left<1))||(decide (p0_.Left>63)))||(decide (p0_.Right<1)))||(decide (p0_.Right>63)))||(decide (p0_.From<0)))) (pO (ck 2 (gc 2 (!((((((decide (p0_.Left<1))||(decide (p0_.Left>63)))||(decide (p0_.Right<1)))||(decide (p0_.Right>63)))||(decide (p0_.From<0)))||(decide (p0_.From>=p1_)))) (pO (ck 2 (gc 1 (!(((((((decide (p0_.Left<1))||(decide (p0_.Left>63)))||(decide (p0_.Right<1)))||(decide (p0_.Right>63)))||(decide (p0_.From<0)))||(decide (p0_.From>=p1_)))||(decide (p0_.To<0)))) (ck 1 (gc 1 (!(((((((decide (p0_.Left<1))||(decide (p0_.Left>63)))||(decide (p0_.Right<1)))||(decide (p0_.Right>63)))||(decide (p0_.From<0)))||(decide (p0_.From>=p1_)))||(decide (p0_.To<0)))) (pO (en (cn H (λ H=>?_) (λ H=>?_)))))))))))))))))))))))))))))))
  ·exact sr (ck 1 (en (re (qr (by cases H;exact pr rd)))))
  ·refine sk (qz (sr (ck 2 (en (sq (sr (ck 1 (en (bk 0 (bx H λ y90 h396 H=>lX Ri h396 (sg [2,5,6,7]) rfl λ s hE73=>qH (qs (hE73) (sq (sr (ck 1 (en (bk 2 (bx H λ y91 h399 H=>?_)))))))))))))))))
   rcases y91 with y92|y93
   ·refine lX LF h399 (sg [2,5,6,8]) rfl λ s hE74=>qH (qs (hE74) (sq (sr (ck 2 (en (cn H (λ H=>?_) (λ H=>?_)))))))
    ·exact sr (ck 3 (en (re (qr (by cases H;exact pr rd)))))
    ·exact sk (qz (sr (ck 6 (gc 1 (((p0_.Print.length:Nat):Int)==1) (sE (g:=(((p0_.Print.length:Nat):Int)==1)) (λ hg=>AE eU8 p0_.Cells) (gc 1 (((p0_.Print.length:Nat):Int)==1) (pA (ck 2 (pA (ck 1 (en (re (by cases H;exact pr rd)))))))))))))
   ·exact lR LF h399 (sg [2,5,6,8]) rfl λ s hE75=>qR (qr (by cases H;exact pr hE75))
end
section
variable (p0_:Az) (p1_:Az)
def Jif:St:=⟨(0,.agg [.d (.str p0_.Print),.d (.sl (p0_.Cells.map eU8)),.d (.int .u8 p0_.Left),.d (.int .u8 p0_.Right),.d (.int .i64 p0_.From),.d (.int .i64 p0_.To)])::(1,.agg [.d (.str p1_.Print),.d (.sl (p1_.Cells.map eU8)),.d (.int .u8 p1_.Left),.d (.int .u8 p1_.Right),.d (.int .i64 p1_.From),.d (.int .i64 p1_.To)])::[],[]⟩
variable {p0_ p1_}
theorem Rj {z} (H:HI n p0_ p1_=some z):AM Try.prog 66 [.agg (Ms p0_),.agg (Ms p1_)] (.d (.bool z)):=by
 exact fO 45 (Jif p0_ p1_) Try.func66 (sr (ck 3 (en (sr (ck 7 (gc 1 (p0_.Print==p1_.Print) (ck 1 (gc 1 (p0_.Print==p1_.Print) (bx H λ r120 h400 H=>cG false (leZ) rfl (λ hg=>J5 (Bq h400 hg)) (Or.inl rfl) (B1 (λ hh=>hh) (B1 (λ hh=>hh) (D6))) rfl (pA (ck 2 (gc 1 ((p0_.Print==p1_.Print)&&r120) (ck 1 (gc 2 ((p0_.Print==p1_.Print)&&r120) (pA (ck 2 (gc 1 (((p0_.Print==p1_.Print)&&r120)&&(p0_.Left==p1_.Left)) (ck 1 (gc 2 (((p0_.Print==p1_.Print)&&r120)&&(p0_.Left==p1_.Left)) (pA (ck 2 (gc 1 ((((p0_.Print==p1_.Print)&&r120)&&(p0_.Left==p1_.Left))&&(p0_.Right==p1_.Right)) (ck 1 (gc 2 ((((p0_.Print==p1_.Print)&&r120)&&(p0_.Left==p1_.Left))&&(p0_.Right==p1_.Right)) (pA (ck 2 (gc 1 (((((p0_.Print==p1_.Print)&&r120)&&(p0_.Left==p1_.Left))&&(p0_.Right==p1_.Right))&&(p0_.From==p1_.From)) (ck 1 (gc 2 (((((p0_.Print==p1_.Print)&&r120)&&(p0_.Left==p1_.Left))&&(p0_.Right==p1_.Right))&&(p0_.From==p1_.From)) (pA (ck 1 (en (re (by cases H;exact pr rd))))))))))))))))))))))))))))))))))
end
section
variable (p0_:Ad) (i_15:Int) (k_2:Int)
def Jig:St:=⟨(0,.agg [.d (.int .i64 p0_.Modes),.d (.int .u8 p0_.Accept),.d (.sl (p0_.Rules.map An))])::[],[]⟩
def Jih:St:=⟨(1,.ptr 0 0)::(4,.d (.int .i64 i_15))::[],[some (.box (Ay p0_))]⟩
def Jii:St:=⟨[],[]⟩
def Jij:St:=⟨(1,.ptr 0 0)::(4,.d (.int .i64 i_15))::(5,.d (.int .i64 k_2))::[],[some (.box (Ay p0_))]⟩
def Jik:St:=⟨(1,.ptr 0 0)::(4,.d (.int .i64 i_15))::[],[some (.box (Ay p0_))]⟩
def S4:(Unit⊕(Int×Int))->Ex->St->Prop:=xS (xX 0 2 (λ (_:Unit)=>Jik p0_ i_15)) (xR ty Try.f43 (λ (y:(Int×Int))=>.tup [.d (.int .i64 y.1),.d (.int .i64 y.2)]))
def MG:Int->St:=(λ (x:Int)=>Jij p0_ i_15 x)
def S5:(Unit⊕(Int×Int))->Ex->St->Prop:=xS (xX 0 0 (λ (_:Unit)=>Jii)) (xR ty Try.f43 (λ (y:(Int×Int))=>.tup [.d (.int .i64 y.1),.d (.int .i64 y.2)]))
def MH:Int->St:=(λ (x:Int)=>Jih p0_ x)
variable {p0_ i_15 k_2}
theorem LG (x:Int) (z:(Int⊕(Unit⊕(Int×Int)))) (H:F5 n p0_ i_15 x=some z):WP (cxk 74 0) (Ax Try.f43) [1,1,0,1,0,0,1,0,0,1,1,0,0] (Av 0 (MG p0_ i_15) (S4 p0_ i_15) z) (MG p0_ i_15 x):=by
 revert H
 generalize x=k_2
 intro H
 refine sq (sr (ck 3 (en (cn H (λ H=>?_) (λ H=>?_)))))
 ·refine sk (qz (sq (bk 3 (sr (ck 3 (bx H λ x143 h404 H=>sp (Ao An h404) (ck 4 (bx H λ x144 h405 H=>sp (Ao An h405) (ck 1 (bx H λ r122 h406 H=>ca false (Rj h406) (en (cn H (λ H=>?_) (λ H=>?_)))))))))))))
  ·exact sr (ck 3 (en (re (qR (qr (by cases H;exact ro rfl rdT))))))
  ·exact sk (qN (qz (rz (ck 3 (ae (by cases H;exact og (sg [1,4,5])))))))
 ·exact ex 2 (qx (by cases H;exact xo rfl (sg [1,4])))
theorem LH (x:Int) (z:(Int⊕(Unit⊕(Int×Int)))) (H:F6 n p0_ x=some z):WP (cxk 74 0) (Ax Try.f43) [1,1,0,1,0,0] (Av 0 (MH p0_) (S5) z) (MH p0_ x):=by
 revert H
 generalize x=i_15
 intro H
 refine sq (sr (ck 3 (sp (AE An p0_.Rules) (ck 1 (en (cn H (λ H=>?_) (λ H=>?_)))))))
 ·refine sk (qz (sq (bk 1 (sq (sr (ck 3 (bx H λ x142 h402 H=>sp (Ao An h402) (ck 3 (bx H λ r121 h403 H=>ca false (Vv h403) (ck 1 (en (cn H (λ H=>?_) (λ H=>?_)))))))))))))
  ·exact sr (ck 3 (en (re (qr (qR (qr (by cases H;exact ro rfl rdT)))))))
  ·refine sk (qz (sr (ck 1 (en (bk 2 (bx H λ y94 h407 H=>?_))))))
   rcases y94 with y95|y96
   ·exact lX LG h407 (sg [1,4,5]) rfl λ s hE76=>qH (qN (qs (hE76) (rz (ck 3 (ae (by cases H;exact og (sg [1,4])))))))
   ·exact lR LG h407 (sg [1,4,5]) rfl λ s hE77=>qR (qR (qr (by cases H;exact ro rfl hE77)))
 ·exact ex 0 (qx (by cases H;exact xo rfl (sg [])))
theorem Vw {z} (H:M1 n p0_=some z):AM Try.prog 43 [.agg (Ay p0_)] (.tup [.d (.int .i64 z.1),.d (.int .i64 z.2)]):=by
 refine fO 74 (Jig p0_) Try.func43 (sr (ck 3 (en (sq (sr (ck 5 (gc 2 (!(decide (p0_.Modes<1))) (pO (ck 2 (gc 2 (!((decide (p0_.Modes<1))||(decide (p0_.Modes>8)))) (pO (ck 2 (gc 2 (!(((decide (p0_.Modes<1))||(decide (p0_.Modes>8)))||(p0_.Accept==0))) (ck 1 (gc 1 (!(((decide (p0_.Modes<1))||(decide (p0_.Modes>8)))||(p0_.Accept==0))) (bx H λ gd12 h401 H=>soG (λ hg=>H4 (Bq h401 hg)) (B1 (λ hh=>hh) (D6)) (gc 1 (!(((decide (p0_.Modes<1))||(decide (p0_.Modes>8)))||(p0_.Accept==0))) (pO (ck 2 (gc 1 (!((((decide (p0_.Modes<1))||(decide (p0_.Modes>8)))||(p0_.Accept==0))||(decide (IntKind.i64.wrap p0_.Accept>=Sr .i64 1 p0_.Modes)))) (sE (g:=(!((((decide (p0_.Modes<1))||(decide (p0_.Modes>8)))||(p0_.Accept==0))||(decide (IntKind.i64.wrap p0_.Accept>=Sr .i64 1 p0_.Modes))))) (λ hg=>AE An p0_.Rules) (gc 1 (!((((decide (p0_.Modes<1))||(decide (p0_.Modes>8)))||(p0_.Accept==0))||(decide (IntKind.i64.wrap p0_.Accept>=Sr .i64 1 p0_.Modes)))) (pO (ck 2 (gc 1 (!(((((decide (p0_.Modes<1))||(decide (p0_.Modes>8)))||(p0_.Accept==0))||(decide (IntKind.i64.wrap p0_.Accept>=Sr .i64 1 p0_.Modes)))||(decide (((p0_.Rules.length:Nat):Int)<1)))) (sE (g:=(!(((((decide (p0_.Modes<1))||(decide (p0_.Modes>8)))||(p0_.Accept==0))||(decide (IntKind.i64.wrap p0_.Accept>=Sr .i64 1 p0_.Modes)))||(decide (((p0_.Rules.length:Nat):Int)<1))))) (λ hg=>AE An p0_.Rules) (gc 1 (!(((((decide (p0_.Modes<1))||(decide (p0_.Modes>8)))||(p0_.Accept==0))||(decide (IntKind.i64.wrap p0_.Accept>=Sr .i64 1 p0_.Modes)))||(decide (((p0_.Rules.length:Nat):Int)<1)))) (pO (en (cn H (λ H=>?_) (λ H=>?_)))))))))))))))))))))))))))))))
 ·exact sr (ck 2 (en (re (qr (by cases H;exact pr rdT)))))
 ·refine sk (qz (sq (sr (ck 1 (en (bk 0 (bx H λ y97 h408 H=>?_)))))))
  rcases y97 with y98|y99
  ·exact lX LH h408 (sg [1,4]) rfl λ s hE78=>qH (qs (hE78) (sr (ck 2 (en (re (by cases H;exact pr rdT))))))
  ·exact lR LH h408 (sg [1,4]) rfl λ s hE79=>qR (qr (by cases H;exact pr hE79))
end
section
variable (p0_:Ad)
def Jil:St:=⟨(0,.agg [.d (.int .i64 p0_.Modes),.d (.int .u8 p0_.Accept),.d (.sl (p0_.Rules.map An))])::[],[]⟩
variable {p0_}
theorem Vx {z} (H:PZ n p0_=some z):AM Try.prog 23 [.agg (Ay p0_)] (.d (.bool z)):=by
 exact fO 12 (Jil p0_) Try.func23 (sr (ck 2 (en (sr (ck 1 (bx H λ r123 h409 H=>ca false (Vw h409) (ck 5 (en (sr (ck 3 (en (re (by cases H;exact pr rd)))))))))))))
end
section
variable (p0_:Ng) (r124:Ad) (t_3:Ad) (i_16:Int) (t_4:Ad) (t_5:Ad) (t_6:Ad) (i_17:Int) (t_7:Ad) (t_8:Ad) (t_9:Ad)
def Jkp:St:=⟨(0,.agg [.d (.int .u8 p0_.Base),.d (.int .u8 p0_.Drop),.d (.sl (p0_.More.map FP))])::[],[]⟩
def Jkq:St:=⟨(1,.ptr 0 0)::(2,.ptr 1 0)::(3,.ptr 2 0)::(4,.osl 3 6 0 (r124.Rules.length))::(5,.d (.int .i64 i_16))::[],[some (.box (Yb p0_)),some (.box [.d (.int .i64 0),.d (.int .u8 0),.osl 4 6 0 (List.length ([]:List Az))]),some (.box (F8 t_3 (.osl 5 6 0 (t_3.Rules.length)))),some (.arr 6 (r124.Rules.map An)),some (.arr 6 (List.map An ([]:List Az))),some (.arr 6 (t_3.Rules.map An))]⟩
def Jkr:St:=⟨(1,.ptr 0 0)::(2,.ptr 1 0)::(3,.ptr 2 0)::(4,.osl 3 6 0 (r124.Rules.length))::[],[some (.box (Yb p0_)),some (.box [.d (.int .i64 0),.d (.int .u8 0),.osl 4 6 0 (List.length ([]:List Az))]),some (.box (F8 t_4 (.osl 5 6 0 (t_4.Rules.length)))),some (.arr 6 (r124.Rules.map An)),some (.arr 6 (List.map An ([]:List Az))),some (.arr 6 (t_4.Rules.map An))]⟩
def Jks:St:=⟨(1,.ptr 0 0)::(2,.ptr 1 0)::(3,.ptr 2 0)::(4,.osl 3 6 0 (r124.Rules.length))::(5,.d (.int .i64 i_16))::[],[some (.box (Yb p0_)),some (.box [.d (.int .i64 0),.d (.int .u8 0),.osl 4 6 0 (List.length ([]:List Az))]),some (.box (F8 t_5 (.osl 5 6 0 (t_5.Rules.length)))),some (.arr 6 (r124.Rules.map An)),some (.arr 6 (List.map An ([]:List Az))),some (.arr 6 (t_5.Rules.map An))]⟩
def TP:Ad->Ex->St->Prop:=xX 0 0 (λ (y:Ad)=>Jkr p0_ r124 y)
def NG:(Ad×Int)->St:=(λ (x:(Ad×Int))=>Jkq p0_ r124 x.1 x.2)
def Jkt:St:=⟨(1,.ptr 0 0)::(2,.ptr 1 0)::(3,.ptr 2 0)::(4,.osl 3 6 0 (r124.Rules.length))::(6,.d (.int .i64 i_17))::[],[some (.box (Yb p0_)),some (.box [.d (.int .i64 0),.d (.int .u8 0),.osl 4 6 0 (List.length ([]:List Az))]),some (.box (F8 t_6 (.osl 5 6 0 (t_6.Rules.length)))),some (.arr 6 (r124.Rules.map An)),some (.arr 6 (List.map An ([]:List Az))),some (.arr 6 (t_6.Rules.map An))]⟩
def Jku:St:=⟨(2,.ptr 0 0)::(3,.ptr 1 0)::(4,.osl 2 6 0 (r124.Rules.length))::[],[some (.box [.d (.int .i64 0),.d (.int .u8 0),.osl 3 6 0 (List.length ([]:List Az))]),some (.box (F8 t_7 (.osl 4 6 0 (t_7.Rules.length)))),some (.arr 6 (r124.Rules.map An)),some (.arr 6 (List.map An ([]:List Az))),some (.arr 6 (t_7.Rules.map An))]⟩
def Jkv:St:=⟨(1,.ptr 0 0)::(2,.ptr 1 0)::(3,.ptr 2 0)::(4,.osl 3 6 0 (r124.Rules.length))::(6,.d (.int .i64 i_17))::[],[some (.box (Yb p0_)),some (.box [.d (.int .i64 0),.d (.int .u8 0),.osl 4 6 0 (List.length ([]:List Az))]),some (.box (F8 t_8 (.osl 5 6 0 (t_8.Rules.length)))),some (.arr 6 (r124.Rules.map An)),some (.arr 6 (List.map An ([]:List Az))),some (.arr 6 (t_8.Rules.map An))]⟩
def TQ:Ad->Ex->St->Prop:=xX 0 2 (λ (y:Ad)=>Jku r124 y)
def NH:(Ad×Int)->St:=(λ (x:(Ad×Int))=>Jkt p0_ r124 x.1 x.2)
def Jkw:St:=⟨(2,.ptr 0 0)::(3,.ptr 1 0)::[],[some (.box [.d (.int .i64 0),.d (.int .u8 0),.osl 2 6 0 (List.length ([]:List Az))]),some (.box (F8 t_9 (.osl 3 6 0 (t_9.Rules.length)))),some (.arr 6 (List.map An ([]:List Az))),some (.arr 6 (t_9.Rules.map An))]⟩
variable {p0_ r124 t_3 i_16 t_4 t_5 t_6 i_17 t_7 t_8 t_9}
theorem S6 (x:(Ad×Int)) (z:((Ad×Int)⊕Ad)) (H:FK n p0_ r124 x.1 x.2=some z):WP (cxk 77 0) (Ax Try.f7) [1,1,1,1,0,1,0,0] (Av 0 (NG p0_ r124) (TP p0_ r124) z) (NG p0_ r124 x):=by
 obtain ⟨t_3,i_16⟩:=x
 refine sq (sr (ck 4 (en (cn H (λ H=>?_) (λ H=>?_)))))
 ·refine sk (qz (sj (λ (x:Ad)=>Jks p0_ r124 i_16 x) (λ (x:Ad)=>Hd n i_16 x) z ?_ (λ hFR2_Made_J1=>?_)))
  ·intro t_5 H
   exact rz (ck 3 (ae (by cases H;exact og (sg [1,2,3,4,5]))))
  refine bk 1 (sr (ck 3 (bx H λ gd13 h411 H=>so (H4 h411) (ck 2 (en (cn H (λ H=>?_) (λ H=>?_)))))))
  ·exact rz (ck 4 (bx H λ x145 h412 H=>sp (As 3 6 h412) (sp (Ct An 3 0 (ty 67) h412) (ck 1 (bx H λ l51 h413 H=>sp (B5 An 5 6 h413) (ck 2 (ae (qN (qs (sg [1,2,3,4,5]) (hFR2_Made_J1 ({ Modes:=t_3.Modes,Accept:=t_3.Accept,Rules:=l51 }:Ad) H))))))))))
  ·exact sk (qN (qs (sg [1,2,3,4,5]) (hFR2_Made_J1 t_3 H)))
 ·exact ex 0 (qx (by cases H;exact xo rfl (sg [1,2,3,4])))
theorem S7 (x:(Ad×Int)) (z:((Ad×Int)⊕Ad)) (H:FL n p0_ r124 x.1 x.2=some z):WP (cxk 77 0) (Ax Try.f7) [1,1,1,1,1,0,1,0,0] (Av 0 (NH p0_ r124) (TQ r124) z) (NH p0_ r124 x):=by
 obtain ⟨t_6,i_17⟩:=x
 refine sq (sr (ck 3 (sp (AE FP p0_.More) (ck 3 (gc 1 (decide (i_17<((p0_.More.length:Nat):Int))) (pA (en (cn H (λ H=>?_) (λ H=>?_)))))))))
 ·refine sk (qz (sj (λ (x:Ad)=>Jkv p0_ r124 i_17 x) (λ (x:Ad)=>He n i_17 x) z ?_ (λ hFR2_Made_J2=>?_)))
  ·intro t_8 H
   exact rz (ck 3 (ae (by cases H;exact og (sg [1,2,3,4,6]))))
  refine bk 3 (sr (ck 5 (bx H λ x146 h415 H=>sp (Ao FP h415) (ck 3 (bx H λ r125 h416 H=>ca false (W5 h416) (ck 1 (bx H λ l52 h417 H=>sp (B5 An 5 6 h417) (ck 2 (en (sr (ck 1 (bx H λ r126 h418 H=>cb (ks:=[7]) (obl:=[(0+List.length l52,List.length (l52.map An))]) false (leK leM (leZ)) (Dt (Jjy (Dt rfl (Dt rfl (Dt SE rfl)))) rfl) (Vx h418) (Or.inr trivial) rfl (ck 1 (en (cn H (λ H=>?_) (λ H=>?_))))))))))))))))
  ·exact rz (ck 6 (bx H λ l53 h419 H=>sp (Jgv 7 6 h419) (ck 2 (ae (qN (qs (tr (Jes (k:=7) (sz:=6) 2 2 (l53.map An) (l53.length) (by kernel_rfl) (Jex h419) (Jgm (enc:=An) h419) (Jey h419)) (sg [1,2,3,4,6])) (hFR2_Made_J2 ({ Modes:=t_6.Modes,Accept:=t_6.Accept,Rules:=l53 }:Ad) H)))))))
  ·exact sk (qN (qs (sg [1,2,3,4,6]) (hFR2_Made_J2 ({ Modes:=t_6.Modes,Accept:=t_6.Accept,Rules:=l52 }:Ad) H)))
 ·exact ex 2 (qx (by cases H;exact xo rfl (sg [2,3,4])))
theorem W6 {z} (H:JY n p0_=some z):AM Try.prog 7 [.agg (Yb p0_)] (.agg [.d (.int .i64 z.Modes),.d (.int .u8 z.Accept),.own 6 (z.Rules.map An)]):=by
 refine fO 77 (Jkp p0_) Try.func7 (sr (ck 2 (en (sr (ck 2 (bx H λ r124 h410 H=>cl [List.length r124.Rules] (W4 h410) (ck 2 (en (sr (ck 3 (en (sr (ck 3 (en (sq (sr (ck 1 (en (bk 0 (bx H λ y100 h414 H=>lX S6 h414 (tr (Bt 1 2 6 (by kernel_rfl)) (sg [1,2,3,4,5])) rfl λ s hE80=>qH (qs (hE80) (sq (sr (ck 1 (en (bk 2 (bx H λ y101 h420 H=>lX S7 h420 (sg [1,2,3,4,6]) rfl λ s hE81=>qH (qs (hE81) (sj (λ (x:Ad)=>Jkw x) (λ (x:Ad)=>Hf n x) z ?_ (λ hFR2_Made_J3=>?_))))))))))))))))))))))))))))))
 ·intro t_9 H
  exact sr (ck 2 (en (re (by cases H;exact pr (rO (v:=.agg [.d (.int .i64 z.Modes),.d (.int .u8 z.Accept),.osl 3 6 0 (z.Rules.length)]) [3] (a1 (c1 vd (c1 vd (c1 vo (c0))))))))))
 refine sr (ck 4 (en (cn H (λ H=>?_) (λ H=>?_))))
 ·exact rz (ck 3 (ae (qs (sg [2,3]) (hFR2_Made_J3 ({ Modes:=y101.Modes,Accept:=y101.Accept,Rules:=r124.Rules }:Ad) H))))
 ·exact sk (qs (sg [2,3]) (hFR2_Made_J3 y101 H))
end
section
variable (p0_:Ad) (p1_:(List Int)) (out_5:(List UInt8)) (i_18:Int) (out_6:(List UInt8)) (out_7:(List UInt8))
def Jkx:St:=⟨(0,.agg [.d (.int .i64 p0_.Modes),.d (.int .u8 p0_.Accept),.d (.sl (p0_.Rules.map An))])::(1,.d (.sl (p1_.map eU8)))::[],[]⟩
def Jky:St:=⟨(1,.d (.sl (p1_.map eU8)))::(2,.ptr 0 0)::(5,.d (.str out_5))::(6,.d (.int .i64 i_18))::[],[some (.box (Ay p0_))]⟩
def Jkz:St:=⟨(5,.d (.str out_6))::[],[]⟩
def JkA:St:=⟨(1,.d (.sl (p1_.map eU8)))::(2,.ptr 0 0)::(5,.d (.str out_7))::(6,.d (.int .i64 i_18))::[],[some (.box (Ay p0_))]⟩
def Qd:(List UInt8)->Ex->St->Prop:=xX 0 0 (λ (y:(List UInt8))=>Jkz y)
def J6:((List UInt8)×Int)->St:=(λ (x:((List UInt8)×Int))=>Jky p0_ p1_ x.1 x.2)
variable {p0_ p1_ out_5 i_18 out_6 out_7}
theorem O8 (x:((List UInt8)×Int)) (z:(((List UInt8)×Int)⊕(List UInt8))) (H:Ef n p0_ p1_ x.1 x.2=some z):WP (cxk 48 0) (Ax Try.f9) [1,1,0,1,0,0] (Av 0 (J6 p0_ p1_) (Qd) z) (J6 p0_ p1_ x):=by
 obtain ⟨out_5,i_18⟩:=x
 refine sq (sr (ck 2 (sp (AE eU8 p1_) (ck 3 (gc 1 (decide (i_18<((p1_.length:Nat):Int))) (pA (ck 2 (gc 1 ((decide (i_18<((p1_.length:Nat):Int)))&&(decide (i_18<12))) (sE (g:=((decide (i_18<((p1_.length:Nat):Int)))&&(decide (i_18<12)))) (λ hg=>AE An p0_.Rules) (gc 1 ((decide (i_18<((p1_.length:Nat):Int)))&&(decide (i_18<12))) (pA (en (cn H (λ H=>?_) (λ H=>?_))))))))))))))
 ·refine sk (qz (sj (λ (x:(List UInt8))=>JkA p0_ p1_ i_18 x) (λ (x:(List UInt8))=>Ee n i_18 x) z ?_ (λ hFR2_Spelled_J1=>?_)))
  ·intro out_7 H
   exact rz (ck 3 (ae (by cases H;exact og (sg [1,2,5,6]))))
  refine bk 1 (sr (ck 4 (bx H λ x147 h421 H=>sp (Ao eU8 h421) (ck 4 (sp (AE An p0_.Rules) (bx H λ gd14 h422 H=>so (SF h422) (bx H λ x148 h423 H=>sp (Ao An h423) (ck 3 (en (sr (ck 6 (en (cn H (λ H=>?_) (λ H=>?_))))))))))))))
  ·exact rz (ck 2 (bx H λ s11 h424 H=>sp (Vg h424) (ck 1 (ae (qN (qs (sg [1,2,5,6]) (hFR2_Spelled_J1 s11 H)))))))
  ·exact sk (qN (qs (sg [1,2,5,6]) (hFR2_Spelled_J1 out_5 H)))
 ·exact ex 0 (qx (by cases H;exact xo rfl (sg [5])))
theorem S8 {z} (H:IX n p0_ p1_=some z):AM Try.prog 9 [.agg (Ay p0_),.d (.sl (p1_.map eU8))] (.d (.str z)):=by
 exact fO 48 (Jkx p0_ p1_) Try.func9 (sr (ck 2 (en (sr (ck 1 (en (sq (sr (ck 1 (en (bk 0 (bx H λ y102 h425 H=>lX O8 h425 (sg [1,2,5,6]) rfl λ s hE82=>qH (qs (hE82) (sr (ck 2 (en (re (by cases H;exact pr rd))))))))))))))))))
end
def Jim:St:=⟨[],[]⟩
theorem O9 {z} (H:P0 n=some z):AM Try.prog 33 [] (.agg [.d (.int .i64 z.Mode),.d (.int .i64 z.Last),.d (.int .u8 z.Need)]):=by
 exact fO 2 Jim Try.func33 (sr (ck 1 (en (sr (ck 2 (en (re (by cases H;exact pr rd))))))))
section
variable (p0_:Int) (p1_:Int)
def Jin:St:=⟨(0,.d (.int .u8 p0_))::(1,.d (.int .i64 p1_))::[],[]⟩
variable {p0_ p1_}
theorem Ii {z} (H:IY n p0_ p1_=some z):AM Try.prog 63 [.d (.int .u8 p0_),.d (.int .i64 p1_)] (.d (.bool z)):=by
 exact fO 18 (Jin p0_ p1_) Try.func63 (sr (ck 1 (en (sr (ck 4 (gc 1 (decide (p1_>=0)) (pA (ck 3 (bx H λ gd15 h426 H=>soG (λ hg=>H4 (Bq h426 hg)) (B1 (λ hh=>hh) (B1 (λ hh=>hh) (D6))) (gc 2 ((decide (p1_>=0))&&(decide (p1_<8))) (pA (ck 1 (en (re (by cases H;exact pr rd)))))))))))))))
end
section
variable (p0_:Int)
def Jio:St:=⟨(0,.d (.int .u8 p0_))::[],[]⟩
variable {p0_}
theorem K2 {z} (H:HW n p0_=some z):AM Try.prog 62 [.d (.int .u8 p0_)] (.d (.int .i64 z)):=by
 refine fO 26 (Jio p0_) Try.func62 (sr (ck 1 (en (sr (ck 3 (en (sq (sr (ck 4 (gc 1 (decide (Cp .u8 p0_ 127>=97)) (pA (en (cn H (λ H=>?_) (λ H=>?_))))))))))))))
 ·exact sr (ck 1 (en (re (qr (by cases H;exact pr rd)))))
 ·refine sk (qz (sq (sr (ck 4 (gc 1 (decide (Cp .u8 p0_ 127>=65)) (pA (en (cn H (λ H=>?_) (λ H=>?_)))))))))
  ·exact sr (ck 1 (en (re (qr (by cases H;exact pr rd)))))
  ·refine sk (qz (sq (sr (ck 4 (gc 1 (decide (Cp .u8 p0_ 127>=48)) (pA (en (cn H (λ H=>?_) (λ H=>?_)))))))))
   ·exact sr (ck 1 (en (re (qr (by cases H;exact pr rd)))))
   ·refine sk (qz (sq (sr (ck 2 (en (cn H (λ H=>?_) (λ H=>?_)))))))
    ·exact sr (ck 1 (en (re (qr (by cases H;exact pr rd)))))
    ·exact sk (qz (sr (ck 1 (en (re (by cases H;exact pr rd))))))
end
section
variable (p0_:Ad) (p1_:Aa) (p2_:Int)
def Jip:St:=⟨(0,.agg [.d (.int .i64 p0_.Modes),.d (.int .u8 p0_.Accept),.d (.sl (p0_.Rules.map An))])::(1,.agg [.d (.int .i64 p1_.Mode),.d (.int .i64 p1_.Last),.d (.int .u8 p1_.Need)])::(2,.d (.int .i64 p2_))::[],[]⟩
variable {p0_ p1_ p2_}
theorem Ja {z} (H:H9 n p0_ p1_ p2_=some z):AM Try.prog 36 [.agg (Ay p0_),.agg (Jt p1_),.d (.int .i64 p2_)] (.tup [.agg [.d (.int .i64 z.1.Mode),.d (.int .i64 z.1.Last),.d (.int .u8 z.1.Need)],.d (.bool z.2)]):=by
 refine fO 87 (Jip p0_ p1_ p2_) Try.func36 (sr (ck 4 (en (sq (sr (ck 5 (gc 1 (!(decide (p2_<0))) (sE (g:=(!(decide (p2_<0)))) (λ hg=>AE An p0_.Rules) (gc 1 (!(decide (p2_<0))) (pO (en (cn H (λ H=>?_) (λ H=>?_)))))))))))))
 ·exact sr (ck 3 (en (re (qr (by cases H;exact pr rdT)))))
 ·refine sk (qz (sr (ck 3 (bx H λ x149 h427 H=>sp (Ao An h427) (ck 3 (en (sq (sr (ck 7 (gc 1 (!(x149.From != p1_.Mode)) (ck 1 (gc 1 (!(x149.From != p1_.Mode)) (bx H λ r127 h428 H=>cG false (leZ) rfl (λ hg=>Ii (Bq h428 hg)) (Or.inl rfl) (B1 (λ hh=>hh) (B1 (λ hh=>hh) (D6))) rfl (gc 1 (!(x149.From != p1_.Mode)) (pO (en (cn H (λ H=>?_) (λ H=>?_))))))))))))))))))
  ·exact sr (ck 3 (en (re (qr (by cases H;exact pr rdT)))))
  ·refine sk (qz (sq (sr (ck 6 (gc 1 (((x149.Print.length:Nat):Int)==0) (ck 1 (gc 3 (((x149.Print.length:Nat):Int)==0) (pA (en (cn H (λ H=>?_) (λ H=>?_)))))))))))
   ·exact sr (ck 3 (en (re (qr (by cases H;exact pr rdT)))))
   ·refine sk (qz (sq (sr (ck 4 (en (cn H (λ H=>?_) (λ H=>?_)))))))
    ·exact sr (ck 12 (en (re (qr (by cases H;exact pr rdT)))))
    ·refine sk (qz (sq (sr (ck 4 (bx H λ b8 h429 H=>sp (GX h429) (bx H λ r128 h430 H=>ca false (K2 h430) (bx H λ r129 h431 H=>ca false (Ii h431) (ck 1 (en (cn H (λ H=>?_) (λ H=>?_)))))))))))
     ·exact sr (ck 3 (en (re (qr (by cases H;exact pr rdT)))))
     ·exact sk (qz (sr (ck 8 (bx H λ b9 h432 H=>sp (GX h432) (bx H λ r130 h433 H=>ca false (K2 h433) (ck 5 (en (re (by cases H;exact pr rdT)))))))))
end
section
variable (p0_:(List Aa)) (p1_:Aa) (i_19:Int)
def Jiq:St:=⟨(0,.d (.sl (p0_.map Ah)))::(1,.agg [.d (.int .i64 p1_.Mode),.d (.int .i64 p1_.Last),.d (.int .u8 p1_.Need)])::[],[]⟩
def Jir:St:=⟨(0,.d (.sl (p0_.map Ah)))::(3,.ptr 0 0)::(5,.d (.int .i64 i_19))::[],[some (.box (Jt p1_))]⟩
def Jis:St:=⟨[],[]⟩
def S9:(Unit⊕Int)->Ex->St->Prop:=xS (xX 0 0 (λ (_:Unit)=>Jis)) (xR ty Try.f34 (λ (y:Int)=>.d (.int .i64 y)))
def MI:Int->St:=(λ (x:Int)=>Jir p0_ p1_ x)
variable {p0_ p1_ i_19}
theorem LI (x:Int) (z:(Int⊕(Unit⊕Int))) (H:DC n p0_ p1_ x=some z):WP (cxk 19 0) (Ax Try.f34) [1,0,1,0,0] (Av 0 (MI p0_ p1_) (S9) z) (MI p0_ p1_ x):=by
 revert H
 generalize x=i_19
 intro H
 refine sq (sr (ck 2 (sp (AE Ah p0_) (ck 1 (en (cn H (λ H=>?_) (λ H=>?_)))))))
 ·refine sk (qz (sq (bk 1 (sr (ck 2 (bx H λ x150 h434 H=>sp (Ao Ah h434) (ck 3 (en (cn H (λ H=>?_) (λ H=>?_))))))))))
  ·exact sr (ck 2 (en (re (qR (qr (by cases H;exact ro rfl rd))))))
  ·exact sk (qN (qz (rz (ck 3 (ae (by cases H;exact og (sg [0,3,5])))))))
 ·exact ex 0 (qx (by cases H;exact xo rfl (sg [])))
theorem Ez {z} (H:FM n p0_ p1_=some z):AM Try.prog 34 [.d (.sl (p0_.map Ah)),.agg (Jt p1_)] (.d (.int .i64 z)):=by
 refine fO 19 (Jiq p0_ p1_) Try.func34 (sr (ck 2 (en (sq (sr (ck 1 (en (bk 0 (bx H λ y103 h435 H=>?_)))))))))
 rcases y103 with y104|y105
 ·exact lX LI h435 (sg [0,3,5]) rfl λ s hE83=>qH (qs (hE83) (sr (ck 1 (en (re (by cases H;exact pr rd))))))
 ·exact lR LI h435 (sg [0,3,5]) rfl λ s hE84=>qR (qr (by cases H;exact pr hE84))
end
end Go.AI
end
section
namespace Go.AI
open Go.Proofs
set_option maxRecDepth 10000
variable {n:Nat}
section
variable (p0_:Ad) (out_8:(List Aa)) (i_20:Int) (out_9:(List Aa)) (out_10:(List Aa)) (k_3:Int) (out_11:(List Aa)) (out_12:(List Aa))
def Jit:St:=⟨(0,.agg [.d (.int .i64 p0_.Modes),.d (.int .u8 p0_.Accept),.d (.sl (p0_.Rules.map An))])::[],[]⟩
def Jiu:St:=⟨(1,.ptr 0 0)::(3,.osl 1 3 0 (out_8.length))::(4,.d (.int .i64 i_20))::[],[some (.box (Ay p0_)),some (.arr 3 (out_8.map Ah))]⟩
def Jiv:St:=⟨(3,.osl 0 3 0 (out_9.length))::[],[some (.arr 3 (out_9.map Ah))]⟩
def Jiw:St:=⟨(1,.ptr 0 0)::(3,.osl 1 3 0 (out_10.length))::(4,.d (.int .i64 i_20))::(5,.d (.int .i64 k_3))::[],[some (.box (Ay p0_)),some (.arr 3 (out_10.map Ah))]⟩
def Jix:St:=⟨(1,.ptr 0 0)::(3,.osl 1 3 0 (out_11.length))::(4,.d (.int .i64 i_20))::[],[some (.box (Ay p0_)),some (.arr 3 (out_11.map Ah))]⟩
def Jiy:St:=⟨(1,.ptr 0 0)::(3,.osl 1 3 0 (out_12.length))::(4,.d (.int .i64 i_20))::(5,.d (.int .i64 k_3))::[],[some (.box (Ay p0_)),some (.arr 3 (out_12.map Ah))]⟩
def Rk:(List Aa)->Ex->St->Prop:=xX 0 2 (λ (y:(List Aa))=>Jix p0_ i_20 y)
def LJ:((List Aa)×Int)->St:=(λ (x:((List Aa)×Int))=>Jiw p0_ i_20 x.1 x.2)
def Rl:(List Aa)->Ex->St->Prop:=xX 0 0 (λ (y:(List Aa))=>Jiv y)
def LK:((List Aa)×Int)->St:=(λ (x:((List Aa)×Int))=>Jiu p0_ x.1 x.2)
variable {p0_ out_8 i_20 out_9 out_10 k_3 out_11 out_12}
theorem Qe (x:((List Aa)×Int)) (z:(((List Aa)×Int)⊕(List Aa))) (H:DT n p0_ i_20 x.1 x.2=some z):WP (cxk 45 0) (Ax Try.f32) [1,1,0,1,0,0,1,0,0,1,0,0] (Av 0 (LJ p0_ i_20) (Rk p0_ i_20) z) (LJ p0_ i_20 x):=by
 obtain ⟨out_10,k_3⟩:=x
 refine sq (sr (ck 3 (sp (AE An p0_.Rules) (ck 1 (en (cn H (λ H=>?_) (λ H=>?_)))))))
 ·refine sk (qz (sj (λ (x:(List Aa))=>Jiy p0_ i_20 k_3 x) (λ (x:(List Aa))=>EZ n k_3 x) z ?_ (λ hFR3_States_J1=>?_)))
  ·intro out_12 H
   exact rz (ck 3 (ae (by cases H;exact og (sg [1,3,4,5]))))
  refine bk 3 (sr (ck 3 (bx H λ x151 h437 H=>sp (As 1 3 h437) (sp (Ct Ah 1 0 (ty 87) h437) (ck 1 (bx H λ r132 h438 H=>ca false (Ja h438) (ck 6 (en (sr (ck 4 (bx H λ r133 h439 H=>cG (ks:=[1]) (obl:=[(0+List.length out_10,List.length (out_10.map Ah))]) false (leK leM (leZ)) (Dt SE (Dt rfl rfl)) (λ hg=>Ez (Bq h439 hg)) (Or.inr trivial) (B1 (λ hh=>hh) (B1 (λ hh=>hh) (D6))) rfl (gc 1 r132.2 (pA (en (cn H (λ H=>?_) (λ H=>?_))))))))))))))))
  ·exact rz (ck 3 (bx H λ l54 h440 H=>sp (B5 Ah 1 3 h440) (ck 1 (ae (qN (qs (sg [1,3,4,5]) (hFR3_States_J1 l54 H)))))))
  ·exact sk (qN (qs (sg [1,3,4,5]) (hFR3_States_J1 out_10 H)))
 ·exact ex 2 (qx (by cases H;exact xo rfl (sg [1,3,4])))
theorem Qf (x:((List Aa)×Int)) (z:(((List Aa)×Int)⊕(List Aa))) (H:E0 n p0_ x.1 x.2=some z):WP (cxk 45 0) (Ax Try.f32) [1,1,0,1,0,0] (Av 0 (LK p0_) (Rl) z) (LK p0_ x):=by
 obtain ⟨out_8,i_20⟩:=x
 refine sq (sr (ck 4 (en (cn H (λ H=>?_) (λ H=>?_)))))
 ·exact sk (qz (sq (bk 1 (sr (ck 1 (en (bk 2 (bx H λ y106 h441 H=>lX Qe h441 (sg [1,3,4,5]) rfl λ s hE85=>qH (qN (qs (hE85) (rz (ck 3 (ae (by cases H;exact og (sg [1,3,4])))))))))))))))
 ·exact ex 0 (qx (by cases H;exact xo rfl (sg [3])))
theorem JF {z} (H:GN n p0_=some z):AM Try.prog 32 [.agg (Ay p0_)] (.own 3 (z.map Ah)):=by
 exact fO 45 (Jit p0_) Try.func32 (sr (ck 2 (en (sr (bx H λ r131 h436 H=>ca false (O9 h436) (ck 2 (en (sq (sr (ck 1 (en (bk 0 (bx H λ y107 h442 H=>lX Qf h442 (sg [1,3,4]) rfl λ s hE86=>qH (qs (hE86) (sr (ck 2 (en (re (by cases H;exact pr (rO (v:=.osl 0 3 0 (z.length)) [0] (ao vo)))))))))))))))))))))
end
section
variable (p0_:Ad) (p1_:Aa)
def Jiz:St:=⟨(0,.agg [.d (.int .i64 p0_.Modes),.d (.int .u8 p0_.Accept),.d (.sl (p0_.Rules.map An))])::(1,.agg [.d (.int .i64 p1_.Mode),.d (.int .i64 p1_.Last),.d (.int .u8 p1_.Need)])::[],[]⟩
variable {p0_ p1_}
theorem Ta {z} (H:IZ n p0_ p1_=some z):AM Try.prog 53 [.agg (Ay p0_),.agg (Jt p1_)] (.d (.bool z)):=by
 exact fO 27 (Jiz p0_ p1_) Try.func53 (sr (ck 3 (en (sr (ck 5 (gc 1 (decide (p1_.Mode>=0)) (ck 1 (gc 2 (decide (p1_.Mode>=0)) (pA (ck 2 (gc 1 ((decide (p1_.Mode>=0))&&(decide (p1_.Mode<p0_.Modes))) (ck 1 (gc 1 ((decide (p1_.Mode>=0))&&(decide (p1_.Mode<p0_.Modes))) (bx H λ r134 h443 H=>cG false (leZ) rfl (λ hg=>Ii (Bq h443 hg)) (Or.inl rfl) (B1 (λ hh=>hh) (B1 (λ hh=>hh) (D6))) rfl (pA (ck 2 (gc 1 (((decide (p1_.Mode>=0))&&(decide (p1_.Mode<p0_.Modes)))&&r134) (bx H λ r135 h444 H=>cG false (leZ) rfl (λ hg=>Ii (Bq h444 hg)) (Or.inl rfl) (B1 (λ hh=>hh) (D6)) rfl (pA (ck 1 (en (re (by cases H;exact pr rd)))))))))))))))))))))))
end
section
variable (p0_:(List UInt8)) (p1_:Int) (p2_:(List UInt8))
def JiA:St:=⟨(0,.d (.str p0_))::(1,.d (.int .i64 p1_))::(2,.d (.str p2_))::[],[]⟩
variable {p0_ p1_ p2_}
theorem NI {z} (H:Ia n p0_ p1_ p2_=some z):AM Try.prog 61 [.d (.str p0_),.d (.int .i64 p1_),.d (.str p2_)] (.d (.bool z)):=by
 exact fO 25 (JiA p0_ p1_ p2_) Try.func61 (sr (ck 1 (en (sr (ck 12 (gc 2 (decide (Ar .i64 p1_ ((p2_.length:Nat):Int)<=((p0_.length:Nat):Int))) (bx H λ s12 h445 H=>sE (λ hg=>KH (Bq h445 hg)) (ck 1 (gc 1 (decide (Ar .i64 p1_ ((p2_.length:Nat):Int)<=((p0_.length:Nat):Int))) (pA (ck 1 (en (re (by cases H;exact pr rd))))))))))))))
end
section
variable (p0_:Ad) (p1_:EM) (p2_:Int) (p3_:(List (List Int)))
def JiB:St:=⟨(0,.agg [.d (.int .i64 p0_.Modes),.d (.int .u8 p0_.Accept),.d (.sl (p0_.Rules.map An))])::(1,.agg [.d (.str p1_.S),.d (.int .i64 p1_.I),.d (.int .i64 p1_.State.Mode),.d (.int .i64 p1_.State.Last),.d (.int .u8 p1_.State.Need),.d (.sl (p1_.L.map Ah))])::(2,.d (.int .i64 p2_))::(3,.d (.sl (p3_.map (eL Ae))))::[],[]⟩
variable {p0_ p1_ p2_ p3_}
theorem Pa {z} (H:GO n p0_ p1_ p2_ p3_=some z):AM Try.prog 35 [.agg (Ay p0_),.agg (Vl p1_),.d (.int .i64 p2_),.d (.sl (p3_.map (eL Ae)))] (.d (.int .i64 z)):=by
 refine fO 66 (JiB p0_ p1_ p2_ p3_) Try.func35 (sr (ck 3 (en (sr (ck 4 (bx H λ r136 h446 H=>ca false (Ja h446) (ck 6 (en (sq (sr (ck 4 (gc 1 (!(!r136.2)) (ck 1 (gc 1 (!(!r136.2)) (ck 1 (gc 1 (!(!r136.2)) (ck 1 (bx H λ x152 h447 H=>sE (λ hg=>Ao An (Bq h447 hg)) (gc 2 (!(!r136.2)) (bx H λ r137 h448 H=>cG false (leZ) rfl (λ hg=>NI (Bq h448 hg)) (Or.inl rfl) (B1 (λ hh=>hh) (B1 (λ hh=>hh) (B1 (λ hh=>hh) (D6)))) rfl (gc 1 (!(!r136.2)) (pO (en (cn H (λ H=>?_) (λ H=>?_)))))))))))))))))))))))))
 ·exact sr (ck 1 (en (re (qr (by cases H;exact pr rd)))))
 ·refine sk (qz (sr (ck 6 (bx H λ x153 h449 H=>sp (Ao An h449) (ck 4 (bx H λ x154 h450 H=>sp (Ao (eL Ae) h450) (ck 4 (bx H λ r138 h451 H=>ca false (Ez h451) (bx H λ x155 h452 H=>sp (Ao Ae h452) (ck 2 (en (sq (sr (ck 2 (en (cn H (λ H=>?_) (λ H=>?_)))))))))))))))))
  ·exact sr (ck 1 (en (re (qr (by cases H;exact pr rd)))))
  ·exact sk (qz (sr (ck 4 (bx H λ x156 h453 H=>sp (Ao An h453) (ck 2 (sp (AE eU8 x156.Cells) (ck 2 (en (re (by cases H;exact pr rd))))))))))
end
section
variable (p0_:Int) (p1_:Int)
def JiC:St:=⟨(0,.d (.int .i64 p0_))::(1,.d (.int .i64 p1_))::[],[]⟩
variable {p0_ p1_}
theorem Vy {z} (H:M3 n p0_ p1_=some z):AM Try.prog 54 [.d (.int .i64 p0_),.d (.int .i64 p1_)] (.d (.int .i64 z)):=by
 refine fO 18 (JiC p0_ p1_) Try.func54 (sr (ck 1 (en (sq (sr (ck 4 (gc 2 (!(decide (p0_<0))) (ck 2 (gc 1 ((!(decide (p0_<0)))&&(decide (p1_>=0))) (pG (g:=(!(decide (p0_<0)))) (v:=.d (.bool ((decide (p1_>=0))&&(decide (p1_<p0_))))) (λ hg=>GH (c:=.gv (!(decide (p0_<0))) (.d (.bool (decide (p1_>=0))))) (a:=.gv ((!(decide (p0_<0)))&&(decide (p1_>=0))) (.d (.bool (decide (p1_<p0_))))) (b:=.d (.bool false)) rfl rfl rfl ((λ hh=>hh) hg) (λ ht=>by rw [(λ hh=>hh) hg,ht];rfl) trivial) (pO (en (cn H (λ H=>?_) (λ H=>?_))))))))))))))
 ·exact sr (ck 2 (en (re (qr (by cases H;exact pr rd)))))
 ·exact sk (qz (sr (ck 2 (en (re (by cases H;exact pr rd))))))
end
section
variable (p0_:Ad) (p1_:(List UInt8)) (r139:(List Aa)) (out_13:(List (List Int))) (i_21:Int) (out_14:(List (List Int))) (out_15:(List (List Int))) (k_4:Int) (out_16:(List (List Int))) (out_17:(List (List Int))) (out_18:(List (List Int))) (changed_1:Bool) (out_19:(List (List Int))) (out_20:(List (List Int))) (changed_2:Bool) (k_5:Int) (out_21:(List (List Int))) (changed_3:Bool) (out_22:(List (List Int))) (changed_4:Bool) (r_3:Int) (out_23:(List (List Int))) (changed_5:Bool) (out_24:(List (List Int))) (changed_6:Bool)
def JiD:St:=⟨(0,.agg [.d (.int .i64 p0_.Modes),.d (.int .u8 p0_.Accept),.d (.sl (p0_.Rules.map An))])::(1,.d (.str p1_))::[],[]⟩
def JiE:St:=⟨(1,.d (.str p1_))::(2,.ptr 0 0)::(5,.d (.sl (r139.map Ah)))::(6,.osl 1 1 0 (out_13.length))::(7,.d (.int .i64 i_21))::[],[some (.box (Ay p0_)),some (.narr 1 (out_13.map (nL 1 Ae)))]⟩
def JiF:St:=⟨(6,.osl 0 1 0 (out_14.length))::[],[some (.narr 1 (out_14.map (nL 1 Ae)))]⟩
def JiG:St:=⟨(1,.d (.str p1_))::(2,.ptr 0 0)::(5,.d (.sl (r139.map Ah)))::(6,.osl 1 1 0 (out_15.length))::(7,.d (.int .i64 i_21))::(8,.d (.int .i64 k_4))::[],[some (.box (Ay p0_)),some (.narr 1 (out_15.map (nL 1 Ae)))]⟩
def JiH:St:=⟨(1,.d (.str p1_))::(2,.ptr 0 0)::(5,.d (.sl (r139.map Ah)))::(6,.osl 1 1 0 (out_16.length))::(7,.d (.int .i64 i_21))::[],[some (.box (Ay p0_)),some (.narr 1 (out_16.map (nL 1 Ae)))]⟩
def JiI:St:=⟨(1,.d (.str p1_))::(2,.ptr 0 0)::(5,.d (.sl (r139.map Ah)))::(6,.osl 1 1 0 (out_17.length))::(7,.d (.int .i64 i_21))::(8,.d (.int .i64 k_4))::[],[some (.box (Ay p0_)),some (.narr 1 (out_17.map (nL 1 Ae)))]⟩
def Pb:(List (List Int))->Ex->St->Prop:=xX 0 2 (λ (y:(List (List Int)))=>JiH p0_ p1_ r139 i_21 y)
def Jb:((List (List Int))×Int)->St:=(λ (x:((List (List Int))×Int))=>JiG p0_ p1_ r139 i_21 x.1 x.2)
def JiJ:St:=⟨(1,.d (.str p1_))::(2,.ptr 0 0)::(5,.d (.sl (r139.map Ah)))::(6,.osl 1 1 0 (out_18.length))::(7,.d (.int .i64 i_21))::(9,.d (.bool changed_1))::[],[some (.box (Ay p0_)),some (.narr 1 (out_18.map (nL 1 Ae)))]⟩
def JiK:St:=⟨(1,.d (.str p1_))::(2,.ptr 0 0)::(5,.d (.sl (r139.map Ah)))::(6,.osl 1 1 0 (out_19.length))::(7,.d (.int .i64 i_21))::[],[some (.box (Ay p0_)),some (.narr 1 (out_19.map (nL 1 Ae)))]⟩
def JiL:St:=⟨(1,.d (.str p1_))::(2,.ptr 0 0)::(5,.d (.sl (r139.map Ah)))::(6,.osl 1 1 0 (out_20.length))::(7,.d (.int .i64 i_21))::(9,.d (.bool changed_2))::(10,.d (.int .i64 k_5))::[],[some (.box (Ay p0_)),some (.narr 1 (out_20.map (nL 1 Ae)))]⟩
def JeX:St:=⟨(1,.d (.str p1_))::(2,.ptr 0 0)::(5,.d (.sl (r139.map Ah)))::(6,.osl 1 1 0 (out_21.length))::(7,.d (.int .i64 i_21))::(9,.d (.bool changed_3))::[],[some (.box (Ay p0_)),some (.narr 1 (out_21.map (nL 1 Ae)))]⟩
def JeY:St:=⟨(1,.d (.str p1_))::(2,.ptr 0 0)::(5,.d (.sl (r139.map Ah)))::(6,.osl 1 1 0 (out_22.length))::(7,.d (.int .i64 i_21))::(9,.d (.bool changed_4))::(10,.d (.int .i64 k_5))::(11,.d (.int .i64 r_3))::[],[some (.box (Ay p0_)),some (.narr 1 (out_22.map (nL 1 Ae)))]⟩
def JeZ:St:=⟨(1,.d (.str p1_))::(2,.ptr 0 0)::(5,.d (.sl (r139.map Ah)))::(6,.osl 1 1 0 (out_23.length))::(7,.d (.int .i64 i_21))::(9,.d (.bool changed_5))::(10,.d (.int .i64 k_5))::[],[some (.box (Ay p0_)),some (.narr 1 (out_23.map (nL 1 Ae)))]⟩
def Je0:St:=⟨(1,.d (.str p1_))::(2,.ptr 0 0)::(5,.d (.sl (r139.map Ah)))::(6,.osl 1 1 0 (out_24.length))::(7,.d (.int .i64 i_21))::(9,.d (.bool changed_6))::(10,.d (.int .i64 k_5))::(11,.d (.int .i64 r_3))::[],[some (.box (Ay p0_)),some (.narr 1 (out_24.map (nL 1 Ae)))]⟩
def Pc:((List (List Int))×Bool)->Ex->St->Prop:=xX 0 8 (λ (y:((List (List Int))×Bool))=>JeZ p0_ p1_ r139 i_21 k_5 y.1 y.2)
def Jc:((List (List Int))×Bool×Int)->St:=(λ (x:((List (List Int))×Bool×Int))=>JeY p0_ p1_ r139 i_21 k_5 x.1 x.2.1 x.2.2)
def Pd:((List (List Int))×Bool)->Ex->St->Prop:=xX 0 6 (λ (y:((List (List Int))×Bool))=>JeX p0_ p1_ r139 i_21 y.1 y.2)
def Jd:((List (List Int))×Bool×Int)->St:=(λ (x:((List (List Int))×Bool×Int))=>JiL p0_ p1_ r139 i_21 x.1 x.2.1 x.2.2)
def Pe:(List (List Int))->Ex->St->Prop:=xX 0 4 (λ (y:(List (List Int)))=>JiK p0_ p1_ r139 i_21 y)
def Je:((List (List Int))×Bool)->St:=(λ (x:((List (List Int))×Bool))=>JiJ p0_ p1_ r139 i_21 x.1 x.2)
def Pf:(List (List Int))->Ex->St->Prop:=xX 0 0 (λ (y:(List (List Int)))=>JiF y)
def Jf:((List (List Int))×Int)->St:=(λ (x:((List (List Int))×Int))=>JiE p0_ p1_ r139 x.1 x.2)
variable {p0_ p1_ r139 out_13 i_21 out_14 out_15 k_4 out_16 out_17 out_18 changed_1 out_19 out_20 changed_2 k_5 out_21 changed_3 out_22 changed_4 r_3 out_23 changed_5 out_24 changed_6}
theorem N6 (x:((List (List Int))×Int)) (z:(((List (List Int))×Int)⊕(List (List Int)))) (H:C5 n p0_ p1_ r139 i_21 x.1 x.2=some z):WP (cxk 116 0) (Ax Try.f28) [1,1,1,0,1,0,0,1,0,0,1,0,1,0,0] (Av 0 (Jb p0_ p1_ r139 i_21) (Pb p0_ p1_ r139 i_21) z) (Jb p0_ p1_ r139 i_21 x):=by
 obtain ⟨out_15,k_4⟩:=x
 refine sq (sr (ck 2 (sp (AE Ah r139) (ck 1 (en (cn H (λ H=>?_) (λ H=>?_)))))))
 ·refine sk (qz (sj (λ (x:(List (List Int)))=>JiI p0_ p1_ r139 i_21 k_4 x) (λ (x:(List (List Int)))=>DK n k_4 x) z ?_ (λ hFR6_Suffixes_J1=>?_)))
  ·intro out_17 H
   exact rz (ck 3 (ae (by cases H;exact og (gP [1,2,5,6,7,8] [0,1] (po1 (pn1 (nL 1 Ae) out_17 (Pl.z)))))))
  refine bk 3 (sq (bx H λ x158 h458 H=>rg (tr (so1 (encN:=(nL 1 Ae)) 1 1 h458) (sno (encN:=(nL 1 Ae)) (enc:=Ae) h458 [.own 1 (x158.map Ae)] x158 1 1 0 1)) (ck 2 (sp (As 1 1 h458) (sp (BT (encN:=(nL 1 Ae)) (row:=[.osl 2 1 0 (x158.length)]) (k:=1) (sz:=1) (off:=0) (t:=ty 32) (v:=.osl 2 1 0 (x158.length)) h458) (ck 1 (bx H λ x159 h459 H=>sp (As 2 1 h459) (bx H λ l57 h460 H=>stA Ae 2 0 (ty 3) h459 h460 (en (sq (rg (tr (tr (tr (tr (tr (sn 40 2 1 (A5 h460)) (snr (encN:=(nL 1 Ae)) (xs:=out_15) (n:=i_21) [.osl 2 1 0 (x158.length)] 1 1 0 2 1 (A5 h460))) (sni (encN:=(nL 1 Ae)) (xs:=out_15) (n:=i_21) (enc:=Ae) [.osl 2 1 0 (l57.length)] l57 1 1 0 2 1)) (scl (encN:=(nL 1 Ae)) (xss:=out_15) i_21 [.own 1 (l57.map Ae)] 1 1 l57)) (sn 6 1 1 (lsS out_15 i_21.toNat l57))) (sn 37 1 1 (lsS out_15 i_21.toNat l57))) (ck 8 (bx H λ x160 h461 H=>sE (λ hg=>Ao Ah (Bq h461 hg)) (gc 1 (i_21==((p1_.length:Nat):Int)) (bx H λ r140 h462 H=>cG false (leZ) rfl (λ hg=>Ta (Bq h462 hg)) (Or.inl rfl) (B1 (λ hh=>hh) (B1 (λ hh=>hh) (D6))) rfl (pA (en (cn H (λ H=>?_) (λ H=>?_)))))))))))))))))))
  ·exact bx H λ x161 h463 H=>rg (tr (so1 (encN:=(nL 1 Ae)) 1 1 h463) (sno (encN:=(nL 1 Ae)) (enc:=Ae) h463 [.own 1 (x161.map Ae)] x161 1 1 0 1)) (ck 2 (sp (As 1 1 h463) (sp (BT (encN:=(nL 1 Ae)) (row:=[.osl 3 1 0 (x161.length)]) (k:=1) (sz:=1) (off:=0) (t:=ty 32) (v:=.osl 3 1 0 (x161.length)) h463) (ck 1 (bx H λ x162 h464 H=>sp (As 3 1 h464) (bx H λ l58 h465 H=>stA Ae 3 0 (ty 3) h464 h465 (ae (qN (qs (tr (tr (tr (tr (tr (tr (tr (sn 58 3 1 (A5 h465)) (snr (encN:=(nL 1 Ae)) (xs:=List.set out_15 i_21.toNat l57) (n:=i_21) [.osl 3 1 0 (x161.length)] 1 1 0 3 1 (A5 h465))) (sni (encN:=(nL 1 Ae)) (xs:=List.set out_15 i_21.toNat l57) (n:=i_21) (enc:=Ae) [.osl 3 1 0 (l58.length)] l58 1 1 0 3 1)) (scl (encN:=(nL 1 Ae)) (xss:=List.set out_15 i_21.toNat l57) i_21 [.own 1 (l58.map Ae)] 1 1 l58)) (sn 6 1 1 (lsS (List.set out_15 i_21.toNat l57) i_21.toNat l58))) (sn 37 1 1 (lsS (List.set out_15 i_21.toNat l57) i_21.toNat l58))) (sn 55 1 1 (lsS (List.set out_15 i_21.toNat l57) i_21.toNat l58))) (gP [1,2,5,6,7,8] [0,1] (po1 (pn1 (nL 1 Ae) (List.set (List.set out_15 i_21.toNat l57) i_21.toNat l58) (Pl.z))))) (hFR6_Suffixes_J1 (List.set (List.set out_15 i_21.toNat l57) i_21.toNat l58) H))))))))))
  ·exact sk (qN (qs (gP [1,2,5,6,7,8] [0,1] (po1 (pn1 (nL 1 Ae) (List.set out_15 i_21.toNat l57) (Pl.z)))) (hFR6_Suffixes_J1 (List.set out_15 i_21.toNat l57) H)))
 ·exact ex 2 (qx (by cases H;exact xo rfl (gP [1,2,5,6,7] [0,1] (po1 (pn1 (nL 1 Ae) out_15 (Pl.z))))))
theorem N7 (x:((List (List Int))×Bool×Int)) (z:(((List (List Int))×Bool×Int)⊕((List (List Int))×Bool))) (H:C6 n p0_ p1_ r139 i_21 k_5 x.1 x.2.1 x.2.2=some z):WP (cxk 116 0) (Ax Try.f28) [1,1,1,0,1,0,0,1,0,0,1,1,1,0,0,1,0,1,1,0,0,1,0,0,1,0,0] (Av 0 (Jc p0_ p1_ r139 i_21 k_5) (Pc p0_ p1_ r139 i_21 k_5) z) (Jc p0_ p1_ r139 i_21 k_5 x):=by
 obtain ⟨out_22,changed_4,r_3⟩:=x
 refine sq (sr (ck 3 (sp (AE An p0_.Rules) (ck 1 (en (cn H (λ H=>?_) (λ H=>?_)))))))
 ·refine sk (qz (sj (λ (x:((List (List Int))×Bool))=>Je0 p0_ p1_ r139 i_21 k_5 r_3 x.1 x.2) (λ (x:((List (List Int))×Bool))=>DL n r_3 x.1 x.2) z ?_ (λ hFR6_Suffixes_J2=>?_)))
  ·rintro ⟨out_24,changed_6⟩ H
   exact rz (ck 3 (ae (by cases H;exact og (gP [1,2,5,6,7,9,10,11] [0,1] (po1 (pn1 (nL 1 Ae) out_24 (Pl.z)))))))
  refine bk 9 (sr (ck 5 (bx H λ x163 h467 H=>sp (Ao Ah h467) (ck 5 (bx H λ r141 h468 H=>cb (ks:=[1]) (obl:=[(0+List.length out_22,List.length (out_22.map (nL 1 Ae))),(Oo (out_22.map (nL 1 Ae)),0)]) false (leK leN (leK (JeN λ _=>rfl) (leZ))) (Dt rfl (Dt rfl (Dt rfl (Dt (JjK (encN:=(nL 1 Ae)) (encD:=(eL Ae)) λ _=>rfl) rfl)))) (Pa h468) (Or.inr trivial) rfl (ck 1 (en (sq (rg (tr (so0 (encN:=(nL 1 Ae)) (xss:=out_22) 1 1 i_21 ([]:(List Int))) (snT (encN:=(nL 1 Ae)) (xss:=out_22) (n:=i_21) (d:=([]:(List Int))) (enc:=Ae) (λ x=>x) [.own 1 (List.map Ae (List.getD out_22 i_21.toNat []))] 1 1 0 1)) (ck 5 (bx H λ x164 h469 H=>sE (λ hg=>As 1 1 (Bq h469 hg)) (sE (g:=decide (r141>=0)) (λ hg=>BT (encN:=(nL 1 Ae)) (row:=[.osl 2 1 0 (List.length (List.getD out_22 i_21.toNat []))]) (k:=1) (sz:=1) (off:=0) (t:=ty 32) (v:=.osl 2 1 0 (List.length (List.getD out_22 i_21.toNat []))) (Bq h469 hg)) (ck 1 (bx H λ x165 h470 H=>sE (λ hg=>As 2 1 (Bq h470 hg)) (sE (g:=decide (r141>=0)) (λ hg=>Ct Ae 2 0 (ty 3) (Bq h470 hg)) (ck 1 (bx H λ r142 h471 H=>cG false (leZ) rfl (λ hg=>Vy (Bq h471 hg)) (Or.inl rfl) (B1 (λ hh=>hh) (B1 (λ hh=>hh) (D6))) rfl (ck 2 (bx H λ x166 h472 H=>sE (λ hg=>As 1 1 (Bq h472 hg)) (sE (g:=decide (r141>=0)) (λ hg=>BT (encN:=(nL 1 Ae)) (row:=[.osl 2 1 0 (List.length (List.getD out_22 i_21.toNat []))]) (k:=1) (sz:=1) (off:=0) (t:=ty 32) (v:=.osl 2 1 0 (List.length (List.getD out_22 i_21.toNat []))) (Bq h472 hg)) (ck 1 (bx H λ x167 h473 H=>sE (λ hg=>As 2 1 (Bq h473 hg)) (sE (g:=decide (r141>=0)) (λ hg=>Ct Ae 2 0 (ty 3) (Bq h473 hg)) (gc 1 (decide (r141>=0)) (pA (en (cn H (λ H=>?_) (λ H=>?_))))))))))))))))))))))))))))
  ·exact sq (bx H λ x168 h474 H=>rg (tr (tr (tr (tr (tr (sni (encN:=(nL 1 Ae)) (xs:=out_22) (n:=i_21) (enc:=Ae) [.osl 2 1 0 (List.length (List.getD out_22 i_21.toNat []))] (List.getD out_22 i_21.toNat []) 1 1 0 2 1) (scl (encN:=(nL 1 Ae)) (xss:=out_22) i_21 [.own 1 (List.map Ae (List.getD out_22 i_21.toNat []))] 1 1 (List.getD out_22 i_21.toNat []))) (sn 6 1 1 (lsS out_22 i_21.toNat (List.getD out_22 i_21.toNat [])))) (sn 85 1 1 (lsS out_22 i_21.toNat (List.getD out_22 i_21.toNat [])))) (so1 (encN:=(nL 1 Ae)) 1 1 h474)) (sno (encN:=(nL 1 Ae)) (enc:=Ae) h474 [.own 1 (x168.map Ae)] x168 1 1 0 1)) (ck 2 (sp (As 1 1 h474) (sp (BT (encN:=(nL 1 Ae)) (row:=[.osl 3 1 0 (x168.length)]) (k:=1) (sz:=1) (off:=0) (t:=ty 32) (v:=.osl 3 1 0 (x168.length)) h474) (ck 2 (bx H λ x169 h475 H=>sp (As 3 1 h475) (bx H λ l59 h476 H=>stA Ae 3 0 (ty 3) h475 h476 (en (rg (tr (tr (tr (tr (tr (tr (sn 111 3 1 (A5 h476)) (snr (encN:=(nL 1 Ae)) (xs:=List.set out_22 i_21.toNat (List.getD out_22 i_21.toNat [])) (n:=i_21) [.osl 3 1 0 (x168.length)] 1 1 0 3 1 (A5 h476))) (sni (encN:=(nL 1 Ae)) (xs:=List.set out_22 i_21.toNat (List.getD out_22 i_21.toNat [])) (n:=i_21) (enc:=Ae) [.osl 3 1 0 (l59.length)] l59 1 1 0 3 1)) (scl (encN:=(nL 1 Ae)) (xss:=List.set out_22 i_21.toNat (List.getD out_22 i_21.toNat [])) i_21 [.own 1 (l59.map Ae)] 1 1 l59)) (sn 6 1 1 (lsS (List.set out_22 i_21.toNat (List.getD out_22 i_21.toNat [])) i_21.toNat l59))) (sn 85 1 1 (lsS (List.set out_22 i_21.toNat (List.getD out_22 i_21.toNat [])) i_21.toNat l59))) (sn 108 1 1 (lsS (List.set out_22 i_21.toNat (List.getD out_22 i_21.toNat [])) i_21.toNat l59))) (ck 1 (ae (qN (qs (gP [1,2,5,6,7,9,10,11] [0,1] (po1 (pn1 (nL 1 Ae) (List.set (List.set out_22 i_21.toNat (List.getD out_22 i_21.toNat [])) i_21.toNat l59) (Pl.z)))) (hFR6_Suffixes_J2 ((List.set (List.set out_22 i_21.toNat (List.getD out_22 i_21.toNat [])) i_21.toNat l59),true) H))))))))))))))
  ·exact sk (qN (qs (tr (tr (tr (tr (sni (encN:=(nL 1 Ae)) (xs:=out_22) (n:=i_21) (enc:=Ae) [.osl 2 1 0 (List.length (List.getD out_22 i_21.toNat []))] (List.getD out_22 i_21.toNat []) 1 1 0 2 1) (scl (encN:=(nL 1 Ae)) (xss:=out_22) i_21 [.own 1 (List.map Ae (List.getD out_22 i_21.toNat []))] 1 1 (List.getD out_22 i_21.toNat []))) (sn 6 1 1 (lsS out_22 i_21.toNat (List.getD out_22 i_21.toNat [])))) (sn 85 1 1 (lsS out_22 i_21.toNat (List.getD out_22 i_21.toNat [])))) (gP [1,2,5,6,7,9,10,11] [0,1] (po1 (pn1 (nL 1 Ae) (List.set out_22 i_21.toNat (List.getD out_22 i_21.toNat [])) (Pl.z))))) (hFR6_Suffixes_J2 ((List.set out_22 i_21.toNat (List.getD out_22 i_21.toNat [])),changed_4) H)))
 ·exact ex 8 (qx (by cases H;exact xo rfl (gP [1,2,5,6,7,9,10] [0,1] (po1 (pn1 (nL 1 Ae) out_22 (Pl.z))))))
theorem N8 (x:((List (List Int))×Bool×Int)) (z:(((List (List Int))×Bool×Int)⊕((List (List Int))×Bool))) (H:C7 n p0_ p1_ r139 i_21 x.1 x.2.1 x.2.2=some z):WP (cxk 116 0) (Ax Try.f28) [1,1,1,0,1,0,0,1,0,0,1,1,1,0,0,1,0,1,1,0,0] (Av 0 (Jd p0_ p1_ r139 i_21) (Pd p0_ p1_ r139 i_21) z) (Jd p0_ p1_ r139 i_21 x):=by
 obtain ⟨out_20,changed_2,k_5⟩:=x
 refine sq (sr (ck 2 (sp (AE Ah r139) (ck 1 (en (cn H (λ H=>?_) (λ H=>?_)))))))
 ·exact sk (qz (sq (bk 7 (sr (ck 1 (en (bk 8 (bx H λ y109 h477 H=>lX N7 h477 (gP [1,2,5,6,7,9,10,11] [0,1] (po1 (pn1 (nL 1 Ae) out_20 (Pl.z)))) rfl λ s hE88=>qH (qN (qs (hE88) (rz (ck 3 (ae (by cases H;exact og (gP [1,2,5,6,7,9,10] [0,1] (po1 (pn1 (nL 1 Ae) y109.1 (Pl.z))))))))))))))))))
 ·exact ex 6 (qx (by cases H;exact xo rfl (gP [1,2,5,6,7,9] [0,1] (po1 (pn1 (nL 1 Ae) out_20 (Pl.z))))))
theorem N9 (x:((List (List Int))×Bool)) (z:(((List (List Int))×Bool)⊕(List (List Int)))) (H:DM n p0_ p1_ r139 i_21 x.1 x.2=some z):WP (cxk 116 0) (Ax Try.f28) [1,1,1,0,1,0,0,1,0,0,1,1,1,0,0] (Av 0 (Je p0_ p1_ r139 i_21) (Pe p0_ p1_ r139 i_21) z) (Je p0_ p1_ r139 i_21 x):=by
 obtain ⟨out_18,changed_1⟩:=x
 refine sq (sr (ck 1 (en (cn H (λ H=>?_) (λ H=>?_)))))
 ·exact sk (qz (bk 5 (sr (ck 1 (en (sr (ck 1 (en (bk 6 (bx H λ y110 h478 H=>lX N8 h478 (gP [1,2,5,6,7,9,10] [0,1] (po1 (pn1 (nL 1 Ae) out_18 (Pl.z)))) rfl λ s hE89=>qH (qN (by cases H;exact og (tr (hE89) (gP [1,2,5,6,7,9] [0,1] (po1 (pn1 (nL 1 Ae) y110.1 (Pl.z)))))))))))))))))
 ·exact ex 4 (qx (by cases H;exact xo rfl (gP [1,2,5,6,7] [0,1] (po1 (pn1 (nL 1 Ae) out_18 (Pl.z))))))
theorem Oa (x:((List (List Int))×Int)) (z:(((List (List Int))×Int)⊕(List (List Int)))) (H:Fp n p0_ p1_ r139 x.1 x.2=some z):WP (cxk 116 0) (Ax Try.f28) [1,1,1,0,1,0,0] (Av 0 (Jf p0_ p1_ r139) (Pf) z) (Jf p0_ p1_ r139 x):=by
 obtain ⟨out_13,i_21⟩:=x
 refine sq (sr (ck 2 (en (cn H (λ H=>?_) (λ H=>?_)))))
 ·exact sk (qz (sq (bk 1 (sq (bx H λ x157 h456 H=>rg (so1 (encN:=(nL 1 Ae)) 1 1 h456) (ck 3 (sp (AE Ah r139) (bx H λ l56 h457 H=>sp (SK Ae 1 h457) (sp (As 1 1 h456) (sp (KI (encN:=(nL 1 Ae)) (row:=[.own 1 (x157.map Ae)]) (row':=[.osl 2 1 0 (l56.length)]) (k:=1) (sz:=1) (off:=0) (t:=ty 32) (v:=.osl 2 1 0 (l56.length)) h456) (en (sq (sq (rg (tr (tr (tr (sni (encN:=(nL 1 Ae)) (xs:=out_13) (n:=i_21) (enc:=Ae) [.osl 2 1 0 (l56.length)] l56 1 1 0 2 1) (scl (encN:=(nL 1 Ae)) (xss:=out_13) i_21 [.own 1 (l56.map Ae)] 1 1 l56)) (sn 6 1 1 (lsS out_13 i_21.toNat l56))) (sn 25 1 1 (lsS out_13 i_21.toNat l56))) (ck 1 (en (bk 2 (bx H λ y108 h466 H=>lX N6 h466 (gP [1,2,5,6,7,8] [0,1] (po1 (pn1 (nL 1 Ae) (List.set out_13 i_21.toNat l56) (Pl.z)))) rfl λ s hE87=>qH (qs (hE87) (sr (ck 1 (en (bk 4 (bx H λ y111 h479 H=>lX N9 h479 (gP [1,2,5,6,7,9] [0,1] (po1 (pn1 (nL 1 Ae) y108 (Pl.z)))) rfl λ s hE90=>qH (qN (qs (hE90) (rz (ck 3 (ae (by cases H;exact og (gP [1,2,5,6,7] [0,1] (po1 (pn1 (nL 1 Ae) y111 (Pl.z))))))))))))))))))))))))))))))))))
 ·exact ex 0 (qx (by cases H;exact xo rfl (gP [6] [1] (pn1 (nL 1 Ae) out_13 (Pl.z)))))
theorem LL {z} (H:F7 n p0_ p1_=some z):AM Try.prog 28 [.agg (Ay p0_),.d (.str p1_)] (.d (.sl (z.map (eL Ae)))):=by
 exact fO 116 (JiD p0_ p1_) Try.func28 (sr (ck 2 (en (sr (ck 1 (bx H λ r139 h454 H=>ca false (JF h454) (ck 1 (en (sr (ck 3 (bx H λ l55 h455 H=>sp (PU 1 (ez:=[.nil]) h455) (ck 1 (en (sq (sq (rg (tr (tr (SI (encN:=(nL 1 Ae)) (sz:=1) (z:=[.nil]) (n:=(Ar .i64 ((p1_.length:Nat):Int) 1)) 1 (KJ h455) (by kernel_rfl) (by kernel_rfl)) (sn 18 1 1 (Fh h455))) (sn 6 1 1 (Fh h455))) (ck 3 (en (bk 0 (bx H λ y112 h480 H=>lX Oa h480 (gP [1,2,5,6,7] [0,1] (po1 (pn1 (nL 1 Ae) l55 (Pl.z)))) rfl λ s hE91=>qH (qs (hE91) (sr (ck 2 (ae (qs (YO (encN:=(nL 1 Ae)) (encD:=(eL Ae)) (xss:=y112) (k:=0) (sz:=1) 4 (by kernel_rfl) (λ _=>rfl) (λ _=>rfl)) (re (by cases H;exact pr rd)))))))))))))))))))))))))))
end
section
variable (p0_:Ad) (p1_:(List UInt8)) (r143:(List (List Int))) (out_25:BM) (i_22:Int) (out_26:BM) (least_4:Int) (k_6:Int) (least_5:Int) (least_6:Int) (y113:Int) (column_18:(List Int)) (k_7:Int) (column_19:(List Int)) (column_20:(List Int))
def JiM:St:=⟨(0,.agg [.d (.int .i64 p0_.Modes),.d (.int .u8 p0_.Accept),.d (.sl (p0_.Rules.map An))])::(1,.d (.str p1_))::[],[]⟩
def JiN:St:=⟨(4,.ptr 0 0)::(5,.ptr 1 0)::(6,.d (.sl (r143.map (eL Ae))))::(7,.d (.int .i64 i_22))::[],[some (.box [.d (.str []),.osl 2 1 0 (List.length ([]:List (List Int))),.osl 3 1 0 (List.length ([]:List Int))]),some (.box (FQ out_25 (.osl 4 1 0 (out_25.Costs.length)) (.osl 5 1 0 (out_25.Least.length)))),some (.arr 1 (List.map (eL Ae) ([]:List (List Int)))),some (.arr 1 (List.map Ae ([]:List Int))),some (.arr 1 (out_25.Costs.map (eL Ae))),some (.arr 1 (out_25.Least.map Ae))]⟩
def JiO:St:=⟨(4,.ptr 0 0)::(5,.ptr 1 0)::[],[some (.box [.d (.str []),.osl 2 1 0 (List.length ([]:List (List Int))),.osl 3 1 0 (List.length ([]:List Int))]),some (.box (FQ out_26 (.osl 4 1 0 (out_26.Costs.length)) (.osl 5 1 0 (out_26.Least.length)))),some (.arr 1 (List.map (eL Ae) ([]:List (List Int)))),some (.arr 1 (List.map Ae ([]:List Int))),some (.arr 1 (out_26.Costs.map (eL Ae))),some (.arr 1 (out_26.Least.map Ae))]⟩
def JiP:St:=⟨(4,.ptr 0 0)::(5,.ptr 1 0)::(6,.d (.sl (r143.map (eL Ae))))::(7,.d (.int .i64 i_22))::(8,.d (.int .i64 least_4))::(9,.d (.int .i64 k_6))::[],[some (.box [.d (.str []),.osl 2 1 0 (List.length ([]:List (List Int))),.osl 3 1 0 (List.length ([]:List Int))]),some (.box (FQ out_25 (.osl 4 1 0 (out_25.Costs.length)) (.osl 5 1 0 (out_25.Least.length)))),some (.arr 1 (List.map (eL Ae) ([]:List (List Int)))),some (.arr 1 (List.map Ae ([]:List Int))),some (.arr 1 (out_25.Costs.map (eL Ae))),some (.arr 1 (out_25.Least.map Ae))]⟩
def JiQ:St:=⟨(4,.ptr 0 0)::(5,.ptr 1 0)::(6,.d (.sl (r143.map (eL Ae))))::(7,.d (.int .i64 i_22))::(8,.d (.int .i64 least_5))::[],[some (.box [.d (.str []),.osl 2 1 0 (List.length ([]:List (List Int))),.osl 3 1 0 (List.length ([]:List Int))]),some (.box (FQ out_25 (.osl 4 1 0 (out_25.Costs.length)) (.osl 5 1 0 (out_25.Least.length)))),some (.arr 1 (List.map (eL Ae) ([]:List (List Int)))),some (.arr 1 (List.map Ae ([]:List Int))),some (.arr 1 (out_25.Costs.map (eL Ae))),some (.arr 1 (out_25.Least.map Ae))]⟩
def JiR:St:=⟨(4,.ptr 0 0)::(5,.ptr 1 0)::(6,.d (.sl (r143.map (eL Ae))))::(7,.d (.int .i64 i_22))::(8,.d (.int .i64 least_6))::(9,.d (.int .i64 k_6))::[],[some (.box [.d (.str []),.osl 2 1 0 (List.length ([]:List (List Int))),.osl 3 1 0 (List.length ([]:List Int))]),some (.box (FQ out_25 (.osl 4 1 0 (out_25.Costs.length)) (.osl 5 1 0 (out_25.Least.length)))),some (.arr 1 (List.map (eL Ae) ([]:List (List Int)))),some (.arr 1 (List.map Ae ([]:List Int))),some (.arr 1 (out_25.Costs.map (eL Ae))),some (.arr 1 (out_25.Least.map Ae))]⟩
def TR:Int->Ex->St->Prop:=xX 0 2 (λ (y:Int)=>JiQ r143 out_25 i_22 y)
def NJ:(Int×Int)->St:=(λ (x:(Int×Int))=>JiP r143 out_25 i_22 x.1 x.2)
def JiS:St:=⟨(4,.ptr 0 0)::(5,.ptr 1 0)::(6,.d (.sl (r143.map (eL Ae))))::(7,.d (.int .i64 i_22))::(8,.d (.int .i64 y113))::(10,.osl 2 1 0 (column_18.length))::(11,.d (.int .i64 k_7))::[],[some (.box [.d (.str []),.osl 3 1 0 (List.length ([]:List (List Int))),.osl 4 1 0 (List.length ([]:List Int))]),some (.box (FQ out_25 (.osl 5 1 0 (out_25.Costs.length)) (.osl 6 1 0 (out_25.Least.length)))),some (.arr 1 (column_18.map Ae)),some (.arr 1 (List.map (eL Ae) ([]:List (List Int)))),some (.arr 1 (List.map Ae ([]:List Int))),some (.arr 1 (out_25.Costs.map (eL Ae))),some (.arr 1 (out_25.Least.map Ae))]⟩
def JiT:St:=⟨(4,.ptr 0 0)::(5,.ptr 1 0)::(6,.d (.sl (r143.map (eL Ae))))::(7,.d (.int .i64 i_22))::(8,.d (.int .i64 y113))::(10,.osl 2 1 0 (column_19.length))::[],[some (.box [.d (.str []),.osl 3 1 0 (List.length ([]:List (List Int))),.osl 4 1 0 (List.length ([]:List Int))]),some (.box (FQ out_25 (.osl 5 1 0 (out_25.Costs.length)) (.osl 6 1 0 (out_25.Least.length)))),some (.arr 1 (column_19.map Ae)),some (.arr 1 (List.map (eL Ae) ([]:List (List Int)))),some (.arr 1 (List.map Ae ([]:List Int))),some (.arr 1 (out_25.Costs.map (eL Ae))),some (.arr 1 (out_25.Least.map Ae))]⟩
def JiU:St:=⟨(4,.ptr 0 0)::(5,.ptr 1 0)::(6,.d (.sl (r143.map (eL Ae))))::(7,.d (.int .i64 i_22))::(8,.d (.int .i64 y113))::(10,.osl 2 1 0 (column_20.length))::(11,.d (.int .i64 k_7))::[],[some (.box [.d (.str []),.osl 3 1 0 (List.length ([]:List (List Int))),.osl 4 1 0 (List.length ([]:List Int))]),some (.box (FQ out_25 (.osl 5 1 0 (out_25.Costs.length)) (.osl 6 1 0 (out_25.Least.length)))),some (.arr 1 (column_20.map Ae)),some (.arr 1 (List.map (eL Ae) ([]:List (List Int)))),some (.arr 1 (List.map Ae ([]:List Int))),some (.arr 1 (out_25.Costs.map (eL Ae))),some (.arr 1 (out_25.Least.map Ae))]⟩
def TT:(List Int)->Ex->St->Prop:=xX 0 4 (λ (y:(List Int))=>JiT r143 out_25 i_22 y113 y)
def NK:((List Int)×Int)->St:=(λ (x:((List Int)×Int))=>JiS r143 out_25 i_22 y113 x.1 x.2)
def TU:BM->Ex->St->Prop:=xX 0 0 (λ (y:BM)=>JiO y)
def NL:(BM×Int)->St:=(λ (x:(BM×Int))=>JiN r143 x.1 x.2)
variable {p0_ p1_ r143 out_25 i_22 out_26 least_4 k_6 least_5 least_6 y113 column_18 k_7 column_19 column_20}
theorem Tb (x:(Int×Int)) (z:((Int×Int)⊕Int)) (H:FN n r143 out_25 i_22 x.1 x.2=some z):WP (cxk 108 0) (Ax Try.f11) [1,1,1,0,1,0,0,1,0,0,1,0,1,0,0] (Av 0 (NJ r143 out_25 i_22) (TR r143 out_25 i_22) z) (NJ r143 out_25 i_22 x):=by
 obtain ⟨least_4,k_6⟩:=x
 refine sq (sr (ck 3 (bx H λ x170 h482 H=>sp (Ao (eL Ae) h482) (ck 1 (sp (AE Ae x170) (ck 1 (en (cn H (λ H=>?_) (λ H=>?_)))))))))
 ·refine sk (qz (sj (λ (x:Int)=>JiR r143 out_25 i_22 k_6 x) (λ (x:Int)=>Hg n k_6 x) z ?_ (λ hFR7_Memo_J1=>?_)))
  ·intro least_6 H
   exact rz (ck 3 (ae (by cases H;exact og (sg [4,5,6,7,8,9]))))
  refine bk 3 (sr (ck 2 (bx H λ x171 h483 H=>sp (Ao (eL Ae) h483) (ck 2 (bx H λ x172 h484 H=>sp (Ao Ae h484) (ck 4 (gc 2 (decide (x172>=0)) (ck 2 (bx H λ x173 h485 H=>sE (λ hg=>Ao (eL Ae) (Bq h485 hg)) (gc 1 ((decide (x172>=0))&&!(decide (least_4<0))) (ck 1 (bx H λ x174 h486 H=>sE (λ hg=>Ao Ae (Bq h486 hg)) (gc 1 ((decide (x172>=0))&&!(decide (least_4<0))) (ck 1 (gc 1 ((decide (x172>=0))&&!(decide (least_4<0))) (pG (g:=decide (x172>=0)) (v:=.d (.bool ((decide (least_4<0))||(decide (x174<least_4))))) (λ hg=>GH (c:=.gv (decide (x172>=0)) (.d (.bool (decide (least_4<0))))) (a:=.d (.bool true)) (b:=.gv ((decide (x172>=0))&&!(decide (least_4<0))) (.d (.bool (decide (x174<least_4))))) rfl rfl rfl ((λ hh=>hh) hg) trivial (λ ht=>by rw [(λ hh=>hh) hg,ht];rfl)) (pA (en (cn H (λ H=>?_) (λ H=>?_))))))))))))))))))))
  ·exact rz (ck 2 (bx H λ x175 h487 H=>sp (Ao (eL Ae) h487) (ck 2 (bx H λ x176 h488 H=>sp (Ao Ae h488) (ck 2 (ae (qN (qs (sg [4,5,6,7,8,9]) (hFR7_Memo_J1 x176 H)))))))))
  ·exact sk (qN (qs (sg [4,5,6,7,8,9]) (hFR7_Memo_J1 least_4 H)))
 ·exact ex 2 (qx (by cases H;exact xo rfl (sg [4,5,6,7,8])))
theorem Tc (x:((List Int)×Int)) (z:(((List Int)×Int)⊕(List Int))) (H:FO n r143 out_25 i_22 y113 x.1 x.2=some z):WP (cxk 108 0) (Ax Try.f11) [1,1,1,0,1,0,0,1,0,0,1,1,1,0,1,0,0] (Av 0 (NK r143 out_25 i_22 y113) (TT r143 out_25 i_22 y113) z) (NK r143 out_25 i_22 y113 x):=by
 obtain ⟨column_18,k_7⟩:=x
 refine sq (sr (ck 3 (bx H λ x177 h490 H=>sp (Ao (eL Ae) h490) (ck 1 (sp (AE Ae x177) (ck 1 (en (cn H (λ H=>?_) (λ H=>?_)))))))))
 ·refine sk (qz (sj (λ (x:(List Int))=>JiU r143 out_25 i_22 y113 k_7 x) (λ (x:(List Int))=>Hh n k_7 x) z ?_ (λ hFR7_Memo_J2=>?_)))
  ·intro column_20 H
   exact rz (ck 3 (ae (by cases H;exact og (sg [4,5,6,7,8,10,11]))))
  refine bk 5 (sr (ck 2 (bx H λ x178 h491 H=>sp (Ao (eL Ae) h491) (ck 2 (bx H λ x179 h492 H=>sp (Ao Ae h492) (ck 2 (en (cn H (λ H=>?_) (λ H=>?_)))))))))
  ·exact rz (ck 2 (bx H λ l60 h493 H=>sp (B5 Ae 2 1 h493) (ck 1 (ae (qN (qs (sg [4,5,6,7,8,10,11]) (hFR7_Memo_J2 l60 H)))))))
  ·exact rz (ck 3 (bx H λ x180 h494 H=>sp (Ao (eL Ae) h494) (ck 2 (bx H λ x181 h495 H=>sp (Ao Ae h495) (ck 4 (bx H λ l61 h496 H=>sp (B5 Ae 2 1 h496) (ck 1 (ae (qN (qs (sg [4,5,6,7,8,10,11]) (hFR7_Memo_J2 l61 H)))))))))))
 ·exact ex 4 (qx (by cases H;exact xo rfl (sg [4,5,6,7,8,10])))
theorem Td (x:(BM×Int)) (z:((BM×Int)⊕BM)) (H:Hi n r143 x.1 x.2=some z):WP (cxk 108 0) (Ax Try.f11) [1,1,1,0,1,0,0] (Av 0 (NL r143) (TU) z) (NL r143 x):=by
 obtain ⟨out_25,i_22⟩:=x
 refine sq (sr (ck 2 (sp (AE (eL Ae) r143) (ck 1 (en (cn H (λ H=>?_) (λ H=>?_)))))))
 ·exact sk (qz (sq (bk 1 (sr (ck 1 (en (sq (sr (ck 1 (en (bk 2 (bx H λ y113 h489 H=>lX Tb h489 (sg [4,5,6,7,8,9]) rfl λ s hE92=>qH (qs (hE92) (sr (ck 2 (en (sq (sr (ck 1 (en (bk 4 (bx H λ y114 h497 H=>lX Tc h497 (sg [4,5,6,7,8,10,11]) rfl λ s hE93=>qH (qs (hE93) (sq (rg (fz (enc:=Ae) (xs:=y114) 10 2 1) (ck 4 (bx H λ l62 h498 H=>sp (B5 (eL Ae) 5 1 h498) (ck 2 (en (rz (ck 4 (bx H λ l63 h499 H=>sp (B5 Ae 6 1 h499) (ck 2 (ae (qN (qz (rz (ck 3 (ae (by cases H;exact og (sg [4,5,6,7])))))))))))))))))))))))))))))))))))))))))
 ·exact ex 0 (qx (by cases H;exact xo rfl (sg [4,5])))
theorem W7 {z} (H:OW n p0_ p1_=some z):AM Try.prog 11 [.agg (Ay p0_),.d (.str p1_)] (.agg [.d (.str z.Text),.own 1 (z.Costs.map (eL Ae)),.own 1 (z.Least.map Ae)]):=by
 exact fO 108 (JiM p0_ p1_) Try.func11 (sr (ck 2 (en (sr (ck 4 (en (sr (ck 2 (bx H λ r143 h481 H=>ca false (LL h481) (ck 1 (en (sq (sr (ck 1 (en (bk 0 (bx H λ y115 h500 H=>lX Td h500 (tr (tr (tr (tr (Bt 1 1 1 (by kernel_rfl)) (Bt 1 2 1 (by kernel_rfl))) (Bt 2 1 1 (by kernel_rfl))) (Bt 2 2 1 (by kernel_rfl))) (sg [4,5,6,7])) rfl λ s hE94=>qH (qs (hE94) (sr (ck 2 (en (re (by cases H;exact pr (rO (v:=.agg [.d (.str z.Text),.osl 4 1 0 (z.Costs.length),.osl 5 1 0 (z.Least.length)]) [4,5] (a1 (c1 vd (c1 vo (c1 vo (c0)))))))))))))))))))))))))))))
end
section
variable (p0_:Ad) (p1_:(List UInt8)) (r157:(List Aa)) (at_1:(List (List Bool))) (i_24:Int) (at_2:(List (List Bool))) (at_3:(List (List Bool))) (out_27:Int) (i_25:Int) (out_28:Int) (at_4:(List (List Bool))) (changed_7:Bool) (at_5:(List (List Bool))) (at_6:(List (List Bool))) (changed_8:Bool) (k_8:Int) (at_7:(List (List Bool))) (changed_9:Bool) (at_8:(List (List Bool))) (changed_10:Bool) (r_4:Int) (at_9:(List (List Bool))) (changed_11:Bool) (at_10:(List (List Bool))) (changed_12:Bool) (y122:(List (List Bool))) (class_2:Int) (at_11:(List (List Bool))) (out_29:Int) (k_9:Int) (at_12:(List (List Bool))) (out_30:Int) (at_13:(List (List Bool))) (out_31:Int)
def JiV:St:=⟨(0,.agg [.d (.int .i64 p0_.Modes),.d (.int .u8 p0_.Accept),.d (.sl (p0_.Rules.map An))])::(1,.d (.str p1_))::[],[]⟩
def JiW:St:=⟨(1,.d (.str p1_))::(2,.ptr 0 0)::(5,.d (.sl (r157.map Ah)))::(6,.osl 1 1 0 (at_1.length))::(7,.d (.int .i64 0))::(8,.d (.int .i64 i_24))::[],[some (.box (Ay p0_)),some (.narr 1 (at_1.map (nL 1 eB)))]⟩
def JiX:St:=⟨(1,.d (.str p1_))::(2,.ptr 0 0)::(5,.d (.sl (r157.map Ah)))::(6,.osl 1 1 0 (at_2.length))::(7,.d (.int .i64 0))::[],[some (.box (Ay p0_)),some (.narr 1 (at_2.map (nL 1 eB)))]⟩
def Qg:(List (List Bool))->Ex->St->Prop:=xX 0 0 (λ (y:(List (List Bool)))=>JiX p0_ p1_ r157 y)
def J7:((List (List Bool))×Int)->St:=(λ (x:((List (List Bool))×Int))=>JiW p0_ p1_ r157 x.1 x.2)
def JiY:St:=⟨(1,.d (.str p1_))::(2,.ptr 0 0)::(5,.d (.sl (r157.map Ah)))::(6,.osl 1 1 0 (at_3.length))::(7,.d (.int .i64 out_27))::(9,.d (.int .i64 i_25))::[],[some (.box (Ay p0_)),some (.narr 1 (at_3.map (nL 1 eB)))]⟩
def JiZ:St:=⟨(7,.d (.int .i64 out_28))::[],[]⟩
def Ji0:St:=⟨(1,.d (.str p1_))::(2,.ptr 0 0)::(5,.d (.sl (r157.map Ah)))::(6,.osl 1 1 0 (at_4.length))::(7,.d (.int .i64 out_27))::(9,.d (.int .i64 i_25))::(10,.d (.bool changed_7))::[],[some (.box (Ay p0_)),some (.narr 1 (at_4.map (nL 1 eB)))]⟩
def Ji1:St:=⟨(1,.d (.str p1_))::(2,.ptr 0 0)::(5,.d (.sl (r157.map Ah)))::(6,.osl 1 1 0 (at_5.length))::(7,.d (.int .i64 out_27))::(9,.d (.int .i64 i_25))::[],[some (.box (Ay p0_)),some (.narr 1 (at_5.map (nL 1 eB)))]⟩
def Ji2:St:=⟨(1,.d (.str p1_))::(2,.ptr 0 0)::(5,.d (.sl (r157.map Ah)))::(6,.osl 1 1 0 (at_6.length))::(7,.d (.int .i64 out_27))::(9,.d (.int .i64 i_25))::(10,.d (.bool changed_8))::(11,.d (.int .i64 k_8))::[],[some (.box (Ay p0_)),some (.narr 1 (at_6.map (nL 1 eB)))]⟩
def Ji3:St:=⟨(1,.d (.str p1_))::(2,.ptr 0 0)::(5,.d (.sl (r157.map Ah)))::(6,.osl 1 1 0 (at_7.length))::(7,.d (.int .i64 out_27))::(9,.d (.int .i64 i_25))::(10,.d (.bool changed_9))::[],[some (.box (Ay p0_)),some (.narr 1 (at_7.map (nL 1 eB)))]⟩
def Je1:St:=⟨(1,.d (.str p1_))::(2,.ptr 0 0)::(5,.d (.sl (r157.map Ah)))::(6,.osl 1 1 0 (at_8.length))::(7,.d (.int .i64 out_27))::(9,.d (.int .i64 i_25))::(10,.d (.bool changed_10))::(11,.d (.int .i64 k_8))::(12,.d (.int .i64 r_4))::[],[some (.box (Ay p0_)),some (.narr 1 (at_8.map (nL 1 eB)))]⟩
def Je2:St:=⟨(1,.d (.str p1_))::(2,.ptr 0 0)::(5,.d (.sl (r157.map Ah)))::(6,.osl 1 1 0 (at_9.length))::(7,.d (.int .i64 out_27))::(9,.d (.int .i64 i_25))::(10,.d (.bool changed_11))::(11,.d (.int .i64 k_8))::[],[some (.box (Ay p0_)),some (.narr 1 (at_9.map (nL 1 eB)))]⟩
def Je3:St:=⟨(1,.d (.str p1_))::(2,.ptr 0 0)::(5,.d (.sl (r157.map Ah)))::(6,.osl 1 1 0 (at_10.length))::(7,.d (.int .i64 out_27))::(9,.d (.int .i64 i_25))::(10,.d (.bool changed_12))::(11,.d (.int .i64 k_8))::(12,.d (.int .i64 r_4))::[],[some (.box (Ay p0_)),some (.narr 1 (at_10.map (nL 1 eB)))]⟩
def Qh:((List (List Bool))×Bool)->Ex->St->Prop:=xX 0 8 (λ (y:((List (List Bool))×Bool))=>Je2 p0_ p1_ r157 out_27 i_25 k_8 y.1 y.2)
def J8:((List (List Bool))×Bool×Int)->St:=(λ (x:((List (List Bool))×Bool×Int))=>Je1 p0_ p1_ r157 out_27 i_25 k_8 x.1 x.2.1 x.2.2)
def Qi:((List (List Bool))×Bool)->Ex->St->Prop:=xX 0 6 (λ (y:((List (List Bool))×Bool))=>Ji3 p0_ p1_ r157 out_27 i_25 y.1 y.2)
def J9:((List (List Bool))×Bool×Int)->St:=(λ (x:((List (List Bool))×Bool×Int))=>Ji2 p0_ p1_ r157 out_27 i_25 x.1 x.2.1 x.2.2)
def Qj:(List (List Bool))->Ex->St->Prop:=xX 0 4 (λ (y:(List (List Bool)))=>Ji1 p0_ p1_ r157 out_27 i_25 y)
def Ka:((List (List Bool))×Bool)->St:=(λ (x:((List (List Bool))×Bool))=>Ji0 p0_ p1_ r157 out_27 i_25 x.1 x.2)
def Je4:St:=⟨(1,.d (.str p1_))::(2,.ptr 0 0)::(5,.d (.sl (r157.map Ah)))::(6,.osl 1 1 0 (y122.length))::(7,.d (.int .i64 out_27))::(9,.d (.int .i64 i_25))::(16,.d (.int .i64 class_2))::[],[some (.box (Ay p0_)),some (.narr 1 (y122.map (nL 1 eB)))]⟩
def Je5:St:=⟨(1,.d (.str p1_))::(2,.ptr 0 0)::(5,.d (.sl (r157.map Ah)))::(6,.osl 1 1 0 (at_11.length))::(7,.d (.int .i64 out_29))::(9,.d (.int .i64 i_25))::(16,.d (.int .i64 class_2))::(17,.d (.int .i64 k_9))::[],[some (.box (Ay p0_)),some (.narr 1 (at_11.map (nL 1 eB)))]⟩
def Je6:St:=⟨(1,.d (.str p1_))::(2,.ptr 0 0)::(5,.d (.sl (r157.map Ah)))::(6,.osl 1 1 0 (at_12.length))::(7,.d (.int .i64 out_30))::(9,.d (.int .i64 i_25))::[],[some (.box (Ay p0_)),some (.narr 1 (at_12.map (nL 1 eB)))]⟩
def Je7:St:=⟨(1,.d (.str p1_))::(2,.ptr 0 0)::(5,.d (.sl (r157.map Ah)))::(6,.osl 1 1 0 (at_13.length))::(7,.d (.int .i64 out_31))::(9,.d (.int .i64 i_25))::(16,.d (.int .i64 class_2))::(17,.d (.int .i64 k_9))::[],[some (.box (Ay p0_)),some (.narr 1 (at_13.map (nL 1 eB)))]⟩
def Qk:((List (List Bool))×Int)->Ex->St->Prop:=xX 0 10 (λ (y:((List (List Bool))×Int))=>Je6 p0_ p1_ r157 i_25 y.1 y.2)
def Kb:((List (List Bool))×Int×Int)->St:=(λ (x:((List (List Bool))×Int×Int))=>Je5 p0_ p1_ r157 i_25 class_2 x.1 x.2.1 x.2.2)
def Ql:Int->Ex->St->Prop:=xX 0 2 (λ (y:Int)=>JiZ y)
def Kc:((List (List Bool))×Int×Int)->St:=(λ (x:((List (List Bool))×Int×Int))=>JiY p0_ p1_ r157 x.1 x.2.1 x.2.2)
variable {p0_ p1_ r157 at_1 i_24 at_2 at_3 out_27 i_25 out_28 at_4 changed_7 at_5 at_6 changed_8 k_8 at_7 changed_9 at_8 changed_10 r_4 at_9 changed_11 at_10 changed_12 y122 class_2 at_11 out_29 k_9 at_12 out_30 at_13 out_31}
theorem Pg (x:((List (List Bool))×Int)) (z:(((List (List Bool))×Int)⊕(List (List Bool)))) (H:Eg n p0_ p1_ r157 x.1 x.2=some z):WP (cxk 152 0) (Ax Try.f31) [1,1,1,0,1,0,0] (Av 0 (J7 p0_ p1_ r157) (Qg p0_ p1_ r157) z) (J7 p0_ p1_ r157 x):=by
 obtain ⟨at_1,i_24⟩:=x
 refine sq (sr (ck 4 (en (cn H (λ H=>?_) (λ H=>?_)))))
 ·exact sk (qz (sq (bk 1 (bx H λ x184 h519 H=>rg (so1 (encN:=(nL 1 eB)) 1 1 h519) (ck 3 (sp (AE Ah r157) (bx H λ l65 h520 H=>sp (SK eB 1 h520) (sp (As 1 1 h519) (sp (KI (encN:=(nL 1 eB)) (row:=[.own 1 (x184.map eB)]) (row':=[.osl 2 1 0 (l65.length)]) (k:=1) (sz:=1) (off:=0) (t:=ty 108) (v:=.osl 2 1 0 (l65.length)) h519) (ae (qN (qz (rg (tr (tr (tr (sni (encN:=(nL 1 eB)) (xs:=at_1) (n:=i_24) (enc:=eB) [.osl 2 1 0 (l65.length)] l65 1 1 0 2 1) (scl (encN:=(nL 1 eB)) (xss:=at_1) i_24 [.own 1 (l65.map eB)] 1 1 l65)) (sn 6 1 1 (lsS at_1 i_24.toNat l65))) (sn 30 1 1 (lsS at_1 i_24.toNat l65))) (ck 3 (ae (by cases H;exact og (gP [1,2,5,6,7,8] [0,1] (po1 (pn1 (nL 1 eB) (List.set at_1 i_24.toNat l65) (Pl.z))))))))))))))))))))
 ·exact ex 0 (qx (by cases H;exact xo rfl (gP [1,2,5,6,7] [0,1] (po1 (pn1 (nL 1 eB) at_1 (Pl.z))))))
theorem Ph (x:((List (List Bool))×Bool×Int)) (z:(((List (List Bool))×Bool×Int)⊕((List (List Bool))×Bool))) (H:Dm n p0_ p1_ r157 out_27 i_25 k_8 x.1 x.2.1 x.2.2=some z):WP (cxk 152 0) (Ax Try.f31) [1,1,1,1,1,0,1,0,0,1,0,0,0,1,0,0,1,0,1,1,0,0,1,0,0,1,0,0] (Av 0 (J8 p0_ p1_ r157 out_27 i_25 k_8) (Qh p0_ p1_ r157 out_27 i_25 k_8) z) (J8 p0_ p1_ r157 out_27 i_25 k_8 x):=by
 obtain ⟨at_8,changed_10,r_4⟩:=x
 refine sq (sq (rg (tr (so0 (encN:=(nL 1 eB)) (xss:=at_8) 1 1 i_25 ([]:(List Bool))) (snT (encN:=(nL 1 eB)) (xss:=at_8) (n:=i_25) (d:=([]:(List Bool))) (enc:=eB) (λ x=>x) [.own 1 (List.map eB (List.getD at_8 i_25.toNat []))] 1 1 0 1)) (ck 3 (sp (AE An p0_.Rules) (ck 4 (bx H λ x187 h525 H=>sE (λ hg=>As 1 1 (Bq h525 hg)) (sE (g:=decide (r_4<((p0_.Rules.length:Nat):Int))) (λ hg=>BT (encN:=(nL 1 eB)) (row:=[.osl 2 1 0 (List.length (List.getD at_8 i_25.toNat []))]) (k:=1) (sz:=1) (off:=0) (t:=ty 108) (v:=.osl 2 1 0 (List.length (List.getD at_8 i_25.toNat []))) (Bq h525 hg)) (ck 1 (bx H λ x188 h526 H=>sE (λ hg=>As 2 1 (Bq h526 hg)) (sE (g:=decide (r_4<((p0_.Rules.length:Nat):Int))) (λ hg=>Ct eB 2 0 (ty 4) (Bq h526 hg)) (pA (en (cn H (λ H=>?_) (λ H=>?_))))))))))))))
 ·refine sk (qz (sj (λ (x:((List (List Bool))×Bool))=>Je3 p0_ p1_ r157 out_27 i_25 k_8 r_4 x.1 x.2) (λ (x:((List (List Bool))×Bool))=>Eh n r_4 x.1 x.2) z ?_ (λ hFR6_Reached_J1=>?_)))
  ·rintro ⟨at_10,changed_12⟩ H
   exact rz (ck 3 (ae (by cases H;exact og (gP [1,2,5,6,7,9,10,11,12] [0,1] (po1 (pn1 (nL 1 eB) at_10 (Pl.z)))))))
  refine bk 9 (sq (rg (tr (tr (sni (encN:=(nL 1 eB)) (xs:=at_8) (n:=i_25) (enc:=eB) [.osl 2 1 0 (List.length (List.getD at_8 i_25.toNat []))] (List.getD at_8 i_25.toNat []) 1 1 0 2 1) (scl (encN:=(nL 1 eB)) (xss:=at_8) i_25 [.own 1 (List.map eB (List.getD at_8 i_25.toNat []))] 1 1 (List.getD at_8 i_25.toNat []))) (sn 6 1 1 (lsS at_8 i_25.toNat (List.getD at_8 i_25.toNat [])))) (ck 3 (bx H λ x189 h527 H=>sp (Ao Ah h527) (ck 2 (bx H λ r158 h528 H=>ca false (Ja h528) (ck 6 (en (sr (ck 4 (bx H λ x190 h529 H=>sp (Ao An h529) (ck 5 (en (sq (rg (tr (so0 (encN:=(nL 1 eB)) (xss:=List.set at_8 i_25.toNat (List.getD at_8 i_25.toNat [])) 1 1 (Ar .i64 i_25 ((x190.Print.length:Nat):Int)) ([]:(List Bool))) (snT (encN:=(nL 1 eB)) (xss:=List.set at_8 i_25.toNat (List.getD at_8 i_25.toNat [])) (n:=Ar .i64 i_25 ((x190.Print.length:Nat):Int)) (d:=([]:(List Bool))) (enc:=eB) (λ x=>x) [.own 1 (List.map eB (List.getD (List.set at_8 i_25.toNat (List.getD at_8 i_25.toNat [])) (Int.toNat (Ar .i64 i_25 ((x190.Print.length:Nat):Int))) []))] 1 1 0 1)) (ck 5 (gc 1 r158.2 (ck 1 (bx H λ x191 h530 H=>sE (λ hg=>Ao An (Bq h530 hg)) (gc 2 r158.2 (bx H λ r159 h531 H=>cG false (leZ) rfl (λ hg=>NI (Bq h531 hg)) (Or.inl rfl) (B1 (λ hh=>hh) (B1 (λ hh=>hh) (B1 (λ hh=>hh) (D6)))) rfl (pA (ck 3 (bx H λ x192 h532 H=>sE (λ hg=>As 1 1 (Bq h532 hg)) (sE (g:=(r158.2&&r159)) (λ hg=>BT (encN:=(nL 1 eB)) (row:=[.osl 4 1 0 (List.length (List.getD (List.set at_8 i_25.toNat (List.getD at_8 i_25.toNat [])) (Int.toNat (Ar .i64 i_25 ((x190.Print.length:Nat):Int))) []))]) (k:=1) (sz:=1) (off:=0) (t:=ty 108) (v:=.osl 4 1 0 (List.length (List.getD (List.set at_8 i_25.toNat (List.getD at_8 i_25.toNat [])) (Int.toNat (Ar .i64 i_25 ((x190.Print.length:Nat):Int))) []))) (Bq h532 hg)) (ck 2 (bx H λ r160 h533 H=>cG false (leZ) rfl (λ hg=>Ez (Bq h533 hg)) (Or.inl rfl) (B1 (λ hh=>hh) (B1 (λ hh=>hh) (D6))) rfl (bx H λ x193 h534 H=>sE (λ hg=>As 4 1 (Bq h534 hg)) (sE (g:=(r158.2&&r159)) (λ hg=>Ct eB 4 0 (ty 4) (Bq h534 hg)) (gc 1 (r158.2&&r159) (pA (en (cn H (λ H=>?_) (λ H=>?_))))))))))))))))))))))))))))))))))
  ·exact sq (bx H λ x194 h535 H=>rg (tr (tr (tr (tr (sni (encN:=(nL 1 eB)) (xs:=List.set at_8 i_25.toNat (List.getD at_8 i_25.toNat [])) (n:=Ar .i64 i_25 ((x190.Print.length:Nat):Int)) (enc:=eB) [.osl 4 1 0 (List.length (List.getD (List.set at_8 i_25.toNat (List.getD at_8 i_25.toNat [])) (Int.toNat (Ar .i64 i_25 ((x190.Print.length:Nat):Int))) []))] (List.getD (List.set at_8 i_25.toNat (List.getD at_8 i_25.toNat [])) (Int.toNat (Ar .i64 i_25 ((x190.Print.length:Nat):Int))) []) 1 1 0 4 1) (scl (encN:=(nL 1 eB)) (xss:=List.set at_8 i_25.toNat (List.getD at_8 i_25.toNat [])) (Ar .i64 i_25 ((x190.Print.length:Nat):Int)) [.own 1 (List.map eB (List.getD (List.set at_8 i_25.toNat (List.getD at_8 i_25.toNat [])) (Int.toNat (Ar .i64 i_25 ((x190.Print.length:Nat):Int))) []))] 1 1 (List.getD (List.set at_8 i_25.toNat (List.getD at_8 i_25.toNat [])) (Int.toNat (Ar .i64 i_25 ((x190.Print.length:Nat):Int))) []))) (sn 6 1 1 (lsS (List.set at_8 i_25.toNat (List.getD at_8 i_25.toNat [])) (Int.toNat (Ar .i64 i_25 ((x190.Print.length:Nat):Int))) (List.getD (List.set at_8 i_25.toNat (List.getD at_8 i_25.toNat [])) (Int.toNat (Ar .i64 i_25 ((x190.Print.length:Nat):Int))) [])))) (so1 (encN:=(nL 1 eB)) 1 1 h535)) (sno (encN:=(nL 1 eB)) (enc:=eB) h535 [.own 1 (x194.map eB)] x194 1 1 0 1)) (ck 2 (sp (As 1 1 h535) (sp (BT (encN:=(nL 1 eB)) (row:=[.osl 5 1 0 (x194.length)]) (k:=1) (sz:=1) (off:=0) (t:=ty 108) (v:=.osl 5 1 0 (x194.length)) h535) (ck 2 (bx H λ r161 h536 H=>ca false (Ez h536) (bx H λ x195 h537 H=>sp (As 5 1 h537) (bx H λ l67 h538 H=>stA eB 5 0 (ty 4) h537 h538 (en (rg (tr (tr (tr (tr (tr (sn 115 5 1 (A5 h538)) (snr (encN:=(nL 1 eB)) (xs:=List.set (List.set at_8 i_25.toNat (List.getD at_8 i_25.toNat [])) (Int.toNat (Ar .i64 i_25 ((x190.Print.length:Nat):Int))) (List.getD (List.set at_8 i_25.toNat (List.getD at_8 i_25.toNat [])) (Int.toNat (Ar .i64 i_25 ((x190.Print.length:Nat):Int))) [])) (n:=Ar .i64 i_25 ((x190.Print.length:Nat):Int)) [.osl 5 1 0 (x194.length)] 1 1 0 5 1 (A5 h538))) (sni (encN:=(nL 1 eB)) (xs:=List.set (List.set at_8 i_25.toNat (List.getD at_8 i_25.toNat [])) (Int.toNat (Ar .i64 i_25 ((x190.Print.length:Nat):Int))) (List.getD (List.set at_8 i_25.toNat (List.getD at_8 i_25.toNat [])) (Int.toNat (Ar .i64 i_25 ((x190.Print.length:Nat):Int))) [])) (n:=Ar .i64 i_25 ((x190.Print.length:Nat):Int)) (enc:=eB) [.osl 5 1 0 (l67.length)] l67 1 1 0 5 1)) (scl (encN:=(nL 1 eB)) (xss:=List.set (List.set at_8 i_25.toNat (List.getD at_8 i_25.toNat [])) (Int.toNat (Ar .i64 i_25 ((x190.Print.length:Nat):Int))) (List.getD (List.set at_8 i_25.toNat (List.getD at_8 i_25.toNat [])) (Int.toNat (Ar .i64 i_25 ((x190.Print.length:Nat):Int))) [])) (Ar .i64 i_25 ((x190.Print.length:Nat):Int)) [.own 1 (l67.map eB)] 1 1 l67)) (sn 6 1 1 (lsS (List.set (List.set at_8 i_25.toNat (List.getD at_8 i_25.toNat [])) (Int.toNat (Ar .i64 i_25 ((x190.Print.length:Nat):Int))) (List.getD (List.set at_8 i_25.toNat (List.getD at_8 i_25.toNat [])) (Int.toNat (Ar .i64 i_25 ((x190.Print.length:Nat):Int))) [])) (Int.toNat (Ar .i64 i_25 ((x190.Print.length:Nat):Int))) l67))) (sn 112 1 1 (lsS (List.set (List.set at_8 i_25.toNat (List.getD at_8 i_25.toNat [])) (Int.toNat (Ar .i64 i_25 ((x190.Print.length:Nat):Int))) (List.getD (List.set at_8 i_25.toNat (List.getD at_8 i_25.toNat [])) (Int.toNat (Ar .i64 i_25 ((x190.Print.length:Nat):Int))) [])) (Int.toNat (Ar .i64 i_25 ((x190.Print.length:Nat):Int))) l67))) (ck 1 (ae (qN (qs (gP [1,2,5,6,7,9,10,11,12] [0,1] (po1 (pn1 (nL 1 eB) (List.set (List.set (List.set at_8 i_25.toNat (List.getD at_8 i_25.toNat [])) (Int.toNat (Ar .i64 i_25 ((x190.Print.length:Nat):Int))) (List.getD (List.set at_8 i_25.toNat (List.getD at_8 i_25.toNat [])) (Int.toNat (Ar .i64 i_25 ((x190.Print.length:Nat):Int))) [])) (Int.toNat (Ar .i64 i_25 ((x190.Print.length:Nat):Int))) l67) (Pl.z)))) (hFR6_Reached_J1 ((List.set (List.set (List.set at_8 i_25.toNat (List.getD at_8 i_25.toNat [])) (Int.toNat (Ar .i64 i_25 ((x190.Print.length:Nat):Int))) (List.getD (List.set at_8 i_25.toNat (List.getD at_8 i_25.toNat [])) (Int.toNat (Ar .i64 i_25 ((x190.Print.length:Nat):Int))) [])) (Int.toNat (Ar .i64 i_25 ((x190.Print.length:Nat):Int))) l67),true) H)))))))))))))))
  ·exact sk (qN (qs (tr (tr (tr (sni (encN:=(nL 1 eB)) (xs:=List.set at_8 i_25.toNat (List.getD at_8 i_25.toNat [])) (n:=Ar .i64 i_25 ((x190.Print.length:Nat):Int)) (enc:=eB) [.osl 4 1 0 (List.length (List.getD (List.set at_8 i_25.toNat (List.getD at_8 i_25.toNat [])) (Int.toNat (Ar .i64 i_25 ((x190.Print.length:Nat):Int))) []))] (List.getD (List.set at_8 i_25.toNat (List.getD at_8 i_25.toNat [])) (Int.toNat (Ar .i64 i_25 ((x190.Print.length:Nat):Int))) []) 1 1 0 4 1) (scl (encN:=(nL 1 eB)) (xss:=List.set at_8 i_25.toNat (List.getD at_8 i_25.toNat [])) (Ar .i64 i_25 ((x190.Print.length:Nat):Int)) [.own 1 (List.map eB (List.getD (List.set at_8 i_25.toNat (List.getD at_8 i_25.toNat [])) (Int.toNat (Ar .i64 i_25 ((x190.Print.length:Nat):Int))) []))] 1 1 (List.getD (List.set at_8 i_25.toNat (List.getD at_8 i_25.toNat [])) (Int.toNat (Ar .i64 i_25 ((x190.Print.length:Nat):Int))) []))) (sn 6 1 1 (lsS (List.set at_8 i_25.toNat (List.getD at_8 i_25.toNat [])) (Int.toNat (Ar .i64 i_25 ((x190.Print.length:Nat):Int))) (List.getD (List.set at_8 i_25.toNat (List.getD at_8 i_25.toNat [])) (Int.toNat (Ar .i64 i_25 ((x190.Print.length:Nat):Int))) [])))) (gP [1,2,5,6,7,9,10,11,12] [0,1] (po1 (pn1 (nL 1 eB) (List.set (List.set at_8 i_25.toNat (List.getD at_8 i_25.toNat [])) (Int.toNat (Ar .i64 i_25 ((x190.Print.length:Nat):Int))) (List.getD (List.set at_8 i_25.toNat (List.getD at_8 i_25.toNat [])) (Int.toNat (Ar .i64 i_25 ((x190.Print.length:Nat):Int))) [])) (Pl.z))))) (hFR6_Reached_J1 ((List.set (List.set at_8 i_25.toNat (List.getD at_8 i_25.toNat [])) (Int.toNat (Ar .i64 i_25 ((x190.Print.length:Nat):Int))) (List.getD (List.set at_8 i_25.toNat (List.getD at_8 i_25.toNat [])) (Int.toNat (Ar .i64 i_25 ((x190.Print.length:Nat):Int))) [])),changed_10) H)))
 ·exact ex 8 (qx (by cases H;exact xo rfl (tr (tr (tr (sni (encN:=(nL 1 eB)) (xs:=at_8) (n:=i_25) (enc:=eB) [.osl 2 1 0 (List.length (List.getD at_8 i_25.toNat []))] (List.getD at_8 i_25.toNat []) 1 1 0 2 1) (scl (encN:=(nL 1 eB)) (xss:=at_8) i_25 [.own 1 (List.map eB (List.getD at_8 i_25.toNat []))] 1 1 (List.getD at_8 i_25.toNat []))) (sn 6 1 1 (lsS at_8 i_25.toNat (List.getD at_8 i_25.toNat [])))) (gP [1,2,5,6,7,9,10,11] [0,1] (po1 (pn1 (nL 1 eB) (List.set at_8 i_25.toNat (List.getD at_8 i_25.toNat [])) (Pl.z)))))))
theorem Pi (x:((List (List Bool))×Bool×Int)) (z:(((List (List Bool))×Bool×Int)⊕((List (List Bool))×Bool))) (H:Dn n p0_ p1_ r157 out_27 i_25 x.1 x.2.1 x.2.2=some z):WP (cxk 152 0) (Ax Try.f31) [1,1,1,1,1,0,1,0,0,1,0,0,0,1,0,0,1,0,1,1,0,0] (Av 0 (J9 p0_ p1_ r157 out_27 i_25) (Qi p0_ p1_ r157 out_27 i_25) z) (J9 p0_ p1_ r157 out_27 i_25 x):=by
 obtain ⟨at_6,changed_8,k_8⟩:=x
 refine sq (sr (ck 2 (sp (AE Ah r157) (ck 1 (en (cn H (λ H=>?_) (λ H=>?_)))))))
 ·exact sk (qz (sq (bk 7 (sr (ck 1 (en (bk 8 (bx H λ y120 h539 H=>lX Ph h539 (gP [1,2,5,6,7,9,10,11,12] [0,1] (po1 (pn1 (nL 1 eB) at_6 (Pl.z)))) rfl λ s hE98=>qH (qN (qs (hE98) (rz (ck 3 (ae (by cases H;exact og (gP [1,2,5,6,7,9,10,11] [0,1] (po1 (pn1 (nL 1 eB) y120.1 (Pl.z))))))))))))))))))
 ·exact ex 6 (qx (by cases H;exact xo rfl (gP [1,2,5,6,7,9,10] [0,1] (po1 (pn1 (nL 1 eB) at_6 (Pl.z))))))
theorem Pj (x:((List (List Bool))×Bool)) (z:(((List (List Bool))×Bool)⊕(List (List Bool)))) (H:Ei n p0_ p1_ r157 out_27 i_25 x.1 x.2=some z):WP (cxk 152 0) (Ax Try.f31) [1,1,1,1,1,0,1,0,0,1,0,0,0,1,0,0] (Av 0 (Ka p0_ p1_ r157 out_27 i_25) (Qj p0_ p1_ r157 out_27 i_25) z) (Ka p0_ p1_ r157 out_27 i_25 x):=by
 obtain ⟨at_4,changed_7⟩:=x
 refine sq (sr (ck 1 (en (cn H (λ H=>?_) (λ H=>?_)))))
 ·exact sk (qz (bk 5 (sr (ck 1 (en (sr (ck 1 (en (bk 6 (bx H λ y121 h540 H=>lX Pi h540 (gP [1,2,5,6,7,9,10,11] [0,1] (po1 (pn1 (nL 1 eB) at_4 (Pl.z)))) rfl λ s hE99=>qH (qN (by cases H;exact og (tr (hE99) (gP [1,2,5,6,7,9,10] [0,1] (po1 (pn1 (nL 1 eB) y121.1 (Pl.z)))))))))))))))))
 ·exact ex 4 (qx (by cases H;exact xo rfl (gP [1,2,5,6,7,9] [0,1] (po1 (pn1 (nL 1 eB) at_4 (Pl.z))))))
theorem Pk (x:((List (List Bool))×Int×Int)) (z:(((List (List Bool))×Int×Int)⊕((List (List Bool))×Int))) (H:Do n p0_ p1_ r157 i_25 class_2 x.1 x.2.1 x.2.2=some z):WP (cxk 152 0) (Ax Try.f31) [1,1,1,1,1,0,1,0,0,1,0,0,1,1,1,1,0,0] (Av 0 (Kb p0_ p1_ r157 i_25 class_2) (Qk p0_ p1_ r157 i_25) z) (Kb p0_ p1_ r157 i_25 class_2 x):=by
 obtain ⟨at_11,out_29,k_9⟩:=x
 refine sq (sr (ck 2 (sp (AE Ah r157) (ck 1 (en (cn H (λ H=>?_) (λ H=>?_)))))))
 ·refine sk (qz (sj (λ (x:((List (List Bool))×Int))=>Je7 p0_ p1_ r157 i_25 class_2 k_9 x.1 x.2) (λ (x:((List (List Bool))×Int))=>Ej n k_9 x.1 x.2) z ?_ (λ hFR6_Reached_J3=>?_)))
  ·rintro ⟨at_13,out_31⟩ H
   exact rz (ck 3 (ae (by cases H;exact og (gP [1,2,5,6,7,9,16,17] [0,1] (po1 (pn1 (nL 1 eB) at_13 (Pl.z)))))))
  refine bk 11 (sq (bx H λ x196 h542 H=>rg (tr (so1 (encN:=(nL 1 eB)) 1 1 h542) (sno (encN:=(nL 1 eB)) (enc:=eB) h542 [.own 1 (x196.map eB)] x196 1 1 0 1)) (ck 2 (sp (As 1 1 h542) (sp (BT (encN:=(nL 1 eB)) (row:=[.osl 2 1 0 (x196.length)]) (k:=1) (sz:=1) (off:=0) (t:=ty 108) (v:=.osl 2 1 0 (x196.length)) h542) (ck 1 (bx H λ x197 h543 H=>sp (As 2 1 h543) (sp (Ct eB 2 0 (ty 4) h543) (ck 3 (bx H λ x198 h544 H=>sE (λ hg=>Ao Ah (Bq h544 hg)) (gc 2 x197 (ck 1 (bx H λ r162 h545 H=>cG false (leZ) rfl (λ hg=>Ii (Bq h545 hg)) (Or.inl rfl) (B1 (λ hh=>hh) (B1 (λ hh=>hh) (D6))) rfl (pA (en (cn H (λ H=>?_) (λ H=>?_)))))))))))))))))
  ·exact rg (tr (tr (tr (sni (encN:=(nL 1 eB)) (xs:=at_11) (n:=i_25) (enc:=eB) [.osl 2 1 0 (x196.length)] x196 1 1 0 2 1) (scl (encN:=(nL 1 eB)) (xss:=at_11) i_25 [.own 1 (x196.map eB)] 1 1 x196)) (sn 6 1 1 (lsS at_11 i_25.toNat x196))) (sn 134 1 1 (lsS at_11 i_25.toNat x196))) (ck 2 (ae (qN (qs (gP [1,2,5,6,7,9,16,17] [0,1] (po1 (pn1 (nL 1 eB) (List.set at_11 i_25.toNat x196) (Pl.z)))) (hFR6_Reached_J3 ((List.set at_11 i_25.toNat x196),i_25) H)))))
  ·exact sk (qN (qs (tr (tr (tr (tr (sni (encN:=(nL 1 eB)) (xs:=at_11) (n:=i_25) (enc:=eB) [.osl 2 1 0 (x196.length)] x196 1 1 0 2 1) (scl (encN:=(nL 1 eB)) (xss:=at_11) i_25 [.own 1 (x196.map eB)] 1 1 x196)) (sn 6 1 1 (lsS at_11 i_25.toNat x196))) (sn 134 1 1 (lsS at_11 i_25.toNat x196))) (gP [1,2,5,6,7,9,16,17] [0,1] (po1 (pn1 (nL 1 eB) (List.set at_11 i_25.toNat x196) (Pl.z))))) (hFR6_Reached_J3 ((List.set at_11 i_25.toNat x196),out_29) H)))
 ·exact ex 10 (qx (by cases H;exact xo rfl (gP [1,2,5,6,7,9] [0,1] (po1 (pn1 (nL 1 eB) at_11 (Pl.z))))))
theorem Pm (x:((List (List Bool))×Int×Int)) (z:(((List (List Bool))×Int×Int)⊕Int)) (H:El n p0_ p1_ r157 x.1 x.2.1 x.2.2=some z):WP (cxk 152 0) (Ax Try.f31) [1,1,1,1,1,0,1,0,0] (Av 0 (Kc p0_ p1_ r157) (Ql) z) (Kc p0_ p1_ r157 x):=by
 obtain ⟨at_3,out_27,i_25⟩:=x
 refine sq (sr (ck 4 (en (cn H (λ H=>?_) (λ H=>?_)))))
 ·refine sk (qz (sq (bk 3 (sq (sr (ck 1 (en (bk 4 (bx H λ y122 h541 H=>lX Pj h541 (gP [1,2,5,6,7,9,10] [0,1] (po1 (pn1 (nL 1 eB) at_3 (Pl.z)))) rfl λ s hE100=>qH (qs (hE100) (sr (ck 1 (en (sj (λ (x:Int)=>Je4 p0_ p1_ r157 out_27 i_25 y122 x) (λ (x:Int)=>Ek n p0_ p1_ r157 out_27 i_25 y122 x) z ?_ (λ hFR6_Reached_J2=>?_)))))))))))))))
  ·intro class_2 H
   exact sr (ck 1 (en (bk 10 (bx H λ y123 h546 H=>lX Pk h546 (gP [1,2,5,6,7,9,16,17] [0,1] (po1 (pn1 (nL 1 eB) y122 (Pl.z)))) rfl λ s hE101=>qH (qN (qs (hE101) (rz (ck 3 (ae (by cases H;exact og (gP [1,2,5,6,7,9] [0,1] (po1 (pn1 (nL 1 eB) y123.1 (Pl.z))))))))))))))
  refine sr (ck 4 (en (cn H (λ H=>?_) (λ H=>?_))))
  ·exact rz (ck 2 (bx H λ b10 h547 H=>sp (GX h547) (bx H λ r163 h548 H=>ca false (K2 h548) (ck 1 (ae (qs (gP [1,2,5,6,7,9,16] [0,1] (po1 (pn1 (nL 1 eB) y122 (Pl.z)))) (hFR6_Reached_J2 r163 H)))))))
  ·exact sk (qs (gP [1,2,5,6,7,9,16] [0,1] (po1 (pn1 (nL 1 eB) y122 (Pl.z)))) (hFR6_Reached_J2 0 H))
 ·exact ex 2 (qx (by cases H;exact xo rfl (sg [7])))
theorem Te {z} (H:I0 n p0_ p1_=some z):AM Try.prog 31 [.agg (Ay p0_),.d (.str p1_)] (.d (.int .i64 z)):=by
 exact fO 152 (JiV p0_ p1_) Try.func31 (sr (ck 2 (en (sr (ck 1 (bx H λ r157 h517 H=>ca false (JF h517) (ck 1 (en (sr (ck 3 (bx H λ l64 h518 H=>sp (PU 1 (ez:=[.nil]) h518) (ck 2 (en (sq (sq (rg (tr (tr (SI (encN:=(nL 1 eB)) (sz:=1) (z:=[.nil]) (n:=(Ar .i64 ((p1_.length:Nat):Int) 1)) 1 (KJ h518) (by kernel_rfl) (by kernel_rfl)) (sn 23 1 1 (Fh h518))) (sn 6 1 1 (Fh h518))) (ck 1 (en (bk 0 (bx H λ y119 h521 H=>lX Pg h521 (gP [1,2,5,6,7,8] [0,1] (po1 (pn1 (nL 1 eB) l64 (Pl.z)))) rfl λ s hE97=>qH (qs (hE97) (sq (bx H λ x185 h522 H=>rg (tr (so1 (encN:=(nL 1 eB)) 1 1 h522) (sno (encN:=(nL 1 eB)) (enc:=eB) h522 [.own 1 (x185.map eB)] x185 1 1 0 1)) (ck 1 (sp (As 1 1 h522) (sp (BT (encN:=(nL 1 eB)) (row:=[.osl 2 1 0 (x185.length)]) (k:=1) (sz:=1) (off:=0) (t:=ty 108) (v:=.osl 2 1 0 (x185.length)) h522) (bx H λ x186 h523 H=>sp (As 2 1 h523) (bx H λ l66 h524 H=>stA eB 2 0 (ty 4) h523 h524 (en (sq (sq (rg (tr (tr (tr (tr (tr (sn 38 2 1 (A5 h524)) (snr (encN:=(nL 1 eB)) (xs:=y119) (n:=0) [.osl 2 1 0 (x185.length)] 1 1 0 2 1 (A5 h524))) (sni (encN:=(nL 1 eB)) (xs:=y119) (n:=0) (enc:=eB) [.osl 2 1 0 (l66.length)] l66 1 1 0 2 1)) (scl (encN:=(nL 1 eB)) (xss:=y119) 0 [.own 1 (l66.map eB)] 1 1 l66)) (sn 6 1 1 (lsS y119 (Int.toNat 0) l66))) (sn 36 1 1 (lsS y119 (Int.toNat 0) l66))) (ck 1 (en (bk 2 (bx H λ y124 h549 H=>lX Pm h549 (gP [1,2,5,6,7,9] [0,1] (po1 (pn1 (nL 1 eB) (List.set y119 (Int.toNat 0) l66) (Pl.z)))) rfl λ s hE102=>qH (qs (hE102) (sr (ck 2 (en (re (by cases H;exact pr rd))))))))))))))))))))))))))))))))))))))))))
end
section
variable (p0_:Ad) (p1_:(List UInt8)) (r165:(List (List Int))) (r167:(List Aa)) (out_32:Ch) (p_1:EM) (out_33:Ch) (x204:Int) (r_5:Int) (r_6:Int)
def Ji4:St:=⟨(0,.agg [.d (.int .i64 p0_.Modes),.d (.int .u8 p0_.Accept),.d (.sl (p0_.Rules.map An))])::(1,.d (.str p1_))::[],[]⟩
def Ji5:St:=⟨(2,.ptr 0 0)::(4,.ptr 1 0)::(7,.d (.sl (r165.map (eL Ae))))::(8,.d (.sl (r167.map Ah)))::(9,.ptr 2 0)::(10,.ptr 3 0)::[],[some (.box (Ay p0_)),some (.box [.osl 4 1 0 (List.length ([]:List Int)),.osl 5 1 0 (List.length ([]:List Int)),.d (.int .i64 0),.d (.int .i64 0)]),some (.box (I1 out_32 (.osl 6 1 0 (out_32.W.Cells.length)) (.osl 7 1 0 (out_32.W.Path.length)))),some (.box (Vl p_1)),some (.arr 1 (List.map eU8 ([]:List Int))),some (.arr 1 (List.map Ae ([]:List Int))),some (.arr 1 (out_32.W.Cells.map eU8)),some (.arr 1 (out_32.W.Path.map Ae))]⟩
def Ji6:St:=⟨(4,.ptr 0 0)::(9,.ptr 1 0)::[],[some (.box [.osl 2 1 0 (List.length ([]:List Int)),.osl 3 1 0 (List.length ([]:List Int)),.d (.int .i64 0),.d (.int .i64 0)]),some (.box (I1 out_33 (.osl 4 1 0 (out_33.W.Cells.length)) (.osl 5 1 0 (out_33.W.Path.length)))),some (.arr 1 (List.map eU8 ([]:List Int))),some (.arr 1 (List.map Ae ([]:List Int))),some (.arr 1 (out_33.W.Cells.map eU8)),some (.arr 1 (out_33.W.Path.map Ae))]⟩
def Ji7:St:=⟨(2,.ptr 0 0)::(4,.ptr 1 0)::(7,.d (.sl (r165.map (eL Ae))))::(8,.d (.sl (r167.map Ah)))::(9,.ptr 2 0)::(10,.ptr 3 0)::(11,.d (.int .i64 x204))::(12,.d (.int .i64 r_5))::[],[some (.box (Ay p0_)),some (.box [.osl 4 1 0 (List.length ([]:List Int)),.osl 5 1 0 (List.length ([]:List Int)),.d (.int .i64 0),.d (.int .i64 0)]),some (.box (I1 out_32 (.osl 6 1 0 (out_32.W.Cells.length)) (.osl 7 1 0 (out_32.W.Path.length)))),some (.box (Vl p_1)),some (.arr 1 (List.map eU8 ([]:List Int))),some (.arr 1 (List.map Ae ([]:List Int))),some (.arr 1 (out_32.W.Cells.map eU8)),some (.arr 1 (out_32.W.Path.map Ae))]⟩
def Ji8:St:=⟨(2,.ptr 0 0)::(4,.ptr 1 0)::(7,.d (.sl (r165.map (eL Ae))))::(8,.d (.sl (r167.map Ah)))::(9,.ptr 2 0)::(10,.ptr 3 0)::(12,.d (.int .i64 r_6))::[],[some (.box (Ay p0_)),some (.box [.osl 4 1 0 (List.length ([]:List Int)),.osl 5 1 0 (List.length ([]:List Int)),.d (.int .i64 0),.d (.int .i64 0)]),some (.box (I1 out_32 (.osl 6 1 0 (out_32.W.Cells.length)) (.osl 7 1 0 (out_32.W.Path.length)))),some (.box (Vl p_1)),some (.arr 1 (List.map eU8 ([]:List Int))),some (.arr 1 (List.map Ae ([]:List Int))),some (.arr 1 (out_32.W.Cells.map eU8)),some (.arr 1 (out_32.W.Path.map Ae))]⟩
def Tf:Int->Ex->St->Prop:=xX 0 2 (λ (y:Int)=>Ji8 p0_ r165 r167 out_32 p_1 y)
def MJ:Int->St:=(λ (x:Int)=>Ji7 p0_ r165 r167 out_32 p_1 x204 x)
def Tg:Ch->Ex->St->Prop:=xX 0 0 (λ (y:Ch)=>Ji6 y)
def MK:(Ch×EM)->St:=(λ (x:(Ch×EM))=>Ji5 p0_ r165 r167 x.1 x.2)
variable {p0_ p1_ r165 r167 out_32 p_1 out_33 x204 r_5 r_6}
theorem Rm (x:Int) (z:(Int⊕Int)) (H:Ey n p0_ r165 r167 out_32 p_1 x204 x=some z):WP (cxk 118 0) (Ax Try.f14) [1,1,1,1,1,1,1,0,0,0,1,0,1,0,0,0] (Av 0 (MJ p0_ r165 r167 out_32 p_1 x204) (Tf p0_ r165 r167 out_32 p_1) z) (MJ p0_ r165 r167 out_32 p_1 x204 x):=by
 revert H
 generalize x=r_5
 intro H
 refine sq (sr (ck 4 (bx H λ r171 h563 H=>ca false (Pa h563) (ck 2 (en (cn H (λ H=>?_) (λ H=>?_)))))))
 ·exact sk (qz (bk 3 (rz (ck 3 (ae (qN (by cases H;exact og (sg [2,4,7,8,9,10,11,12]))))))))
 ·exact ex 2 (qx (by cases H;exact xo rfl (sg [2,4,7,8,9,10,12])))
theorem Rn (x:(Ch×EM)) (z:((Ch×EM)⊕Ch)) (H:HJ n p0_ r165 r167 x.1 x.2=some z):WP (cxk 118 0) (Ax Try.f14) [1,1,1,1,1,1,1,0,0,0] (Av 0 (MK p0_ r165 r167) (Tg) z) (MK p0_ r165 r167 x):=by
 obtain ⟨out_32,p_1⟩:=x
 refine sq (sr (ck 3 (bx H λ x201 h557 H=>sp (Ao (eL Ae) h557) (ck 4 (bx H λ r169 h558 H=>ca false (Ez h558) (bx H λ x202 h559 H=>sp (Ao Ae h559) (ck 2 (en (cn H (λ H=>?_) (λ H=>?_))))))))))
 ·exact sk (qz (bk 1 (sr (ck 3 (bx H λ x203 h560 H=>sp (Ao (eL Ae) h560) (ck 4 (bx H λ r170 h561 H=>ca false (Ez h561) (bx H λ x204 h562 H=>sp (Ao Ae h562) (ck 3 (en (sq (bk 2 (bx H λ y125 h564 H=>lX Rm h564 (sg [2,4,7,8,9,10,11,12]) rfl λ s hE103=>qH (qs (hE103) (sr (ck 5 (bx H λ l68 h565 H=>sp (B5 Ae 7 1 h565) (ck 3 (en (sr (ck 6 (bx H λ x205 h566 H=>sp (Ao An h566) (ck 2 (bx H λ l69 h567 H=>sp (Jbu eU8 6 1 h567) (ck 3 (en (sr (ck 4 (bx H λ r172 h568 H=>ca false (Ja h568) (ck 5 (en (rz (ck 5 (bx H λ x206 h569 H=>sp (Ao An h569) (ck 6 (ae (qN (by cases H;exact og (sg [2,4,7,8,9,10])))))))))))))))))))))))))))))))))))))))
 ·exact ex 0 (qx (by cases H;exact xo rfl (sg [4,9])))
theorem Vz {z} (H:M4 n p0_ p1_=some z):AM Try.prog 14 [.agg (Ay p0_),.d (.str p1_)] (.agg [.own 1 (z.W.Cells.map eU8),.own 1 (z.W.Path.map Ae),.d (.int .i64 z.At),.d (.int .i64 z.E)]):=by
 refine fO 118 (Ji4 p0_ p1_) Try.func14 (sr (ck 2 (en (sr (ck 1 (bx H λ r164 h550 H=>ca false (QX h550) (ck 5 (en (sq (sr (ck 2 (en (cn H (λ H=>?_) (λ H=>?_))))))))))))))
 ·exact sr (ck 4 (en (re (qr (by cases H;exact pr (rO (v:=.agg [.d (.nil),.d (.nil),.d (.int .i64 r164.1),.d (.int .i64 r164.2)]) [] (a1 (c1 vz (c1 vz (c1 vd (c1 vd (c0))))))))))))
 ·refine sk (qz (sr (ck 2 (bx H λ r165 h551 H=>ca false (LL h551) (ck 1 (en (sq (sr (ck 1 (bx H λ x199 h552 H=>sp (Ao (eL Ae) h552) (ck 1 (bx H λ x200 h553 H=>sp (Ao Ae h553) (ck 2 (en (cn H (λ H=>?_) (λ H=>?_))))))))))))))))
  ·exact sr (ck 2 (bx H λ r166 h554 H=>ca false (Te h554) (ck 2 (en (re (qr (by cases H;exact pr (rO (v:=.agg [.d (.nil),.d (.nil),.d (.int .i64 r166),.d (.int .i64 61)]) [] (a1 (c1 vz (c1 vz (c1 vd (c1 vd (c0))))))))))))))
  ·exact sk (qz (sr (ck 1 (bx H λ r167 h555 H=>ca false (JF h555) (ck 6 (en (sr (ck 1 (bx H λ r168 h556 H=>ca false (O9 h556) (ck 4 (en (sq (bk 0 (bx H λ y126 h570 H=>lX Rn h570 (tr (tr (tr (tr (Bt 1 0 1 (by kernel_rfl)) (Bt 1 1 1 (by kernel_rfl))) (Bt 2 0 1 (by kernel_rfl))) (Bt 2 1 1 (by kernel_rfl))) (sg [2,4,7,8,9,10])) rfl λ s hE104=>qH (qs (hE104) (sr (ck 2 (en (re (by cases H;exact pr (rO (v:=.agg [.osl 4 1 0 (z.W.Cells.length),.osl 5 1 0 (z.W.Path.length),.d (.int .i64 z.At),.d (.int .i64 z.E)]) [4,5] (a1 (c1 vo (c1 vo (c1 vd (c1 vd (c0)))))))))))))))))))))))))))
end
section
variable (p0_:Ng) (p1_:(List Int))
def JkB:St:=⟨(0,.agg [.d (.int .u8 p0_.Base),.d (.int .u8 p0_.Drop),.d (.sl (p0_.More.map FP))])::(1,.d (.sl (p1_.map eU8)))::[],[]⟩
variable {p0_ p1_}
theorem ML {z} (H:D5 n p0_ p1_=some z):AM Try.prog 4 [.agg (Yb p0_),.d (.sl (p1_.map eU8))] (.d (.bool z)):=by
 refine fO 59 (JkB p0_ p1_) Try.func4 (sr (ck 2 (en (sr (bx H λ r173 h571 H=>ca false (TJ h571) (ck 1 (en (sr (ck 1 (bx H λ r174 h572 H=>ca false (W6 h572) (ck 2 (en (sr (ck 2 (bx H λ r175 h573 H=>ca false (S8 h573) (ck 1 (en (sr (ck 3 (bx H λ r176 h574 H=>ca false (W7 h574) (bx H λ r177 h575 H=>ca false (JE h575) (ck 6 (en (sr (ck 2 (bx H λ r178 h576 H=>ca false (Vz h576) (ck 2 (en (sq (sr (ck 3 (en (cn H (λ H=>?_) (λ H=>?_))))))))))))))))))))))))))))))))))
 ·exact sr (ck 3 (gc 1 r173 (pA (ck 2 (gc 1 (r173&&(r177.2==61)) (sE (g:=(r173&&(r177.2==61))) (λ hg=>AE Ae r177.1.Path) (gc 1 (r173&&(r177.2==61)) (pA (ck 2 (gc 1 ((r173&&(r177.2==61))&&(((r177.1.Path.length:Nat):Int)==0)) (sE (g:=((r173&&(r177.2==61))&&(((r177.1.Path.length:Nat):Int)==0))) (λ hg=>AE eU8 r177.1.Cells) (gc 1 ((r173&&(r177.2==61))&&(((r177.1.Path.length:Nat):Int)==0)) (pA (ck 1 (en (re (qr (by cases H;exact pr rd))))))))))))))))))
 ·exact sk (qz (sr (ck 3 (gc 1 r173 (pA (ck 3 (gc 1 (r173&&(r177.2==0)) (bx H λ r179 h577 H=>cG false (leZ) rfl (λ hg=>QW (Bq h577 hg)) (Or.inl rfl) (B1 (λ hh=>hh) (B1 (λ hh=>hh) (D6))) rfl (pA (ck 1 (en (re (by cases H;exact pr rd)))))))))))))
end
end Go.AI
end
section
namespace Go.AI
def CRd (F:Nat->Option Obj) (l:List D) (cs:List Value):Prop:=l.length=cs.length/\∀ (i:Nat) (y:D) (v:Value),l[i]? = some y->cs[i]? = some v->Bz F y v
def Kd {α:Type} (P:Program) (t:TypeId) (enc:α->List D) (ok:α->Prop):Prop:=
 ∀ (H:Type) (e:TypeId×Value->H) (w:World) (base:Nat) (spare:Nat->Bool) (held:Bool) (fuel:Nat) (cs:List Value) (x:DataW H×List MemPlace),DataW.trod e P w base spare held fuel t cs=some x->∃ a:α,ok a/\CRd (λ b=>w.heap[b]?) (enc a) cs
theorem VA {F:Nat->Option Obj} {y:D} {v:Value} (h:Bz F y v):CRd F [y] [v]:=by
 refine ⟨rfl,λ i a b ha hb=>?_⟩
 cases i with
 | zero=>simp at ha hb;subst ha;subst hb;exact h
 | succ i=>simp at ha
theorem Z4 {P:Program} {t:TypeId} {k:IntKind} (ht:P.underlying t=some (.int k)):Kd P t (λ n=>[.int k n]) (λ n=>(Lit.int k n).wf=true):=by
 intro H e w base spare held fuel cs x h
 obtain ⟨n,rfl,_,hw⟩:=DataW.trod_int ht h
 exact ⟨n,hw,VA (.int k n)⟩
theorem W8 {α:Type} {Q:Nat->α->Prop}:∀ n,(∀ i,i<n->∃ a,Q i a)->∃ l:List α,l.length=n/\∀ i a,l[i]? = some a->Q i a:=by
 intro n
 induction n with
 | zero=>intro _;exact ⟨[],rfl,λ i a h=>by simp at h⟩
 | succ n ih=>
  intro h
  obtain ⟨l,hl,hq⟩:=ih λ i hi=>h i (by omega)
  obtain ⟨a,ha⟩:=h n (by omega)
  refine ⟨l++[a],by simp [hl],λ i b hb=>?_⟩
  rcases Nat.lt_or_ge i l.length with hlt|hge
  ·rw [Jlo hlt] at hb;exact hq i b hb
  ·rw [Jlz hge] at hb
   have:i-l.length=0:=by have:=Ag hb;simp at this;omega
   rw [this] at hb
   simp at hb
   subst hb
   have:i=n:=by omega
   subst this
   exact ha
theorem W9 {α β:Type} {f:α->Option β}:∀ {l:List α} {r:List β},l.mapM f=some r->r.length=l.length/\∀ (i:Nat) (a:α),l[i]? = some a->r[i]? = f a:=by
 intro l
 induction l with
 | nil=>intro r h;simp at h;subst h;exact ⟨rfl,λ i a h=>by simp at h⟩
 | cons a l ih=>
  intro r h
  rw [List.mapM_cons] at h
  simp only [Option.bind_eq_bind,Option.bind_eq_some_iff,Option.pure_def,Jlr] at h
  obtain ⟨b,hb,r',hr',rfl⟩:=h
  obtain ⟨h1,h2⟩:=ih hr'
  refine ⟨by simp [h1],λ i x hx=>?_⟩
  cases i with
  | zero=>simp at hx;subst hx;simp [hb]
  | succ i=>simpa using h2 i x (by simpa using hx)
theorem QY {α:Type} {P:Program} {t e:TypeId} {enc:α->List D} {ok:α->Prop} {sz:Nat} (ht:P.underlying t=some (.slice e)) (hsz:P.cellsOf e=sz) (h1:Nat.ble 1 sz=true) (hl:∀ a,(enc a).length=sz) (he:Kd P e enc ok):Kd P t (eL enc) (λ l=>∀ a∈l,ok a):=by
 intro H en w base spare held fuel cs x h
 have h1:=Jlw h1
 rcases DataW.trod_slice ht h with ⟨rfl,_⟩|⟨a,len,cap,elems,rest,n,_,rfl,_,_,hcap,_,hel,hget,_,_⟩
 ·exact ⟨[],λ a h=>by simp at h,VA (.sl0 _ _)⟩
 ·rw [hsz] at hget
  have hex:∀ i,i<len->∃ y:α,ok y/\∃ ci,w.cells? base (a.add (i*sz)) sz=some ci/\CRd (λ b=>w.heap[b]?) (enc y) ci:=λ i hi=>by
   have hg:=hget i hi
   rw [Jlg (show i<elems.length by omega)] at hg
   simp only [Option.bind_eq_some_iff] at hg
   obtain ⟨ci,hc,htr⟩:=hg
   obtain ⟨y,hy,hcr⟩:=he H en w base spare held n ci _ htr
   exact ⟨y,hy,ci,hc,hcr⟩
  obtain ⟨l,hll,hq⟩:=W8 len hex
  refine ⟨l,λ y hy=>?_,VA ?_⟩
  ·obtain ⟨i,hi⟩:=List.mem_iff_getElem?.1 hy
   exact (hq i y hi).1
  ·rcases Nat.eq_zero_or_pos len with h0|hpos
   ·have:l=[]:=List.length_eq_zero_iff.1 (by omega)
    subst this;subst h0
    exact .sl0 _ _
   ·
    have hcell:∀ i y,l[i]? = some y->∀ j,j<sz->∃ v,w.cell? ((a.add (i*sz)).add j)=some v/\∀ d,(enc y)[j]? = some d->Bz (λ b=>w.heap[b]?) d v:=λ i y hy j hj=>by
     obtain ⟨_,ci,hc,hcr⟩:=hq i y hy
     unfold World.cells? at hc
     split at hc
     ·obtain ⟨g1,g2⟩:=W9 hc
      have:=g2 j j (by simp [hj])
      have hjc:j<ci.length:=by rw [g1];simpa using hj
      rw [Jlg hjc] at this
      exact ⟨ci[j],this.symm,λ d hd=>hcr.2 j d _ hd (Jlg hjc)⟩
     ·cases hc
    have h0:l[0]? = some l[0]:=Jlg (by omega)
    obtain ⟨v0,hv0,_⟩:=hcell 0 _ h0 0 (by omega)
    have ha0:(a.add (0*sz)).add 0=a:=by simp [Addr.add]
    rw [ha0] at hv0
    obtain ⟨b,off,spot⟩:=a
    unfold World.cell? at hv0
    simp only at hv0
    split at hv0
    ·rename_i c ty fr hblk
     cases spot with
     | some s=>simp at hv0
     | none=>
      have hcell':∀ i y,l[i]? = some y->∀ j d,(enc y)[j]? = some d->∃ v,c[off+i*sz+j]? = some v/\Bz (λ b=>w.heap[b]?) d v:=λ i y hy j d hd=>by
       have hj:j<sz:=by rw [← hl y];exact Ag hd
       obtain ⟨v,hv,hr⟩:=hcell i y hy j hj
       rw [Cq,Cq,L8 hblk] at hv
       exact ⟨v,hv,hr d hd⟩
      have hlen:(l.map enc).length=len:=by simp [hll]
      have:=Bz.sl (F:=λ b=>w.heap[b]?) (l.map enc) b off cap sz c ty fr (λ i j=>(c[off+i*sz+j]?).getD undef) hblk (λ e he=>by
        simp only [List.mem_map] at he
        obtain ⟨y,_,rfl⟩:=he
        exact hl y) (by omega) (λ i e hi j d hd=>by
        simp only [Jlk,Jlj] at hi
        obtain ⟨y,hy,rfl⟩:=hi
        obtain ⟨v,hv,_⟩:=hcell' i y hy j d hd
        simp only [hv,Option.getD_some]) (λ i e hi j d hd=>by
        simp only [Jlk,Jlj] at hi
        obtain ⟨y,hy,rfl⟩:=hi
        obtain ⟨v,hv,hr⟩:=hcell' i y hy j d hd
        simp only [hv,Option.getD_some]
        exact hr)
      rw [hlen] at this
      exact this
    ·cases hv0
theorem Fb {F:Nat->Option Obj} {l m:List D} {cs:List Value} {o n:Nat} (h:CRd F l ((cs.drop o).take n)) (hn:Nat.beq l.length n=true) (h':CRd F m (cs.drop (o+n))):CRd F (l++m) (cs.drop o):=by
 have hn:=Jln hn
 have e:cs.drop o=(cs.drop o).take n++cs.drop (o+n):=by rw [← List.drop_drop,List.take_append_drop]
 rw [e]
 refine ⟨by simp only [List.length_append,h.1,h'.1],λ i y v hy hv=>?_⟩
 rcases Nat.lt_or_ge i l.length with hlt|hge
 ·rw [Jlo hlt] at hy
  rw [Jlo (by rw [← h.1];exact hlt)] at hv
  exact h.2 i y v hy hv
 ·rw [Jlz hge] at hy
  rw [Jlz (by rw [← h.1];exact hge),← h.1] at hv
  exact h'.2 _ y v hy hv
theorem VB {F:Nat->Option Obj} {cs:List Value} {o:Nat} (h:cs.length<=o):CRd F [] (cs.drop o):=by
 rw [List.drop_eq_nil_of_le h];exact ⟨rfl,λ i y v hy=>by simp at hy⟩
theorem Yc {H:Type} {enc:TypeId×Value->H} {P:Program} {w:World} {base:Nat} {spare:Nat->Bool} {held:Bool} {fuel:Nat} {t e:TypeId} {n:Nat} {cs:List Value} {x:DataW H×List MemPlace} (ht:P.underlying t=some (.array n e)) (h:DataW.trod enc P w base spare held fuel t cs=some x) :
  ∃ m,cs.length=P.cellsOf t/\∀ i,i<n->∃ y,DataW.trod enc P w base spare held m e ((cs.drop (i*P.cellsOf e)).take (P.cellsOf e))=some y:=by
 cases fuel with
 | zero=>simp [DataW.trod] at h
 | succ m=>
  unfold DataW.trod at h
  rw [ht] at h
  split at h<;>simp_all
  obtain ⟨xs,hp,_⟩:=h.2
  refine ⟨m,λ i hi=>?_⟩
  obtain ⟨g1,g2⟩:=W9 hp
  have:=g2 i i (by simp [hi])
  have hlt:i<xs.length:=by rw [g1];simpa using hi
  rw [Jlg hlt] at this
  exact ⟨_,_,this.symm⟩
end Go.AI
end
section
namespace Go.AI
open Go.ChangeShapes Go.WideShapes Go.ChangeAt Go.RowKit
variable {P:Program} {H:Type} {en:TypeId×Value->H} {W W':World} {base:Nat} {spare:Nat->Bool} {held:Bool} {t e:TypeId} {v:Value} {d:DataW H} {ps:List MemPlace} {α:Type} {enc:α->List D} {ok:α->Prop}
theorem Je8 {cs:Array Value} (hv:v=.agg cs) (hd:DataW.Trod en P W base spare held t v d ps) (hr:Kd P t enc ok):∃ a,ok a/\Ai (λ b=>W.heap[b]?) noR (.agg ((enc a).map .d)) v:=by
 subst hv
 obtain ⟨fuel,hf⟩:=hd
 obtain ⟨a,h1,h2,h3⟩:=hr H en W base spare held fuel _ _ hf
 refine ⟨a,h1,.agg _ _ (by simpa [Value.cells] using h2) λ i x u hx hu=>?_⟩
 simp only [Jlk,Jlj] at hx
 obtain ⟨y,hy,rfl⟩:=hx
 exact .d _ _ (h3 i y u hy (by simpa [Value.cells] using hu))
theorem Je9 {y:α->D} (hc:v.cells=#[v]) (hd:DataW.Trod en P W base spare held t v d ps) (hr:Kd P t enc ok) (he:∀ a,enc a=[y a]):∃ a,ok a/\Ai (λ b=>W.heap[b]?) noR (.d (y a)) v:=by
 obtain ⟨fuel,hf⟩:=hd
 obtain ⟨a,h1,h2,h3⟩:=hr H en W base spare held fuel _ _ hf
 refine ⟨a,h1,.d _ _ (h3 0 (y a) v (by rw [he];rfl) (by rw [hc];rfl))⟩
theorem Ji9 {F:Nat->Option Obj} {ρ:Nat->Option Loc}:CR F ρ [] []:=⟨rfl,λ i a v h=>by simp at h⟩
theorem YU {F:Nat->Option Obj} {ρ:Nat->Option Loc} {a:AV} {v:Value} {l:List AV} {vs:List Value} (h:Ai F ρ a v) (h':CR F ρ l vs):CR F ρ (a::l) (v::vs):=by
 refine ⟨by simp [h'.1],λ i x u hx hu=>?_⟩
 cases i with
 | zero=>simp at hx hu;subst hx;subst hu;exact h
 | succ i=>exact h'.2 i x u (by simpa using hx) (by simpa using hu)
theorem fld {w:World} {fuel:Nat} {cs:List Value} {fs:Array Field} {xs:List (DataW H×List MemPlace)} (hg:∀ (i:Nat) (f:Field),fs[i]? = some f->DataW.trod en P w base spare held fuel f.type ((cs.drop f.offset).take (P.cellsOf f.type))=xs[i]?) (hxl:xs.length=fs.size) (i:Nat) {f:Field} (hf:fs[i]? = some f) (u o n:Nat) (hu:f.type=u) (ho:f.offset=o) (hn:P.cellsOf u=n) (hr:Kd P u enc ok) :
  ∃ a,ok a/\CRd (λ b=>w.heap[b]?) (enc a) ((cs.drop o).take n):=by
 have:=hg i f hf
 have hi:i<xs.length:=by rw [hxl];exact Aq hf
 rw [Jlg hi,hu,ho,hn] at this
 exact hr H en w base spare held fuel _ _ this
theorem JkC {w:World} {fuel:Nat} {cs:List Value} {m:Nat} (hg:∀ i,i<m->∃ y,DataW.trod en P w base spare held fuel e ((cs.drop (i*P.cellsOf e)).take (P.cellsOf e))=some y) (i:Nat) (hi:Nat.ble (i+1) m=true) (o n:Nat) (hn:P.cellsOf e=n) (ho:i*n=o) (hr:Kd P e enc ok) :
  ∃ a,ok a/\CRd (λ b=>w.heap[b]?) (enc a) ((cs.drop o).take n):=by
 obtain ⟨y,hy⟩:=hg i (Jlw hi)
 rw [hn,ho] at hy
 exact hr H en w base spare held fuel _ _ hy
theorem Jdg {f:FuncId} {args:List AV} {vs:Array Value} (hc:AM P f args (.d (.bool true))) (hcr:CR (λ b=>W.heap[b]?) noR args vs.toList):Calls P f vs W λ e W'=>e=.returned (.bool true)/\(∀ before:List MemPlace,W.keptBut W' (·∈before))/\∀ b,b<W.heap.size->W'.heap[b]? = W.heap[b]? := by
 refine (hc.2 (λ b=>W.heap[b]?) W vs hcr λ b o h=>h).mono λ e W' h=>?_
 obtain ⟨v,F',ρ,rfl,hS,hr,hmu⟩:=h
 have hv:v=.bool true:=by
  have:(B2 true 0 (.d (.bool true))).1=.d (.bool true):=rfl
  rw [this] at hr
  exact hr.bool
 subst hv
 have hold:∀ b,b<W.heap.size->W'.heap[b]? = W.heap[b]? := λ b hb=>hS.old b (by omega)
 refine ⟨rfl,λ before=>World.keptBut_mono (λ p hp=>hp.elim) (?_:W.keptBut W' λ _=>False),hold⟩
 refine ⟨hmu.1,hmu.2.1,λ i hi=>?_⟩
 rw [hold i hi]
 cases hh:W.heap[i]? with
 | none=>rfl
 | some o=>cases o<;>first|exact ⟨rfl,rfl,rfl,λ _ _=>rfl⟩|exact .inr ⟨rfl,rfl⟩|rfl
theorem Z5 {f:Func} {s:ChangeSpec} {apart fresh handsOn again:Bool} {args:Array Value} {ds gs:List (DataW H)} {before pa pv:List MemPlace}
  (hW:DataW.Whole en P f.params.toList s.vars apart W args.toList ds gs before)
  (hres:∀ (b:Nat) (sp:Nat->Bool) (hd:Bool),DataW.TrodAll en P W' b sp hd f.resultTypes.toList (v.resultList f.resultTypes.size) (s.fn H (ds++gs)).results [])
  (hargs:∀ sp:Nat->Bool,(∀ p∈before,sp p.block=true)->DataW.TrodAll en P W' 0 sp true f.params.toList args.toList (s.fn H (ds++gs)).args pa)
  (hvars:∀ sp:Nat->Bool,(∀ p∈before,sp p.block=true)->DataW.TrodVars en P W' sp s.vars (s.fn H (ds++gs)).vars pv)
  (hps:before=pa++pv) (hk:W.keptBut W' (·∈before)) (hold:∀ b,b<W.heap.size->W'.heap[b]? = W.heap[b]?)
  (hok:∀ (j:Nat) (t:TypeId) (r:Value),f.resultTypes[j]? = some t->(v.resultList f.resultTypes.size)[j]? = some r->Value.okWide P W' .any 0 t r) :
  s.post en P f apart fresh handsOn again W args v W':=by
 have hin:∀ p∈before,(λ b=>decide (b<W.heap.size)) p.block=true:=λ p hp=>by simpa using hW.lt p hp
 have hlt:=hW.lt
 refine ⟨ds,gs,before,[],pa,pv,hW,hres _ _ _,hargs _ hin,hvars _ hin,World.keptBut_mono (λ p hp=>⟨hp,?_⟩) hk,λ _=>?_⟩
 ·rw [hps,List.mem_append] at hp
  exact Or.inr hp
 ·obtain ⟨_,_,_,_,_,hz,hn⟩:=hW
  refine ⟨hok,_,_,([]++pa)++pv,⟨[]++pa,pv,trodAll_append (hargs _ (λ _ _=>rfl)) (hres _ _ _),hvars _ (λ _ _=>rfl),rfl,?_,?_⟩,?_⟩
  ·intro b off hp
   have hp:MemPlace.cell b off∈before:=by rw [hps];simpa using hp
   have:=hz b off hp
   simp only [World.frozen?,hold b (hlt _ hp)] at this ⊢
   exact this
  ·intro ha
   have:=hn ha
   rw [hps] at this
   simpa using this
  ·intro p hp _
   rw [hps]
   simpa using hp
theorem JfS (hl:laidOutB P=true) (hr:P.readableRec t=true) (hrow:t<P.types.size) (h:DataW.Trod en P W 0 (λ _=>true) true t v d ps) (hb:∀ p∈ps,p.block<W.heap.size) {sp:Nat->Bool} (hs:∀ p∈ps,sp p.block=true) (hold:∀ b,b<W.heap.size->W'.heap[b]? = W.heap[b]?):DataW.Trod en P W' 0 sp true t v d ps:=by
 refine WideElems.Trod_stays hl hr hrow h (λ p hp=>?_) hs
 have:=hb p hp
 cases p with
 | cell b o=>exact World.cell?_of_block (w:=W) (hold b this)
 | map b=>exact hold b this
end Go.AI
end
section
namespace Go.AI
open Go.Proofs Go.ChangeShapes Go.WideShapes Go.ChangeAt Go.RowKit
def okI (k:IntKind) (n:Int):Prop:=(Lit.int k n).wf=true
theorem rd5:Kd Try.prog 5 eU8 (okI .u8):=Z4 Try.underlying5
theorem Jja:Kd Try.prog 25 (eL eU8) (λ l=>∀ a∈l,okI .u8 a):=QY (sz:=1) Try.underlying25 (by kernel_rfl) rfl (λ _=>rfl) rd5
theorem Jlb:Kd Try.prog 69 (Jkj eU8) (λ x=>okI .u8 x.a0/\okI .u8 x.a1):=by
 intro H e w base spare held fuel cs x h
 obtain ⟨m,hcl,hg⟩:=Yc Try.underlying69 h
 have hcl:cs.length=2:=hcl.trans (by kernel_rfl)
 obtain ⟨a0,k0,c0⟩:=JkC hg 0 rfl 0 1 (by kernel_rfl) rfl rd5
 obtain ⟨a1,k1,c1⟩:=JkC hg 1 rfl 1 1 (by kernel_rfl) rfl rd5
 refine ⟨⟨a0,a1⟩,⟨k0,k1⟩,?_⟩
 have:=Fb c0 rfl (Fb c1 rfl (VB (Nat.le_of_eq hcl)))
 exact this
def K3 (x:Dj):Prop:=(∀ a∈x.P,okI .u8 a)/\(∀ a∈x.C,okI .u8 a)/\okI .u8 x.L/\okI .u8 x.R/\(okI .u8 x.W.a0/\okI .u8 x.W.a1)
theorem Jlc:Kd Try.prog 71 FP K3:=by
 intro H e w base spare held fuel cs x h
 obtain ⟨xs,n,_,_,hcl,hxl,hg⟩:=DataW.trod_struct Try.underlying71 h
 have hcl:cs.length=6:=hcl.trans (by kernel_rfl)
 obtain ⟨a0,k0,c0⟩:=fld hg hxl 0 rfl 25 0 1 rfl rfl (by kernel_rfl) Jja
 obtain ⟨a1,k1,c1⟩:=fld hg hxl 1 rfl 25 1 1 rfl rfl (by kernel_rfl) Jja
 obtain ⟨a2,k2,c2⟩:=fld hg hxl 2 rfl 5 2 1 rfl rfl (by kernel_rfl) rd5
 obtain ⟨a3,k3,c3⟩:=fld hg hxl 3 rfl 5 3 1 rfl rfl (by kernel_rfl) rd5
 obtain ⟨a4,k4,c4⟩:=fld hg hxl 4 rfl 69 4 2 rfl rfl (by kernel_rfl) Jlb
 refine ⟨⟨a0,a1,a2,a3,a4⟩,⟨k0,k1,k2,k3,k4⟩,?_⟩
 have:=Fb c0 rfl (Fb c1 rfl (Fb c2 rfl (Fb c3 rfl (Fb c4 rfl (VB (Nat.le_of_eq hcl))))))
 exact this
theorem Jld:Kd Try.prog 22 (eL FP) (λ l=>∀ a∈l,K3 a):=QY (sz:=6) Try.underlying22 (by kernel_rfl) rfl (λ _=>rfl) Jlc
def Yd (x:Ng):Prop:=okI .u8 x.Base/\okI .u8 x.Drop/\(∀ a∈x.More,K3 a)
theorem Jle:Kd Try.prog 24 Jkk Yd:=by
 intro H e w base spare held fuel cs x h
 obtain ⟨xs,n,_,_,hcl,hxl,hg⟩:=DataW.trod_struct Try.underlying24 h
 have hcl:cs.length=3:=hcl.trans (by kernel_rfl)
 obtain ⟨a0,k0,c0⟩:=fld hg hxl 0 rfl 5 0 1 rfl rfl (by kernel_rfl) rd5
 obtain ⟨a1,k1,c1⟩:=fld hg hxl 1 rfl 5 1 1 rfl rfl (by kernel_rfl) rd5
 obtain ⟨a2,k2,c2⟩:=fld hg hxl 2 rfl 22 2 1 rfl rfl (by kernel_rfl) Jld
 refine ⟨⟨a0,a1,a2⟩,⟨k0,k1,k2⟩,?_⟩
 have:=Fb c0 rfl (Fb c1 rfl (Fb c2 rfl (VB (Nat.le_of_eq hcl))))
 exact this
end Go.AI
end
section
namespace Go.AI
def Le {α:Type} (a b:Option α):Prop:=∀ z,a=some z->b=some z
theorem Le.refl {α:Type} (a:Option α):Le a a:=λ _ h=>h
theorem Le.bind {α β:Type} {a a':Option α} {f f':α->Option β} (h:Le a a') (hf:∀ x,Le (f x) (f' x)):Le (a.bind f) (a'.bind f'):=by
 intro z hz
 obtain ⟨x,h1,h2⟩:=bind_some hz
 rw [h x h1]
 exact hf x z h2
theorem Le.ite {α:Type} {c:Prop} [Decidable c] {a a' b b':Option α} (h:Le a a') (h':Le b b'):Le (if c then a else b) (if c then a' else b'):=by
 split
 ·exact h
 ·exact h'
theorem Le.whl {σ ρ:Type} {body body':σ->Option (σ⊕ρ)} (hb:∀ x,Le (body x) (body' x)):∀ {n m:Nat},n<=m->∀ x,Le (whl body n x) (whl body' m x):=by
 intro n
 induction n with
 | zero=>intro m _ x z hz;cases hz
 | succ n ih=>
  intro m hm x z hz
  cases m with
  | zero=>omega
  | succ m=>
   simp only [Go.AI.whl] at hz ⊢
   cases hx:body x with
   | none=>rw [hx] at hz;cases hz
   | some y=>
    rw [hb x y hx]
    rw [hx] at hz
    cases y with
    | inl y=>exact ih (by omega) y z hz
    | inr r=>exact hz
def Ev {α:Type} (f:Nat->Option α) (z:α):Prop:=∃ n,∀ m,n<=m->f m=some z
theorem Ev.const {α:Type} {z:α}:Ev (λ _=>some z) z:=⟨0,λ _ _=>rfl⟩
theorem Ev.of {α:Type} {f:Nat->Option α} {z:α} (hm:∀ n m,n<=m->Le (f n) (f m)) {n:Nat} (h:f n=some z):Ev f z:=⟨n,λ m hnm=>hm n m hnm z h⟩
theorem Ev.all {α:Type} {f:Nat->Option α} {z:α} (h:∀ n,f n=some z):Ev f z:=⟨0,λ m _=>h m⟩
theorem Ev.bind {α β:Type} {f:Nat->Option α} {g:Nat->α->Option β} {x:α} {z:β} (h:Ev f x) (hg:Ev (λ n=>g n x) z):Ev (λ n=>(f n).bind (g n)) z:=by
 obtain ⟨n,hn⟩:=h
 obtain ⟨m,hm⟩:=hg
 refine ⟨max n m,λ k hk=>?_⟩
 show (f k).bind (g k)=_
 rw [hn k (by omega)]
 exact hm k (by omega)
theorem Ev.out {α:Type} {f:Nat->Option α} {z:α} (h:Ev f z):∃ n,f n=some z:=by
 obtain ⟨n,hn⟩:=h
 exact ⟨n,hn n (Nat.le_refl n)⟩
theorem Ev.congr {α:Type} {f g:Nat->Option α} {z:α} (h:Ev f z) (e:∀ n,g n=f n):Ev g z:=by
 obtain ⟨n,hn⟩:=h
 exact ⟨n,λ m hm=>by rw [e m];exact hn m hm⟩
theorem Ev.whl {σ ρ:Type} {body:Nat->σ->Option (σ⊕ρ)} {r:ρ} (I:Nat->σ->Prop) (h:∀ k x,I k x->(∃ y j,j<k/\I j y/\Ev (λ n=>body n x) (.inl y))\/Ev (λ n=>body n x) (.inr r)):∀ (k:Nat) (x:σ),I k x->Ev (λ n=>Go.AI.whl (body n) n x) r:=by
 have key:∀ (k:Nat) (x:σ),I k x->∃ N c,∀ n fuel,N<=n->c<=fuel->Go.AI.whl (body n) fuel x=some r:=by
  intro k
  induction k using Nat.strongRecOn with
  | _ k ih=>
   intro x hx
   rcases h k x hx with ⟨y,j,hj,hy,N1,h1⟩|⟨N1,h1⟩
   ·obtain ⟨N2,c,h2⟩:=ih j hj y hy
    refine ⟨max N1 N2,c+1,λ n fuel hn hf=>?_⟩
    cases fuel with
    | zero=>omega
    | succ fuel=>
     have e:=h1 n (by omega)
     simp only at e
     simp only [Go.AI.whl,e]
     exact h2 n fuel (by omega) (by omega)
   ·refine ⟨N1,1,λ n fuel hn hf=>?_⟩
    cases fuel with
    | zero=>omega
    | succ fuel=>
     have e:=h1 n hn
     simp only at e
     simp only [Go.AI.whl,e]
 intro k x hx
 obtain ⟨N,c,hh⟩:=key k x hx
 exact ⟨max N c,λ m hm=>hh m m (by omega) (by omega)⟩
end Go.AI
end
