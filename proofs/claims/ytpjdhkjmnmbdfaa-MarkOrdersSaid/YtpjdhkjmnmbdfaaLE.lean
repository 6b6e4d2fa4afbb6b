/- Part 5 of 6 of the proof: lemmas about the model and the program's functions, with no condition beyond those that each states. -/
import Derived.Test.YtpjdhkjmnmbdfaaLD
import Derived.ChangeArms
import Derived.WalkKit
import Derived.ProofKit
import Derived.OpenShut
import Derived.Carry
import Derived.WideKeyArgs
import Derived.ChangeSame
section
namespace Go.AI
open Go.Proofs
set_option maxRecDepth 10000
variable {n:Nat}
section
variable (p0_:Int) (p1_:Bool) (b1_0_:Int) (b2_0_:Int) (b3_:Ad) (x_22:Ad) (x_23:Bool) (x41:(List FJ)) (x_24:Ad) (better_1:Bool) (x_25:Int) (x_26:Ad) (better_2:Bool) (x_27:Ad) (better_3:Bool)
def JbC:St:=⟨(0,.d (.int .i64 p0_))::(1,.d (.bool p1_))::(2,.ptr 0 0)::(3,.ptr 1 0)::(4,.ptr 2 0)::[],[some (.box [.ptr 3 0]),some (.box [.eptr 4 2 (0+Int.toNat b1_0_) 0]),some (.box [.d (.int .i64 b2_0_)]),some (.box (An b3_ (.osl 4 2 0 (b3_.Columns.length)))),some (.narr 2 (b3_.Columns.map Ac))]⟩
def JbD:St:=⟨(7,.d (.bool x_23))::[],[some (.box [.ptr 3 0]),some (.box [.eptr 4 2 (0+Int.toNat b1_0_) 0]),some (.box [.d (.int .i64 b2_0_)]),some (.box (An x_22 (.osl 4 2 0 (x_22.Columns.length)))),some (.narr 2 (x_22.Columns.map Ac))]⟩
def JbE:St:=⟨(0,.d (.int .i64 p0_))::(1,.d (.bool p1_))::(2,.ptr 0 0)::(3,.ptr 1 0)::(4,.ptr 2 0)::(8,.d (.bool better_1))::(27,.d (.sl (x41.map BE)))::(28,.d (.int .i64 ((x41.length:Nat):Int)))::(29,.d (.int .i64 x_25))::[],[some (.box [.ptr 3 0]),some (.box [.eptr 4 2 (0+Int.toNat b1_0_) 0]),some (.box [.d (.int .i64 b2_0_)]),some (.box (An x_24 (.osl 4 2 0 (x_24.Columns.length)))),some (.narr 2 (x_24.Columns.map Ac))]⟩
def JbF:St:=⟨(8,.d (.bool better_2))::[],[some (.box [.ptr 3 0]),some (.box [.eptr 4 2 (0+Int.toNat b1_0_) 0]),some (.box [.d (.int .i64 b2_0_)]),some (.box (An x_26 (.osl 4 2 0 (x_26.Columns.length)))),some (.narr 2 (x_26.Columns.map Ac))]⟩
def JbG:St:=⟨(0,.d (.int .i64 p0_))::(1,.d (.bool p1_))::(2,.ptr 0 0)::(3,.ptr 1 0)::(4,.ptr 2 0)::(8,.d (.bool better_3))::(27,.d (.sl (x41.map BE)))::(28,.d (.int .i64 ((x41.length:Nat):Int)))::(29,.d (.int .i64 x_25))::[],[some (.box [.ptr 3 0]),some (.box [.eptr 4 2 (0+Int.toNat b1_0_) 0]),some (.box [.d (.int .i64 b2_0_)]),some (.box (An x_27 (.osl 4 2 0 (x_27.Columns.length)))),some (.narr 2 (x_27.Columns.map Ac))]⟩
def I9:(Ad×Bool)->Ex->St->Prop:=xX 5 0 (λ (y:(Ad×Bool))=>JbF b1_0_ b2_0_ y.1 y.2)
def FB:(Ad×Bool×Int)->St:=(λ (x:(Ad×Bool×Int))=>JbE p0_ p1_ b1_0_ b2_0_ x41 x.1 x.2.1 x.2.2)
variable {p0_ p1_ b1_0_ b2_0_ b3_ x_22 x_23 x41 x_24 better_1 x_25 x_26 better_2 x_27 better_3}
theorem II (x:(Ad×Bool×Int)) (z:((Ad×Bool×Int)⊕(Ad×Bool))) (H:Bb n p0_ p1_ b1_0_ b2_0_ x41 x.1 x.2.1 x.2.2=some z):WP (cxk 104 5) (Az Try.f63) [1,1,0,1,0,0] (AA 5 (FB p0_ p1_ b1_0_ b2_0_ x41) (I9 b1_0_ b2_0_) z) (FB p0_ p1_ b1_0_ b2_0_ x41 x):=by
 obtain ⟨x_24,better_1,x_25⟩:=x
 refine sr (ck 1 (en (sq (cn H (λ H=>?_) (λ H=>?_)))))
 ·refine sk (qz (sj (λ (x:(Ad×Bool))=>JbG p0_ p1_ b1_0_ b2_0_ x41 x_25 x.1 x.2) (λ (x:(Ad×Bool))=>Ba n x_25 x.1 x.2) z ?_ (λ hFTr_writer_price_1_J1=>?_)))
  ·rintro ⟨x_27,better_3⟩ H
   exact rz (ck 2 (ae (by cases H;exact og (gP [0,1,2,3,4,8,27,28,29] [0,1,2,3,4] (po1 (po1 (po1 (po1 (pn1 Ac x_27.Columns (Pl.z))))))))))
  refine bk 1 (sr (bx H λ x42 h127 H=>sp (Ar BE h127) (ck 3 (en (sr (ck 4 (bx H λ r38 h128 H=>ltP [3,4] (DZ h128) (po1 (pn1 Ac x_24.Columns (Pl.z))) (tb (f:=D9 (CW [3,4] 6 2)) [some (.box [.ptr 3 0]),some (.box [.eptr 4 2 (0+Int.toNat b1_0_) 0]),some (.box [.d (.int .i64 b2_0_)]),some (.box (An x_24 (.osl 4 2 0 (x_24.Columns.length)))),some (.narr 2 (x_24.Columns.map Ac)),some (.box [.d (.int .i64 x42.Rule),.d (.int .i64 x42.To)])] (po1 (po1 (po1 (po1 (pn1 Ac x_24.Columns (po1 (Pl.z))))))) (ck 5 (en (sq (sr (ck 5 (gc 1 (!(!r38.2)) (ck 1 (gc 1 (!(!r38.2)) (pO (en (cn H (λ H=>?_) (λ H=>?_))))))))))))))))))))
  ·exact ex 1 (qx (qH (qs (gP [0,1,2,3,4,8,27,28,29] [0,1,2,3,4] (po1 (po1 (po1 (po1 (pn1 Ac x_24.Columns (Pl.z))))))) (hFTr_writer_price_1_J1 (x_24,better_1) H))))
  ·refine sk (qz (sr (ck 5 (bx H λ x43 h129 H=>sp (Ax 4 2 h129) (ck 2 (bx H λ r39 h130 H=>cb (ks:=[4]) (obl:=[(0+Int.toNat r38.1+1,List.length (x_24.Columns.map Ac)),(MS (x_24.Columns.map Ac),0)]) false (leK (Jfn (encN:=Ac) h129) (leK (JdH λ _=>rfl) (leZ))) (EI (JaQ (encN:=Ac) (encD:=K1) h129 λ _=>rfl) (EI rfl rfl)) (Fd h130) (Or.inr trivial) rfl (ck 1 (en (sr (ck 8 (bx H λ x44 h131 H=>sp (Ar Al h131) (ck 2 (sp (AL eU8 x44.Cells) (ck 2 (en (sq (bx H λ x45 h132 H=>rg (tr (so1 (encN:=Ac) 4 2 h132) (sno (encN:=Ac) (enc:=Af) h132 [.own 1 (x45.States.map Af),.own 1 (x45.Costs.map Af)] x45.Costs 2 4 1 1)) (ck 4 (gc 2 (decide (r39>=0)) (sE (g:=decide (r39>=0)) (λ hg=>Ca (encN:=Ac) (row:=[.own 1 (x45.States.map Af),.osl 6 1 0 (x45.Costs.length)]) (k:=4) (sz:=2) (off:=1) (t:=ty 40) (v:=.osl 6 1 0 (x45.Costs.length)) h132) (ck 1 (bx H λ x46 h133 H=>sE (λ hg=>Ax 6 1 (Bu h133 hg)) (sE (g:=decide (r39>=0)) (λ hg=>B9 Af 6 0 (ty 3) (Bu h133 hg)) (gc 2 (decide (r39>=0)) (ck 2 (gc 2 ((decide (r39>=0))&&!(decide (x46<0))) (sE (g:=((decide (r39>=0))&&!(decide (x46<0)))) (λ hg=>Ca (encN:=Ac) (row:=[.own 1 (x45.States.map Af),.osl 6 1 0 (x45.Costs.length)]) (k:=4) (sz:=2) (off:=1) (t:=ty 40) (v:=.osl 6 1 0 (x45.Costs.length)) h132) (ck 1 (bx H λ x47 h134 H=>sE (λ hg=>Ax 6 1 (Bu h134 hg)) (sE (g:=((decide (r39>=0))&&!(decide (x46<0)))) (λ hg=>B9 Af 6 0 (ty 3) (Bu h134 hg)) (gc 1 ((decide (r39>=0))&&!(decide (x46<0))) (pG (g:=decide (r39>=0)) (v:=.d (.bool ((decide (x46<0))||(decide (Ay .i64 r39 ((x44.Cells.length:Nat):Int)<x47))))) (λ hg=>IY (c:=.gv (decide (r39>=0)) (.d (.bool (decide (x46<0))))) (a:=.d (.bool true)) (b:=.gv ((decide (r39>=0))&&!(decide (x46<0))) (.d (.bool (decide (Ay .i64 r39 ((x44.Cells.length:Nat):Int)<x47))))) rfl rfl rfl ((λ hh=>hh) hg) trivial (λ ht=>by rw [(λ hh=>hh) hg,ht];rfl)) (pA (en (cn H (λ H=>?_) (λ H=>?_))))))))))))))))))))))))))))))))))))
   ·exact sq (bx H λ x48 h135 H=>rg (tr (tr (tr (tr (tr (sni (encN:=Ac) (xs:=x_24.Columns) (n:=b1_0_) (enc:=Af) [.own 1 (x45.States.map Af),.osl 6 1 0 (x45.Costs.length)] x45.Costs 2 4 1 6 1) (scl (encN:=Ac) (xss:=x_24.Columns) b1_0_ [.own 1 (x45.States.map Af),.own 1 (x45.Costs.map Af)] 2 4 x45)) (sn 53 4 2 (lsS x_24.Columns b1_0_.toNat x45))) (snc 3 6 4 2 (lsS x_24.Columns b1_0_.toNat x45))) (so1 (encN:=Ac) 4 2 h135)) (sno (encN:=Ac) (enc:=Af) h135 [.own 1 (x48.States.map Af),.own 1 (x48.Costs.map Af)] x48.Costs 2 4 1 1)) (ck 3 (sp (Ca (encN:=Ac) (row:=[.own 1 (x48.States.map Af),.osl 7 1 0 (x48.Costs.length)]) (k:=4) (sz:=2) (off:=1) (t:=ty 40) (v:=.osl 7 1 0 (x48.Costs.length)) h135) (ck 2 (bx H λ x49 h136 H=>sp (Ax 7 1 h136) (bx H λ l15 h137 H=>stA Af 7 0 (ty 3) h136 h137 (en (rg (tr (tr (tr (tr (tr (sn 98 7 1 (Bp h137)) (snr (encN:=Ac) (xs:=List.set x_24.Columns b1_0_.toNat x45) (n:=b1_0_) [.own 1 (x48.States.map Af),.osl 7 1 0 (x48.Costs.length)] 2 4 1 7 1 (Bp h137))) (sni (encN:=Ac) (xs:=List.set x_24.Columns b1_0_.toNat x45) (n:=b1_0_) (enc:=Af) [.own 1 (x48.States.map Af),.osl 7 1 0 (l15.length)] l15 2 4 1 7 1)) (scl (encN:=Ac) (xss:=List.set x_24.Columns b1_0_.toNat x45) b1_0_ [.own 1 (x48.States.map Af),.own 1 (l15.map Af)] 2 4 ({ States:=x48.States,Costs:=l15 }:AB))) (sn 53 4 2 (lsS (List.set x_24.Columns b1_0_.toNat x45) b1_0_.toNat ({ States:=x48.States,Costs:=l15 }:AB)))) (snc 3 6 4 2 (lsS (List.set x_24.Columns b1_0_.toNat x45) b1_0_.toNat ({ States:=x48.States,Costs:=l15 }:AB)))) (ck 1 (ae (qN (qs (gP [0,1,2,3,4,8,27,28,29] [0,1,2,3,4] (po1 (po1 (po1 (po1 (pn1 Ac (List.set (List.set x_24.Columns b1_0_.toNat x45) b1_0_.toNat ({ States:=x48.States,Costs:=l15 }:AB)) (Pl.z))))))) (hFTr_writer_price_1_J1 (({ T:=x_24.T,S:=x_24.S,States:=x_24.States,Arcs:=x_24.Arcs,Columns:=List.set (List.set x_24.Columns b1_0_.toNat x45) b1_0_.toNat ({ States:=x48.States,Costs:=l15 }:AB),Last:=x_24.Last }:Ad),true) H)))))))))))))
   ·exact sk (qN (qs (tr (tr (tr (tr (sni (encN:=Ac) (xs:=x_24.Columns) (n:=b1_0_) (enc:=Af) [.own 1 (x45.States.map Af),.osl 6 1 0 (x45.Costs.length)] x45.Costs 2 4 1 6 1) (scl (encN:=Ac) (xss:=x_24.Columns) b1_0_ [.own 1 (x45.States.map Af),.own 1 (x45.Costs.map Af)] 2 4 x45)) (sn 53 4 2 (lsS x_24.Columns b1_0_.toNat x45))) (snc 3 6 4 2 (lsS x_24.Columns b1_0_.toNat x45))) (gP [0,1,2,3,4,8,27,28,29] [0,1,2,3,4] (po1 (po1 (po1 (po1 (pn1 Ac (List.set x_24.Columns b1_0_.toNat x45) (Pl.z)))))))) (hFTr_writer_price_1_J1 (({ T:=x_24.T,S:=x_24.S,States:=x_24.States,Arcs:=x_24.Arcs,Columns:=List.set x_24.Columns b1_0_.toNat x45,Last:=x_24.Last }:Ad),better_1) H)))
 ·exact ex 0 (qx (by cases H;exact xo rfl (gP [8] [0,1,2,3,4] (po1 (po1 (po1 (po1 (pn1 Ac x_24.Columns (Pl.z)))))))))
theorem Ga {z} (H:BW n p0_ p1_ b1_0_ b2_0_ b3_=some z):Cu Try.prog 63 [.d (.int .i64 p0_),.d (.bool p1_),.ptr 0 0,.ptr 1 0,.ptr 2 0] [some (.box [.ptr 3 0]),some (.box [.eptr 4 2 (0+Int.toNat b1_0_) 0]),some (.box [.d (.int .i64 b2_0_)]),some (.box (An b3_ (.osl 4 2 0 (b3_.Columns.length)))),some (.narr 2 (b3_.Columns.map Ac))] 5 (.d (.bool z.2)) [some (.box [.ptr 3 0]),some (.box [.eptr 4 2 (0+Int.toNat b1_0_) 0]),some (.box [.d (.int .i64 b2_0_)]),some (.box (An z.1 (.osl 4 2 0 (z.1.Columns.length)))),some (.narr 2 (z.1.Columns.map Ac))]:=by
 exact fL 104 5 (JbC p0_ p1_ b1_0_ b2_0_ b3_) Try.func63 (sr (ck 1 (en (sr (ck 1 (en (sq (sq (bx H λ x39 h124 H=>rg (tr (so1 (encN:=Ac) 4 2 h124) (sno (encN:=Ac) (enc:=Af) h124 [.own 1 (x39.States.map Af),.own 1 (x39.Costs.map Af)] x39.States 2 4 0 1)) (ck 7 (sp (Ca (encN:=Ac) (row:=[.osl 5 1 0 (x39.States.length),.own 1 (x39.Costs.map Af)]) (k:=4) (sz:=2) (off:=0) (t:=ty 40) (v:=.osl 5 1 0 (x39.States.length)) h124) (ck 1 (bx H λ x40 h125 H=>sp (Ax 5 1 h125) (sp (B9 Af 5 0 (ty 3) h125) (bx H λ x41 h126 H=>sp (Ar (eL BE) h126) (ck 1 (sp (AL BE x41) (ck 1 (en (bk 0 (bx H λ y34 h138 H=>lX II h138 (tr (tr (tr (sni (encN:=Ac) (xs:=b3_.Columns) (n:=b1_0_) (enc:=Af) [.osl 5 1 0 (x39.States.length),.own 1 (x39.Costs.map Af)] x39.States 2 4 0 5 1) (scl (encN:=Ac) (xss:=b3_.Columns) b1_0_ [.own 1 (x39.States.map Af),.own 1 (x39.Costs.map Af)] 2 4 x39)) (snc 3 6 4 2 (lsS b3_.Columns b1_0_.toNat x39))) (gP [0,1,2,3,4,8,27,28,29] [0,1,2,3,4] (po1 (po1 (po1 (po1 (pn1 Ac (List.set b3_.Columns b1_0_.toNat x39) (Pl.z)))))))) rfl λ s hE27=>qH (qs (hE27) (sr (ck 2 (en (re (by cases H;exact pL (rl (s':=JbD b1_0_ b2_0_ y34.1 y34.2) (gP [7] [0,1,2,3,4] (po1 (po1 (po1 (po1 (pn1 Ac y34.1.Columns (Pl.z)))))))))))))))))))))))))))))))))))
end
section
variable (b0_:Ad) (x_28:Ad) (w_13:Ad) (place_3:Int) (x_29:Ad) (x51:AB) (l16:(List Int)) (x52:AB) (r_1:(List Int)) (x_30:Int) (w_14:Ad) (r_2:(List Int)) (x58:AB) (w_15:Ad) (x_31:Int) (w_16:Ad) (w_17:Ad) (w_18:Ad) (x59:AB) (w_19:Ad) (better_4:Bool) (x_32:Int) (w_20:Ad) (better_5:Bool)
def JbH:St:=⟨(0,.ptr 0 0)::[],[some (.box (An b0_ (.osl 1 2 0 (b0_.Columns.length)))),some (.narr 2 (b0_.Columns.map Ac))]⟩
def JbI:St:=⟨[],[some (.box (An x_28 (.osl 1 2 0 (x_28.Columns.length)))),some (.narr 2 (x_28.Columns.map Ac))]⟩
def JbJ:St:=⟨(1,.ptr 2 0)::(2,.ptr 3 0)::[],[some (.box (An w_13 (.osl 1 2 0 (w_13.Columns.length)))),some (.narr 2 (w_13.Columns.map Ac)),some (.box [.ptr 0 0]),some (.box [.d (.int .i64 place_3)])]⟩
def JbK:St:=⟨[],[some (.box (An x_29 (.osl 1 2 0 (x_29.Columns.length)))),some (.narr 2 (x_29.Columns.map Ac))]⟩
def JbL:St:=⟨(1,.ptr 2 0)::(2,.ptr 3 0)::(3,.ptr 4 0)::(37,.osl 5 1 0 (x52.States.length))::(38,.d (.int .i64 ((x52.States.length:Nat):Int)))::(39,.d (.int .i64 x_30))::[],[some (.box (An w_13 (.osl 1 2 0 (List.length (List.set w_13.Columns place_3.toNat ({ States:=x51.States,Costs:=l16 }:AB)))))),some (.narr 2 (List.set (List.map Ac (List.set w_13.Columns place_3.toNat ({ States:=x51.States,Costs:=l16 }:AB))) place_3.toNat [.osl 5 1 0 (x52.States.length),.own 1 (r_1.map Af)])),some (.box [.ptr 0 0]),some (.box [.d (.int .i64 place_3)]),some (.box [.eptr 1 2 (0+Int.toNat place_3) 0]),some (.arr 1 (x52.States.map Af))]⟩
def JbM:St:=⟨(1,.ptr 2 0)::(2,.ptr 3 0)::(3,.ptr 4 0)::[],[some (.box (An w_14 (.osl 1 2 0 (w_14.Columns.length)))),some (.narr 2 (w_14.Columns.map Ac)),some (.box [.ptr 0 0]),some (.box [.d (.int .i64 place_3)]),some (.box [.eptr 1 2 (0+Int.toNat place_3) 0])]⟩
def JbN:St:=⟨(1,.ptr 2 0)::(2,.ptr 3 0)::(3,.ptr 4 0)::(37,.osl 5 1 0 (x52.States.length))::(38,.d (.int .i64 ((x52.States.length:Nat):Int)))::(39,.d (.int .i64 x_30))::[],[some (.box (An w_13 (.osl 1 2 0 (List.length (List.set w_13.Columns place_3.toNat ({ States:=x51.States,Costs:=l16 }:AB)))))),some (.narr 2 (List.set (List.map Ac (List.set w_13.Columns place_3.toNat ({ States:=x51.States,Costs:=l16 }:AB))) place_3.toNat [.osl 5 1 0 (x52.States.length),.own 1 (r_2.map Af)])),some (.box [.ptr 0 0]),some (.box [.d (.int .i64 place_3)]),some (.box [.eptr 1 2 (0+Int.toNat place_3) 0]),some (.arr 1 (x52.States.map Af))]⟩
def KD:Ad->Ex->St->Prop:=xX 2 2 (λ (y:Ad)=>JbM place_3 y)
def Gb:((List Int)×Int)->St:=(λ (x:((List Int)×Int))=>JbL w_13 place_3 x51 l16 x52 x.1 x.2)
def JbO:St:=⟨(1,.ptr 2 0)::(2,.ptr 3 0)::(3,.ptr 4 0)::(6,.clo 63 [.ptr 2 0,.ptr 4 0,.ptr 3 0])::(83,.d (.int .i64 ((x58.States.length:Nat):Int)))::(84,.d (.int .i64 x_31))::[],[some (.box (An w_15 (.osl 1 2 0 (w_15.Columns.length)))),some (.narr 2 (w_15.Columns.map Ac)),some (.box [.ptr 0 0]),some (.box [.d (.int .i64 place_3)]),some (.box [.eptr 1 2 (0+Int.toNat place_3) 0])]⟩
def JbP:St:=⟨(1,.ptr 2 0)::(2,.ptr 3 0)::(3,.ptr 4 0)::(6,.clo 63 [.ptr 2 0,.ptr 4 0,.ptr 3 0])::[],[some (.box (An w_16 (.osl 1 2 0 (w_16.Columns.length)))),some (.narr 2 (w_16.Columns.map Ac)),some (.box [.ptr 0 0]),some (.box [.d (.int .i64 place_3)]),some (.box [.eptr 1 2 (0+Int.toNat place_3) 0])]⟩
def KE:Ad->Ex->St->Prop:=xX 2 4 (λ (y:Ad)=>JbP place_3 y)
def Gc:(Ad×Int)->St:=(λ (x:(Ad×Int))=>JbO place_3 x58 x.1 x.2)
def Ze:St:=⟨(1,.ptr 2 0)::(2,.ptr 3 0)::(3,.ptr 4 0)::(6,.clo 63 [.ptr 2 0,.ptr 4 0,.ptr 3 0])::[],[some (.box (An w_17 (.osl 1 2 0 (w_17.Columns.length)))),some (.narr 2 (w_17.Columns.map Ac)),some (.box [.ptr 0 0]),some (.box [.d (.int .i64 place_3)]),some (.box [.eptr 1 2 (0+Int.toNat place_3) 0])]⟩
def Zf:St:=⟨(1,.ptr 2 0)::(2,.ptr 3 0)::[],[some (.box (An w_18 (.osl 1 2 0 (w_18.Columns.length)))),some (.narr 2 (w_18.Columns.map Ac)),some (.box [.ptr 0 0]),some (.box [.d (.int .i64 place_3)])]⟩
def Zg:St:=⟨(1,.ptr 2 0)::(2,.ptr 3 0)::(3,.ptr 4 0)::(6,.clo 63 [.ptr 2 0,.ptr 4 0,.ptr 3 0])::(8,.d (.bool better_4))::(95,.d (.int .i64 ((x59.States.length:Nat):Int)))::(96,.d (.int .i64 x_32))::[],[some (.box (An w_19 (.osl 1 2 0 (w_19.Columns.length)))),some (.narr 2 (w_19.Columns.map Ac)),some (.box [.ptr 0 0]),some (.box [.d (.int .i64 place_3)]),some (.box [.eptr 1 2 (0+Int.toNat place_3) 0])]⟩
def Zh:St:=⟨(1,.ptr 2 0)::(2,.ptr 3 0)::(3,.ptr 4 0)::(6,.clo 63 [.ptr 2 0,.ptr 4 0,.ptr 3 0])::(8,.d (.bool better_5))::[],[some (.box (An w_20 (.osl 1 2 0 (w_20.Columns.length)))),some (.narr 2 (w_20.Columns.map Ac)),some (.box [.ptr 0 0]),some (.box [.d (.int .i64 place_3)]),some (.box [.eptr 1 2 (0+Int.toNat place_3) 0])]⟩
def KF:(Ad×Bool)->Ex->St->Prop:=xX 2 8 (λ (y:(Ad×Bool))=>Zh place_3 y.1 y.2)
def Gd:(Ad×Bool×Int)->St:=(λ (x:(Ad×Bool×Int))=>Zg place_3 x59 x.1 x.2.1 x.2.2)
def KG:Ad->Ex->St->Prop:=xX 2 6 (λ (y:Ad)=>Zf place_3 y)
def Ge:Ad->St:=(λ (x:Ad)=>Ze place_3 x)
def KH:Ad->Ex->St->Prop:=xX 2 0 (λ (y:Ad)=>JbK y)
def Gf:(Ad×Int)->St:=(λ (x:(Ad×Int))=>JbJ x.1 x.2)
variable {b0_ x_28 w_13 place_3 x_29 x51 l16 x52 r_1 x_30 w_14 r_2 x58 w_15 x_31 w_16 w_17 w_18 x59 w_19 better_4 x_32 w_20 better_5}
theorem JS (x:((List Int)×Int)) (z:(((List Int)×Int)⊕Ad)) (H:Bm n w_13 place_3 x51 l16 x52 x.1 x.2=some z):WP (cxk 109 2) (Az Try.f38) [1,1,0,0,1,0,0,0,1,1,0,1,0,0] (AA 2 (Gb w_13 place_3 x51 l16 x52) (KD place_3) z) (Gb w_13 place_3 x51 l16 x52 x):=by
 obtain ⟨r_1,x_30⟩:=x
 refine sr (ck 1 (en (sq (cn H (λ H=>?_) (λ H=>?_)))))
 ·refine sk (qz (sj (λ (x:(List Int))=>JbN w_13 place_3 x51 l16 x52 x_30 x) (λ (x:(List Int))=>BL n x_30 x) z ?_ (λ hFTr_writer_price_J1=>?_)))
  ·intro r_2 H
   exact rz (ck 2 (ae (by cases H;exact og (gP [1,2,3,37,38,39] [0,1,2,3,4,5] (po1 (Pl.n _ (nrH (n:=Int.toNat place_3) (row:=[.osl 5 1 0 (x52.States.length),.own 1 (r_2.map Af)]) (row':=[.osl 5 1 0 (x52.States.length),.own 1 (r_2.map Af)]) (nrM (encN:=Ac) (xss:=List.set w_13.Columns place_3.toNat ({ States:=x51.States,Costs:=l16 }:AB)) λ _=>rfl) rfl) (po1 (po1 (po1 (po1 (Pl.z)))))))))))
  refine bk 3 (sr (ck 1 (bx H λ x53 h143 H=>sp (Ax 5 1 h143) (sp (B9 Af 5 0 (ty 3) h143) (ck 2 (en (sq (bx H λ x54 h144 H=>rg (sno (encN:=Ac) (enc:=Af) h144 [.osl 5 1 0 (x52.States.length),.own 1 (r_1.map Af)] r_1 2 1 1 1) (ck 3 (sp (Ca (encN:=Ac) (row:=[.osl 5 1 0 (x52.States.length),.osl 6 1 0 (r_1.length)]) (k:=1) (sz:=2) (off:=1) (t:=ty 40) (v:=.osl 6 1 0 (r_1.length)) h144) (ck 1 (bx H λ x55 h145 H=>sp (Ax 6 1 h145) (bx H λ l17 h146 H=>stA Af 6 0 (ty 3) h145 h146 (en (sq (rg (tr (tr (sn 47 6 1 (Bp h146)) (snr (encN:=Ac) (xs:=List.set w_13.Columns place_3.toNat ({ States:=x51.States,Costs:=l16 }:AB)) (n:=place_3) [.osl 5 1 0 (x52.States.length),.osl 6 1 0 (r_1.length)] 2 1 1 6 1 (Bp h146))) (sni (encN:=Ac) (xs:=List.set w_13.Columns place_3.toNat ({ States:=x51.States,Costs:=l16 }:AB)) (n:=place_3) (enc:=Af) [.osl 5 1 0 (x52.States.length),.osl 6 1 0 (l17.length)] l17 2 1 1 6 1)) (ck 9 (gc 3 (place_3==((w_13.S.length:Nat):Int)) (ck 1 (gc 3 (place_3==((w_13.S.length:Nat):Int)) (ck 1 (bx H λ x56 h147 H=>sE (λ hg=>Ar Ah (Bu h147 hg)) (gc 1 (place_3==((w_13.S.length:Nat):Int)) (bx H λ r40 h148 H=>cG false (leZ) rfl (λ hg=>Rm (Bu h148 hg)) (Or.inl rfl) (CM (λ hh=>hh) (CM (λ hh=>hh) (FZ))) rfl (pA (en (cn H (λ H=>?_) (λ H=>?_))))))))))))))))))))))))))))
  ·exact rg (sno (encN:=Ac) (enc:=Af) h144 [.osl 5 1 0 (x52.States.length),.own 1 (l17.map Af)] l17 2 1 1 1) (ck 3 (sp (Ca (encN:=Ac) (row:=[.osl 5 1 0 (x52.States.length),.osl 7 1 0 (l17.length)]) (k:=1) (sz:=2) (off:=1) (t:=ty 40) (v:=.osl 7 1 0 (l17.length)) h144) (ck 1 (bx H λ x57 h149 H=>sp (Ax 7 1 h149) (bx H λ l18 h150 H=>stA Af 7 0 (ty 3) h149 h150 (ae (qN (qs (tr (tr (tr (sn 74 7 1 (Bp h150)) (snr (encN:=Ac) (xs:=List.set w_13.Columns place_3.toNat ({ States:=x51.States,Costs:=l16 }:AB)) (n:=place_3) [.osl 5 1 0 (x52.States.length),.osl 7 1 0 (l17.length)] 2 1 1 7 1 (Bp h150))) (sni (encN:=Ac) (xs:=List.set w_13.Columns place_3.toNat ({ States:=x51.States,Costs:=l16 }:AB)) (n:=place_3) (enc:=Af) [.osl 5 1 0 (x52.States.length),.osl 7 1 0 (l18.length)] l18 2 1 1 7 1)) (gP [1,2,3,37,38,39] [0,1,2,3,4,5] (po1 (Pl.n _ (nrH (n:=Int.toNat place_3) (row:=[.osl 5 1 0 (x52.States.length),.own 1 (l18.map Af)]) (row':=[.osl 5 1 0 (x52.States.length),.own 1 (l18.map Af)]) (nrM (encN:=Ac) (xss:=List.set w_13.Columns place_3.toNat ({ States:=x51.States,Costs:=l16 }:AB)) λ _=>rfl) rfl) (po1 (po1 (po1 (po1 (Pl.z))))))))) (hFTr_writer_price_J1 l18 H)))))))))
  ·exact sk (qN (qs (gP [1,2,3,37,38,39] [0,1,2,3,4,5] (po1 (Pl.n _ (nrH (n:=Int.toNat place_3) (row:=[.osl 5 1 0 (x52.States.length),.own 1 (l17.map Af)]) (row':=[.osl 5 1 0 (x52.States.length),.own 1 (l17.map Af)]) (nrM (encN:=Ac) (xss:=List.set w_13.Columns place_3.toNat ({ States:=x51.States,Costs:=l16 }:AB)) λ _=>rfl) rfl) (po1 (po1 (po1 (po1 (Pl.z)))))))) (hFTr_writer_price_J1 l17 H)))
 ·exact ex 2 (qx (by cases H;exact xo rfl (tr (tr (tr (sni (encN:=Ac) (xs:=List.set w_13.Columns place_3.toNat ({ States:=x51.States,Costs:=l16 }:AB)) (n:=place_3) (enc:=Af) [.osl 5 1 0 (x52.States.length),.own 1 (r_1.map Af)] x52.States 2 1 0 5 1) (scl (encN:=Ac) (xss:=List.set w_13.Columns place_3.toNat ({ States:=x51.States,Costs:=l16 }:AB)) place_3 [.own 1 (x52.States.map Af),.own 1 (r_1.map Af)] 2 1 ({ States:=x52.States,Costs:=r_1 }:AB))) (snc 0 6 1 2 (lsS (List.set w_13.Columns place_3.toNat ({ States:=x51.States,Costs:=l16 }:AB)) place_3.toNat ({ States:=x52.States,Costs:=r_1 }:AB)))) (gP [1,2,3] [0,1,2,3,4] (po1 (pn1 Ac (List.set (List.set w_13.Columns place_3.toNat ({ States:=x51.States,Costs:=l16 }:AB)) place_3.toNat ({ States:=x52.States,Costs:=r_1 }:AB)) (po1 (po1 (po1 (Pl.z))))))))))
theorem JT (x:(Ad×Int)) (z:((Ad×Int)⊕Ad)) (H:Bn n place_3 x58 x.1 x.2=some z):WP (cxk 109 2) (Az Try.f38) [1,1,0,0,1,0,0,0,1,1,1,1,0,1,0,0] (AA 2 (Gc place_3 x58) (KE place_3) z) (Gc place_3 x58 x):=by
 obtain ⟨w_15,x_31⟩:=x
 refine sr (ck 1 (en (sq (cn H (λ H=>?_) (λ H=>?_)))))
 ·exact sk (qz (sq (bk 5 (sr (ck 2 (en (rz (ck 2 (bx H λ r41 h153 H=>xcP (xok _ _) [2,4,3,0,1] (Ga h153) (po1 (po1 (po1 (po1 (pn1 Ac w_15.Columns (Pl.z)))))) (tb (f:=D9 (CW [2,4,3,0,1] 5 5)) [some (.box (An r41.1 (.osl 1 2 0 (r41.1.Columns.length)))),some (.narr 2 (r41.1.Columns.map Ac)),some (.box [.ptr 0 0]),some (.box [.d (.int .i64 place_3)]),some (.box [.eptr 1 2 (0+Int.toNat place_3) 0])] (po1 (pn1 Ac r41.1.Columns (po1 (po1 (po1 (Pl.z)))))) (ae (qN (qz (rz (ck 2 (ae (by cases H;exact og (gP [1,2,3,6,83,84] [0,1,2,3,4] (po1 (pn1 Ac r41.1.Columns (po1 (po1 (po1 (Pl.z))))))))))))))))))))))))
 ·exact ex 4 (qx (by cases H;exact xo rfl (gP [1,2,3,6] [0,1,2,3,4] (po1 (pn1 Ac w_15.Columns (po1 (po1 (po1 (Pl.z)))))))))
theorem JU (x:(Ad×Bool×Int)) (z:((Ad×Bool×Int)⊕(Ad×Bool))) (H:Bo n place_3 x59 x.1 x.2.1 x.2.2=some z):WP (cxk 109 2) (Az Try.f38) [1,1,0,0,1,0,0,0,1,1,1,1,1,1,0,0,0,1,0,1,0,0] (AA 2 (Gd place_3 x59) (KF place_3) z) (Gd place_3 x59 x):=by
 obtain ⟨w_19,better_4,x_32⟩:=x
 refine sr (ck 1 (en (sq (cn H (λ H=>?_) (λ H=>?_)))))
 ·exact sk (qz (sq (bk 9 (sr (ck 2 (en (rz (ck 2 (bx H λ r42 h156 H=>xcP (xok _ _) [2,4,3,0,1] (Ga h156) (po1 (po1 (po1 (po1 (pn1 Ac w_19.Columns (Pl.z)))))) (tb (f:=D9 (CW [2,4,3,0,1] 5 5)) [some (.box (An r42.1 (.osl 1 2 0 (r42.1.Columns.length)))),some (.narr 2 (r42.1.Columns.map Ac)),some (.box [.ptr 0 0]),some (.box [.d (.int .i64 place_3)]),some (.box [.eptr 1 2 (0+Int.toNat place_3) 0])] (po1 (pn1 Ac r42.1.Columns (po1 (po1 (po1 (Pl.z)))))) (ck 2 (pO (ck 1 (ae (qN (qz (rz (ck 2 (ae (by cases H;exact og (gP [1,2,3,6,8,95,96] [0,1,2,3,4] (po1 (pn1 Ac r42.1.Columns (po1 (po1 (po1 (Pl.z)))))))))))))))))))))))))))
 ·exact ex 8 (qx (by cases H;exact xo rfl (gP [1,2,3,6,8] [0,1,2,3,4] (po1 (pn1 Ac w_19.Columns (po1 (po1 (po1 (Pl.z)))))))))
theorem JV (x:Ad) (z:(Ad⊕Ad)) (H:BM n place_3 x=some z):WP (cxk 109 2) (Az Try.f38) [1,1,0,0,1,0,0,0,1,1,1,1,1,1,0,0] (AA 2 (Ge place_3) (KG place_3) z) (Ge place_3 x):=by
 revert H
 generalize x=w_17
 intro H
 refine bk 7 (sr (ck 1 (en (sq (sq (bx H λ x59 h155 H=>rg (tr (so1 (encN:=Ac) 1 2 h155) (sno (encN:=Ac) (enc:=Af) h155 [.own 1 (x59.States.map Af),.own 1 (x59.Costs.map Af)] x59.States 2 1 0 1)) (ck 3 (sp (Ca (encN:=Ac) (row:=[.osl 5 1 0 (x59.States.length),.own 1 (x59.Costs.map Af)]) (k:=1) (sz:=2) (off:=0) (t:=ty 40) (v:=.osl 5 1 0 (x59.States.length)) h155) (ck 2 (en (bk 8 (bx H λ y37 h157 H=>lX JU h157 (tr (tr (tr (sni (encN:=Ac) (xs:=w_17.Columns) (n:=place_3) (enc:=Af) [.osl 5 1 0 (x59.States.length),.own 1 (x59.Costs.map Af)] x59.States 2 1 0 5 1) (scl (encN:=Ac) (xss:=w_17.Columns) place_3 [.own 1 (x59.States.map Af),.own 1 (x59.Costs.map Af)] 2 1 x59)) (snc 0 6 1 2 (lsS w_17.Columns place_3.toNat x59))) (gP [1,2,3,6,8,95,96] [0,1,2,3,4] (po1 (pn1 Ac (List.set w_17.Columns place_3.toNat x59) (po1 (po1 (po1 (Pl.z)))))))) rfl λ s hE30=>qH (qs (hE30) (sr (ck 2 (en (cn H (λ H=>?_) (λ H=>?_))))))))))))))))))
 ·exact ex 6 (qX rfl (by cases H;exact xo rfl (gP [1,2] [0,1,2,3] (po1 (pn1 Ac y37.1.Columns (po1 (po1 (Pl.z))))))))
 ·exact sk (qN (by cases H;exact og (gP [1,2,3,6] [0,1,2,3,4] (po1 (pn1 Ac y37.1.Columns (po1 (po1 (po1 (Pl.z)))))))))
theorem JW (x:(Ad×Int)) (z:((Ad×Int)⊕Ad)) (H:Ce n x.1 x.2=some z):WP (cxk 109 2) (Az Try.f38) [1,1,0,0] (AA 2 (Gf) (KH) z) (Gf x):=by
 obtain ⟨w_13,place_3⟩:=x
 refine sq (sr (ck 2 (en (cn H (λ H=>?_) (λ H=>?_)))))
 ·exact sk (qz (sq (bk 1 (sc (sr (ck 5 (bx H λ x50 h139 H=>sp (Ax 1 2 h139) (ck 2 (en (sq (bx H λ x51 h140 H=>rg (tr (so1 (encN:=Ac) 1 2 h140) (sno (encN:=Ac) (enc:=Af) h140 [.own 1 (x51.States.map Af),.own 1 (x51.Costs.map Af)] x51.States 2 1 0 1)) (ck 4 (sp (Ca (encN:=Ac) (row:=[.osl 5 1 0 (x51.States.length),.own 1 (x51.Costs.map Af)]) (k:=1) (sz:=2) (off:=0) (t:=ty 40) (v:=.osl 5 1 0 (x51.States.length)) h140) (ck 1 (bx H λ l16 h141 H=>sp (VR Af 1 h141) (ck 2 (sp (Mw (encN:=Ac) (row:=[.osl 5 1 0 (x51.States.length),.own 1 (x51.Costs.map Af)]) (row':=[.osl 5 1 0 (x51.States.length),.osl 6 1 0 (l16.length)]) (k:=1) (sz:=2) (off:=1) (t:=ty 40) (v:=.osl 6 1 0 (l16.length)) h140) (en (sq (sq (bx H λ x52 h142 H=>rg (tr (tr (tr (tr (tr (tr (sni (encN:=Ac) (xs:=w_13.Columns) (n:=place_3) (enc:=Af) [.osl 5 1 0 (x51.States.length),.osl 6 1 0 (l16.length)] x51.States 2 1 0 5 1) (sni (encN:=Ac) (xs:=w_13.Columns) (n:=place_3) (enc:=Af) [.own 1 (x51.States.map Af),.osl 6 1 0 (l16.length)] l16 2 1 1 6 1)) (scl (encN:=Ac) (xss:=w_13.Columns) place_3 [.own 1 (x51.States.map Af),.own 1 (l16.map Af)] 2 1 ({ States:=x51.States,Costs:=l16 }:AB))) (sn 22 1 2 (lsS w_13.Columns place_3.toNat ({ States:=x51.States,Costs:=l16 }:AB)))) (snc 0 6 1 2 (lsS w_13.Columns place_3.toNat ({ States:=x51.States,Costs:=l16 }:AB)))) (so1 (encN:=Ac) 1 2 h142)) (sno (encN:=Ac) (enc:=Af) h142 [.own 1 (x52.States.map Af),.own 1 (x52.Costs.map Af)] x52.States 2 1 0 1)) (ck 3 (sp (Ca (encN:=Ac) (row:=[.osl 7 1 0 (x52.States.length),.own 1 (x52.Costs.map Af)]) (k:=1) (sz:=2) (off:=0) (t:=ty 40) (v:=.osl 7 1 0 (x52.States.length)) h142) (ck 2 (en (bk 2 (bx H λ y35 h151 H=>lX JS h151 (gP [1,2,3,37,38,39] [0,1,2,3,4,7] (po1 (Pl.n _ (nrH (n:=Int.toNat place_3) (row:=[.osl 7 1 0 (x52.States.length),.own 1 (x52.Costs.map Af)]) (row':=[.osl 5 1 0 (x52.States.length),.own 1 (x52.Costs.map Af)]) (nrM (encN:=Ac) (xss:=List.set w_13.Columns place_3.toNat ({ States:=x51.States,Costs:=l16 }:AB)) λ _=>rfl) rfl) (po1 (po1 (po1 (po1 (Pl.z)))))))) rfl λ s hE28=>qH (qs (hE28) (sr (xm (xok _ _) (ck 1 (en (sq (sq (bx H λ x58 h152 H=>rg (tr (so1 (encN:=Ac) 1 2 h152) (sno (encN:=Ac) (enc:=Af) h152 [.own 1 (x58.States.map Af),.own 1 (x58.Costs.map Af)] x58.States 2 1 0 1)) (ck 3 (sp (Ca (encN:=Ac) (row:=[.osl 5 1 0 (x58.States.length),.own 1 (x58.Costs.map Af)]) (k:=1) (sz:=2) (off:=0) (t:=ty 40) (v:=.osl 5 1 0 (x58.States.length)) h152) (ck 2 (en (bk 4 (bx H λ y36 h154 H=>lX JT h154 (tr (tr (tr (sni (encN:=Ac) (xs:=y35.Columns) (n:=place_3) (enc:=Af) [.osl 5 1 0 (x58.States.length),.own 1 (x58.Costs.map Af)] x58.States 2 1 0 5 1) (scl (encN:=Ac) (xss:=y35.Columns) place_3 [.own 1 (x58.States.map Af),.own 1 (x58.Costs.map Af)] 2 1 x58)) (snc 0 6 1 2 (lsS y35.Columns place_3.toNat x58))) (gP [1,2,3,6,83,84] [0,1,2,3,4] (po1 (pn1 Ac (List.set y35.Columns place_3.toNat x58) (po1 (po1 (po1 (Pl.z)))))))) rfl λ s hE29=>qH (qs (hE29) (sq (lbl (qz (bk 6 (bx H λ y38 h158 H=>lX JV h158 (gP [1,2,3,6] [0,1,2,3,4] (po1 (pn1 Ac y36.Columns (po1 (po1 (po1 (Pl.z))))))) rfl λ s hE31=>qH (qN (qs (hE31) (sq (sr (ck 1 (en (rz (ck 2 (en (rz (ck 3 (ae (by cases H;exact og (gP [1,2] [0,1,2,4] (po1 (pn1 Ac y38.Columns (po1 (po1 (Pl.z))))))))))))))))))))))))))))))))))))))))))))))))))))))))))))))))))
 ·exact ex 0 (qx (by cases H;exact xo rfl (gP [] [0,1] (po1 (pn1 Ac w_13.Columns (Pl.z))))))
theorem LS {z} (H:CO n b0_=some z):Cu Try.prog 38 [.ptr 0 0] [some (.box (An b0_ (.osl 1 2 0 (b0_.Columns.length)))),some (.narr 2 (b0_.Columns.map Ac))] 2 (.tup []) [some (.box (An z (.osl 1 2 0 (z.Columns.length)))),some (.narr 2 (z.Columns.map Ac))]:=by
 exact fL 109 2 (JbH b0_) Try.func38 (sr (ck 1 (en (sr (ck 7 (en (bk 0 (bx H λ y39 h159 H=>lX JW h159 (gP [1,2] [0,1,2,3] (po1 (pn1 Ac b0_.Columns (po1 (po1 (Pl.z)))))) rfl λ s hE32=>qH (by cases H;exact pL' (rl (s':=JbI z) (tr (hE32) (gP [] [0,1] (po1 (pn1 Ac z.Columns (Pl.z)))))))))))))))
end
section
variable (b0_:Ad) (x_33:AS) (result_4:AS) (place_4:Int) (state_3:Int) (cost_3:Int) (result_5:AS) (x61:(List FJ)) (x_34:Int) (result_6:AS) (place_5:Int) (state_4:Int) (cost_4:Int)
def JbQ:St:=⟨(0,.ptr 0 0)::[],[some (.box (An b0_ (.osl 1 2 0 (b0_.Columns.length)))),some (.narr 2 (b0_.Columns.map Ac))]⟩
def JbR:St:=⟨(2,.ptr 2 0)::[],[some (.box (An b0_ (.osl 1 2 0 (b0_.Columns.length)))),some (.narr 2 (b0_.Columns.map Ac)),some (.box [.osl 3 1 0 (x_33.Cells.length),.osl 4 1 0 (x_33.Path.length)]),some (.arr 1 (x_33.Cells.map eU8)),some (.arr 1 (x_33.Path.map Af))]⟩
def JbS:St:=⟨(0,.ptr 0 0)::(2,.ptr 2 0)::(3,.ptr 3 0)::(4,.d (.int .i64 place_4))::(5,.d (.int .i64 state_3))::(6,.d (.int .i64 cost_3))::[],[some (.box (An b0_ (.osl 1 2 0 (b0_.Columns.length)))),some (.narr 2 (b0_.Columns.map Ac)),some (.box [.osl 4 1 0 (List.length ([]:List Int)),.osl 5 1 0 (List.length ([]:List Int))]),some (.box [.osl 6 1 0 (result_4.Cells.length),.osl 7 1 0 (result_4.Path.length)]),some (.arr 1 (List.map eU8 ([]:List Int))),some (.arr 1 (List.map Af ([]:List Int))),some (.arr 1 (result_4.Cells.map eU8)),some (.arr 1 (result_4.Path.map Af))]⟩
def JbT:St:=⟨(2,.ptr 2 0)::(3,.ptr 3 0)::[],[some (.box (An b0_ (.osl 1 2 0 (b0_.Columns.length)))),some (.narr 2 (b0_.Columns.map Ac)),some (.box [.osl 4 1 0 (List.length ([]:List Int)),.osl 5 1 0 (List.length ([]:List Int))]),some (.box [.osl 6 1 0 (result_5.Cells.length),.osl 7 1 0 (result_5.Path.length)]),some (.arr 1 (List.map eU8 ([]:List Int))),some (.arr 1 (List.map Af ([]:List Int))),some (.arr 1 (result_5.Cells.map eU8)),some (.arr 1 (result_5.Path.map Af))]⟩
def JbU:St:=⟨(0,.ptr 0 0)::(2,.ptr 2 0)::(3,.ptr 3 0)::(4,.d (.int .i64 place_4))::(6,.d (.int .i64 cost_3))::(27,.d (.sl (x61.map BE)))::(28,.d (.int .i64 ((x61.length:Nat):Int)))::(29,.d (.int .i64 x_34))::[],[some (.box (An b0_ (.osl 1 2 0 (b0_.Columns.length)))),some (.narr 2 (b0_.Columns.map Ac)),some (.box [.osl 4 1 0 (List.length ([]:List Int)),.osl 5 1 0 (List.length ([]:List Int))]),some (.box [.osl 6 1 0 (result_4.Cells.length),.osl 7 1 0 (result_4.Path.length)]),some (.arr 1 (List.map eU8 ([]:List Int))),some (.arr 1 (List.map Af ([]:List Int))),some (.arr 1 (result_4.Cells.map eU8)),some (.arr 1 (result_4.Path.map Af))]⟩
def JbV:St:=⟨(0,.ptr 0 0)::(2,.ptr 2 0)::(3,.ptr 3 0)::(4,.d (.int .i64 place_5))::(5,.d (.int .i64 state_4))::(6,.d (.int .i64 cost_4))::[],[some (.box (An b0_ (.osl 1 2 0 (b0_.Columns.length)))),some (.narr 2 (b0_.Columns.map Ac)),some (.box [.osl 4 1 0 (List.length ([]:List Int)),.osl 5 1 0 (List.length ([]:List Int))]),some (.box [.osl 6 1 0 (result_6.Cells.length),.osl 7 1 0 (result_6.Path.length)]),some (.arr 1 (List.map eU8 ([]:List Int))),some (.arr 1 (List.map Af ([]:List Int))),some (.arr 1 (result_6.Cells.map eU8)),some (.arr 1 (result_6.Path.map Af))]⟩
def JbW:St:=⟨(2,.ptr 2 0)::(3,.ptr 3 0)::[],[some (.box (An b0_ (.osl 1 2 0 (b0_.Columns.length)))),some (.narr 2 (b0_.Columns.map Ac)),some (.box [.osl 4 1 0 (List.length ([]:List Int)),.osl 5 1 0 (List.length ([]:List Int))]),some (.box [.osl 6 1 0 (result_4.Cells.length),.osl 7 1 0 (result_4.Path.length)]),some (.arr 1 (List.map eU8 ([]:List Int))),some (.arr 1 (List.map Af ([]:List Int))),some (.arr 1 (result_4.Cells.map eU8)),some (.arr 1 (result_4.Path.map Af))]⟩
def JbX:St:=⟨(0,.ptr 0 0)::(2,.ptr 2 0)::(3,.ptr 3 0)::(4,.d (.int .i64 place_4))::(6,.d (.int .i64 cost_3))::(27,.d (.sl (x61.map BE)))::(28,.d (.int .i64 ((x61.length:Nat):Int)))::(29,.d (.int .i64 x_34))::[],[some (.box (An b0_ (.osl 1 2 0 (b0_.Columns.length)))),some (.narr 2 (b0_.Columns.map Ac)),some (.box [.osl 4 1 0 (List.length ([]:List Int)),.osl 5 1 0 (List.length ([]:List Int))]),some (.box [.osl 6 1 0 (result_4.Cells.length),.osl 7 1 0 (result_4.Path.length)]),some (.arr 1 (List.map eU8 ([]:List Int))),some (.arr 1 (List.map Af ([]:List Int))),some (.arr 1 (result_4.Cells.map eU8)),some (.arr 1 (result_4.Path.map Af))]⟩
def IJ:((AS×Int×Int×Int)⊕Unit)->Ex->St->Prop:=xS (xX 2 1 (λ (y:(AS×Int×Int×Int))=>JbV b0_ y.1 y.2.1 y.2.2.1 y.2.2.2)) (xX 2 2 (λ (y:Unit)=>JbW b0_ result_4))
def EX:Int->St:=(λ (x:Int)=>JbU b0_ result_4 place_4 cost_3 x61 x)
def IK:AS->Ex->St->Prop:=xX 2 0 (λ (y:AS)=>JbT b0_ y)
def EY:(AS×Int×Int×Int)->St:=(λ (x:(AS×Int×Int×Int))=>JbS b0_ x.1 x.2.1 x.2.2.1 x.2.2.2)
variable {b0_ x_33 result_4 place_4 state_3 cost_3 result_5 x61 x_34 result_6 place_5 state_4 cost_4}
theorem EJ (x:Int) (z:(Int⊕((AS×Int×Int×Int)⊕Unit))) (H:Bh n b0_ result_4 place_4 cost_3 x61 x=some z):WP (cxk 93 2) (Az Try.f39) [1,0,1,1,1,0,1,0,0,1,0,0,1,0,0] (AA 2 (EX b0_ result_4 place_4 cost_3 x61) (IJ b0_ result_4) z) (EX b0_ result_4 place_4 cost_3 x61 x):=by
 revert H
 generalize x=x_34
 intro H
 refine sr (ck 1 (en (sq (cn H (λ H=>?_) (λ H=>?_)))))
 ·refine sk (qz (sj (λ (x:Unit)=>JbX b0_ result_4 place_4 cost_3 x61 x_34) (λ (x:Unit)=>Bg n x_34) z ?_ (λ hFTr_writer_writingx_J1=>?_)))
  ·intro _ H
   exact rz (ck 2 (ae (by cases H;exact og (gP [0,2,3,4,6,27,28,29] [0,1,2,3,4,5,6,7] (po1 (pn1 Ac b0_.Columns (po1 (po1 (po1 (po1 (po1 (po1 (Pl.z)))))))))))))
  refine bk 3 (sr (bx H λ x62 h163 H=>sp (Ar BE h163) (ck 3 (en (sr (ck 4 (bx H λ r44 h164 H=>ltP [0,1] (DZ h164) (po1 (pn1 Ac b0_.Columns (Pl.z))) (tb (f:=D9 (CW [0,1] 9 2)) [some (.box (An b0_ (.osl 1 2 0 (b0_.Columns.length)))),some (.narr 2 (b0_.Columns.map Ac)),some (.box [.osl 4 1 0 (List.length ([]:List Int)),.osl 5 1 0 (List.length ([]:List Int))]),some (.box [.osl 6 1 0 (result_4.Cells.length),.osl 7 1 0 (result_4.Path.length)]),some (.arr 1 (List.map eU8 ([]:List Int))),some (.arr 1 (List.map Af ([]:List Int))),some (.arr 1 (result_4.Cells.map eU8)),some (.arr 1 (result_4.Path.map Af)),some (.box [.d (.int .i64 x62.Rule),.d (.int .i64 x62.To)])] (po1 (pn1 Ac b0_.Columns (po1 (po1 (po1 (po1 (po1 (po1 (po1 (Pl.z)))))))))) (ck 5 (en (sq (sr (ck 2 (en (cn H (λ H=>?_) (λ H=>?_))))))))))))))))
  ·exact ex 3 (qx (qH (qs (gP [0,2,3,4,6,27,28,29] [0,1,2,3,4,5,6,7] (po1 (pn1 Ac b0_.Columns (po1 (po1 (po1 (po1 (po1 (po1 (Pl.z)))))))))) (hFTr_writer_writingx_J1 () H))))
  ·refine sk (qz (sr (ck 7 (bx H λ x63 h165 H=>sp (Ar Al h165) (ck 3 (en (sq (sr (ck 5 (bx H λ x64 h166 H=>sp (Ax 1 2 h166) (ck 2 (bx H λ r45 h167 H=>cb (ks:=[1]) (obl:=[(0+Int.toNat r44.1+1,List.length (b0_.Columns.map Ac)),(MS (b0_.Columns.map Ac),0)]) false (leK (Jfn (encN:=Ac) h166) (leK (JdH λ _=>rfl) (leZ))) (EI (JaQ (encN:=Ac) (encD:=K1) h166 λ _=>rfl) (EI rfl rfl)) (Fd h167) (Or.inr trivial) rfl (ck 1 (en (sr (ck 6 (sE (g:=(!(decide (r45<0)))) (λ hg=>AL eU8 x63.Cells) (gc 2 (!(decide (r45<0))) (pO (en (cn H (λ H=>?_) (λ H=>?_))))))))))))))))))))))
   ·exact ex 3 (qx (qH (qs (gP [0,2,3,4,6,27,28,29] [0,1,2,3,4,5,6,7] (po1 (pn1 Ac b0_.Columns (po1 (po1 (po1 (po1 (po1 (po1 (Pl.z)))))))))) (hFTr_writer_writingx_J1 () H))))
   ·exact sk (qz (sr (ck 3 (bx H λ l19 h168 H=>sp (Xk eU8 6 1 h168) (ck 2 (en (sr (ck 5 (bx H λ l20 h169 H=>sp (BP Af 7 1 h169) (ck 2 (en (sr (ck 5 (sp (AL eU8 x63.Cells) (ck 4 (en (ex 1 (qX rfl (qx (by cases H;exact xo rfl (gP [0,2,3,4,5,6] [0,1,2,3,4,5,9,11] (po1 (pn1 Ac b0_.Columns (po1 (po1 (po1 (po1 (po1 (po1 (Pl.z))))))))))))))))))))))))))))))
 ·exact ex 2 (qx (by cases H;exact xo rfl (gP [2,3] [0,1,2,3,4,5,6,7] (po1 (pn1 Ac b0_.Columns (po1 (po1 (po1 (po1 (po1 (po1 (Pl.z))))))))))))
theorem H3 (x:(AS×Int×Int×Int)) (z:((AS×Int×Int×Int)⊕AS)) (H:BA n b0_ x.1 x.2.1 x.2.2.1 x.2.2.2=some z):WP (cxk 93 2) (Az Try.f39) [1,0,1,1,1,0,1,0,0] (AA 2 (EY b0_) (IK b0_) z) (EY b0_ x):=by
 obtain ⟨result_4,place_4,state_3,cost_3⟩:=x
 refine sq (sr (ck 2 (en (cn H (λ H=>?_) (λ H=>?_)))))
 ·refine sk (qz (bk 1 (sq (sr (ck 5 (bx H λ x61 h162 H=>sp (Ar (eL BE) h162) (ck 1 (sp (AL BE x61) (ck 1 (en (bk 2 (bx H λ y40 h170 H=>?_))))))))))))
  rcases y40 with y41|y42
  ·exact lX EJ h170 (gP [0,2,3,4,6,27,28,29] [0,1,2,3,4,5,6,7] (po1 (pn1 Ac b0_.Columns (po1 (po1 (po1 (po1 (po1 (po1 (Pl.z)))))))))) rfl λ s hE33=>qX rfl (qx (qH (by cases H;exact og (tr (hE33) (gP [0,2,3,4,5,6] [0,1,2,3,4,5,6,7] (po1 (pn1 Ac b0_.Columns (po1 (po1 (po1 (po1 (po1 (po1 (Pl.z))))))))))))))
  ·exact lX EJ h170 (gP [0,2,3,4,6,27,28,29] [0,1,2,3,4,5,6,7] (po1 (pn1 Ac b0_.Columns (po1 (po1 (po1 (po1 (po1 (po1 (Pl.z)))))))))) rfl λ s hE34=>qH (qs (hE34) (ex 0 (qX rfl (by cases H;exact xo rfl (gP [2,3] [0,1,2,3,4,5,6,7] (po1 (pn1 Ac b0_.Columns (po1 (po1 (po1 (po1 (po1 (po1 (Pl.z))))))))))))))
 ·exact ex 0 (qx (by cases H;exact xo rfl (gP [2,3] [0,1,2,3,4,5,6,7] (po1 (pn1 Ac b0_.Columns (po1 (po1 (po1 (po1 (po1 (po1 (Pl.z))))))))))))
theorem JX {z} (H:Cf n b0_=some z):Cu Try.prog 39 [.ptr 0 0] [some (.box (An b0_ (.osl 1 2 0 (b0_.Columns.length)))),some (.narr 2 (b0_.Columns.map Ac))] 2 (.agg [.osl 3 1 0 (z.Cells.length),.osl 4 1 0 (z.Path.length)]) [some (.box (An b0_ (.osl 1 2 0 (b0_.Columns.length)))),some (.narr 2 (b0_.Columns.map Ac)),some (.box [.osl 3 1 0 (z.Cells.length),.osl 4 1 0 (z.Path.length)]),some (.arr 1 (z.Cells.map eU8)),some (.arr 1 (z.Path.map Af))]:=by
 exact fL 93 2 (JbQ b0_) Try.func39 (sr (ck 1 (en (sc (sr (ck 1 (en (sr (ck 2 (en (sq (lbl (qz (sq (sr (ck 4 (bx H λ x60 h160 H=>sp (Ax 1 2 h160) (bx H λ r43 h161 H=>cb (ks:=[1]) (obl:=[(0+Int.toNat 0+1,List.length (b0_.Columns.map Ac)),(MS (b0_.Columns.map Ac),0)]) false (leK (Jfn (encN:=Ac) h160) (leK (JdH λ _=>rfl) (leZ))) (EI (JaQ (encN:=Ac) (encD:=K1) h160 λ _=>rfl) (EI rfl rfl)) (Fd h161) (Or.inr trivial) rfl (ck 1 (en (bk 0 (bx H λ y43 h171 H=>lX H3 h171 (tr (tr (tr (tr (B8 2 0 1 (by kernel_rfl)) (B8 2 1 1 (by kernel_rfl))) (B8 3 0 1 (by kernel_rfl))) (B8 3 1 1 (by kernel_rfl))) (gP [0,2,3,4,5,6] [0,1,2,3,4,5,6,7] (po1 (pn1 Ac b0_.Columns (po1 (po1 (po1 (po1 (po1 (po1 (Pl.z))))))))))) rfl λ s hE35=>qH (qs (hE35) (sr (ck 2 (en (re (by cases H;exact pL (rl (s':=JbR b0_ z) (gP [2] [0,1,2,6,7] (po1 (pn1 Ac b0_.Columns (po1 (po1 (po1 (Pl.z))))))))))))))))))))))))))))))))))))
end
section
variable (p0_:Ab) (p1_:(List UInt8))
def Jgz:St:=⟨(0,.agg [.d (.int .i64 p0_.Modes),.d (.int .u8 p0_.Accept),.d (.sl (p0_.Rules.map Al))])::(1,.d (.str p1_))::[],[]⟩
variable {p0_ p1_}
theorem Ue {z} (H:Hy n p0_ p1_=some z):AG Try.prog 17 [.agg (Am p0_),.d (.str p1_)] (.tup [.agg [.own 1 (z.1.Cells.map eU8),.own 1 (z.1.Path.map Af)],.d (.int .i64 z.2.1),.d (.int .i64 z.2.2)]):=by
 refine fO 50 (Jgz p0_ p1_) Try.func17 (sr (ck 4 (en (sq (sr (ck 1 (bx H λ r46 h172 H=>ca true (Pq h172) (ck 5 (en (sr (ck 2 (en (cn H (λ H=>?_) (λ H=>?_))))))))))))))
 ·exact sr (ck 6 (en (re (qr (by cases H;exact pr (rT (vs:=[.agg [.d (.nil),.d (.nil)],.d (.int .i64 r46.1),.d (.int .i64 r46.2)]) [] (t1 (a1 (c1 vz (c1 vz (c0)))) (t1 (ad vd) (t1 (ad vd) (t0))))))))))
 ·refine sk (qz (sq (sr (ck 1 (bx H λ r47 h173 H=>ca false (Uc h173) (ck 1 (en (cn H (λ H=>?_) (λ H=>?_)))))))))
  ·exact sr (ck 4 (en (re (qr (by cases H;exact pr (rT (vs:=[.agg [.d (.nil),.d (.nil)],.d (.int .i64 0),.d (.int .i64 61)]) [] (t1 (a1 (c1 vz (c1 vz (c0)))) (t1 (ad vd) (t1 (ad vd) (t0))))))))))
  ·refine sk (qz (sr (ck 2 (bx H λ r48 h174 H=>lt [] (OB h174) (tb (f:=D9 (CW [] 2 0)) [some (.box (Am p0_)),some (.box [.d (.nil),.d (.nil)]),some (.box (An r48 (.osl 3 2 0 (r48.Columns.length)))),some (.narr 2 (r48.Columns.map Ac))] (po1 (po1 (po1 (pn1 Ac r48.Columns (Pl.z))))) (ck 1 (en (sr (ck 1 (bx H λ r49 h175 H=>ltP [2,3] (LR h175) (po1 (pn1 Ac r48.Columns (Pl.z))) (tb (f:=D9 (CW [2,3] 4 2)) [some (.box (Am p0_)),some (.box [.d (.nil),.d (.nil)]),some (.box (An r49 (.osl 3 2 0 (r49.Columns.length)))),some (.narr 2 (r49.Columns.map Ac))] (po1 (po1 (po1 (pn1 Ac r49.Columns (Pl.z))))) (en (sr (ck 1 (bx H λ r50 h176 H=>ltP [2,3] (LS h176) (po1 (pn1 Ac r49.Columns (Pl.z))) (tb (f:=D9 (CW [2,3] 4 2)) [some (.box (Am p0_)),some (.box [.d (.nil),.d (.nil)]),some (.box (An r50 (.osl 3 2 0 (r50.Columns.length)))),some (.narr 2 (r50.Columns.map Ac))] (po1 (po1 (po1 (pn1 Ac r50.Columns (Pl.z))))) (en (sq (sq (bx H λ x65 h177 H=>rg (tr (so1 (encN:=Ac) 3 2 h177) (sno (encN:=Ac) (enc:=Af) h177 [.own 1 (x65.States.map Af),.own 1 (x65.Costs.map Af)] x65.Costs 2 3 1 1)) (ck 4 (sp (Ax 3 2 h177) (ck 1 (sp (Ca (encN:=Ac) (row:=[.own 1 (x65.States.map Af),.osl 4 1 0 (x65.Costs.length)]) (k:=3) (sz:=2) (off:=1) (t:=ty 40) (v:=.osl 4 1 0 (x65.Costs.length)) h177) (bx H λ x66 h178 H=>sp (Ax 4 1 h178) (sp (B9 Af 4 0 (ty 3) h178) (ck 1 (en (cn H (λ H=>?_) (λ H=>?_))))))))))))))))))))))))))))))
   ·exact sq (rg (tr (tr (tr (sni (encN:=Ac) (xs:=r50.Columns) (n:=0) (enc:=Af) [.own 1 (x65.States.map Af),.osl 4 1 0 (x65.Costs.length)] x65.Costs 2 3 1 4 1) (scl (encN:=Ac) (xss:=r50.Columns) 0 [.own 1 (x65.States.map Af),.own 1 (x65.Costs.map Af)] 2 3 x65)) (sn 34 3 2 (lsS r50.Columns (Int.toNat 0) x65))) (snc 2 6 3 2 (lsS r50.Columns (Int.toNat 0) x65))) (ck 8 (en (re (qr (by cases H;exact pr (rT (vs:=[.agg [.d (.nil),.d (.nil)],.d (.int .i64 r50.Last),.d (.int .i64 61)]) [] (t1 (a1 (c1 vz (c1 vz (c0)))) (t1 (ad vd) (t1 (ad vd) (t0)))))))))))
   ·exact sk (qz (sq (rg (tr (tr (tr (sni (encN:=Ac) (xs:=r50.Columns) (n:=0) (enc:=Af) [.own 1 (x65.States.map Af),.osl 4 1 0 (x65.Costs.length)] x65.Costs 2 3 1 4 1) (scl (encN:=Ac) (xss:=r50.Columns) 0 [.own 1 (x65.States.map Af),.own 1 (x65.Costs.map Af)] 2 3 x65)) (sn 34 3 2 (lsS r50.Columns (Int.toNat 0) x65))) (snc 2 6 3 2 (lsS r50.Columns (Int.toNat 0) x65))) (ck 1 (bx H λ r51 h179 H=>ltP [2,3] (JX h179) (po1 (pn1 Ac (List.set r50.Columns (Int.toNat 0) x65) (Pl.z))) (tb (f:=D9 (CW [2,3] 5 2)) [some (.box (Am p0_)),some (.box [.d (.nil),.d (.nil)]),some (.box (An r50 (.osl 3 2 0 (List.length (List.set r50.Columns (Int.toNat 0) x65))))),some (.narr 2 (List.map Ac (List.set r50.Columns (Int.toNat 0) x65))),none,some (.box [.osl 6 1 0 (r51.Cells.length),.osl 7 1 0 (r51.Path.length)]),some (.arr 1 (r51.Cells.map eU8)),some (.arr 1 (r51.Path.map Af))] (po1 (po1 (po1 (pn1 Ac (List.set r50.Columns (Int.toNat 0) x65) (po1 (po1 (po1 (po1 (Pl.z))))))))) (ck 5 (en (re (by cases H;exact pr (rT (vs:=[.agg [.osl 6 1 0 (r51.Cells.length),.osl 7 1 0 (r51.Path.length)],.d (.int .i64 ((p1_.length:Nat):Int)),.d (.int .i64 0)]) [6,7] (t1 (a1 (c1 vo (c1 vo (c0)))) (t1 (ad vd) (t1 (ad vd) (t0)))))))))))))))
end
section
variable (p0_:Ab) (o0_:(List Int))
def JbY:St:=⟨(0,.agg [.d (.int .i64 p0_.Modes),.d (.int .u8 p0_.Accept),.d (.sl (p0_.Rules.map Al))])::(1,.osl 0 1 0 (o0_.length))::[],[some (.arr 1 (o0_.map Af))]⟩
def JbZ:St:=⟨(4,.clo 40 [.ptr 1 0,.ptr 2 0])::[],[some (.arr 1 (o0_.map Af)),some (.box [.osl 0 1 0 (o0_.length)]),some (.box (Am p0_))]⟩
variable {p0_ o0_}
theorem Uf {z} (H:Lz n p0_ o0_=some z):Cu Try.prog 18 [.agg (Am p0_),.osl 0 1 0 (o0_.length)] [some (.arr 1 (o0_.map Af))] 1 (.clo 40 [.ptr 1 0,.ptr 2 0]) [some (.arr 1 (o0_.map Af)),some (.box [.osl 0 1 0 (o0_.length)]),some (.box (Am p0_))]:=by
 exact fL 6 1 (JbY p0_ o0_) Try.func18 (sr (ck 3 (en (sr (xm (xok _ _) (ck 1 (en (re (by cases H;exact pL (rl (s':=JbZ p0_ o0_) (sg [4])))))))))))
end
noncomputable def JdM (p1_:Int) (p2_:Int) (b1_0_:Int) (b2_0_:Int) (b3_0_:Int):St:=⟨(39,.d (.int .i64 p2_))::(38,.d (.int .i64 p1_))::(5,.ptr 1 0)::(11,.ptr 2 0)::(12,.ptr 3 0)::[],[some (.lp AF [5,11,12] [.ptr 1 0,.ptr 2 0,.ptr 3 0] 0),some (.box [.d (.int .i64 b1_0_)]),some (.box [.d (.int .i64 b2_0_)]),some (.box [.d (.int .i64 b3_0_)])]⟩
noncomputable def Ye (b1_0_:Int) (x_35:Int) (x_36:Int):St:=⟨[],[some (.lp AF [5,11,12] [.ptr 1 0,.ptr 2 0,.ptr 3 0] 1),some (.box [.d (.int .i64 b1_0_)]),some (.box [.d (.int .i64 x_35)]),some (.box [.d (.int .i64 x_36)])]⟩
section
variable (p1_:Int) (p2_:Int) (b1_0_:Int) (b2_0_:Int) (b3_0_:Int)
variable {p1_ p2_ b1_0_ b2_0_ b3_0_}
theorem Rn {z} (H:GN n p1_ p2_ b1_0_ b2_0_ b3_0_=some z):VT Try.prog [.d (.int .i64 p1_),.d (.int .i64 p2_)] [some (.lp AF [5,11,12] [.ptr 1 0,.ptr 2 0,.ptr 3 0] 0),some (.box [.d (.int .i64 b1_0_)]),some (.box [.d (.int .i64 b2_0_)]),some (.box [.d (.int .i64 b3_0_)])] 4 z.1 [some (.lp AF [5,11,12] [.ptr 1 0,.ptr 2 0,.ptr 3 0] z.1),some (.box [.d (.int .i64 b1_0_)]),some (.box [.d (.int .i64 z.2.1)]),some (.box [.d (.int .i64 z.2.2)])]:=by
 refine fk (C:=Az Try.f8) (p:=[1,0,1,1,1,1,1,0,1,0]) 47 [38,39] [.exit 0] (ts:=[5,11,12]) (vs:=[.ptr 1 0,.ptr 2 0,.ptr 3 0]) (JdM p1_ p2_ b1_0_ b2_0_ b3_0_) follows (Jjt 47 4) (rz (ck 1 (ae (aq (js:=[.exit 0]) (bk 1 (sq (sr (ck 3 (en (cn H (λ H=>?_) (λ H=>?_)))))))))))
 ·exact sr (ck 2 (en (ex 0 (qx (qX rfl (by cases H;exact rq (s':=Ye b1_0_ p2_ b3_0_) (sg [])))))))
 ·exact sk (qz (rz (ck 3 (ae (qN (by cases H;exact rq (s':=Ye b1_0_ b2_0_ (Ay .i64 b3_0_ 1)) (sg [])))))))
end
section
variable (b2_:Ab) (b3_0_:Int) (b4_0_:Int) (b5_0_:Int) (o6_:(List Int)) (j_2:Nat) (x_37:Int) (x_38:Int) (x_39:Int) (x_40:Int) (at_1:Int) (x_41:Int) (x_42:Int) (x_43:Int) (x67:Int) (x68:Av) (x_44:Int) (x_45:Int) (x_46:Int) (x_47:Int) (x_48:Int)
noncomputable def Jb0:St:=⟨(0,.yld 0)::(1,.ptr 1 0)::(2,.ptr 2 0)::[],[some (.lp AF [5,11,12] [.ptr 3 0,.ptr 4 0,.ptr 5 0] 0),some (.box [.osl 6 1 0 (o6_.length)]),some (.box (Am b2_)),some (.box [.d (.int .i64 b3_0_)]),some (.box [.d (.int .i64 b4_0_)]),some (.box [.d (.int .i64 b5_0_)]),some (.arr 1 (o6_.map Af))]⟩
noncomputable def V1:St:=⟨[],[some (.lp AF [5,11,12] [.ptr 3 0,.ptr 4 0,.ptr 5 0] j_2),some (.box [.osl 6 1 0 (o6_.length)]),some (.box (Am b2_)),some (.box [.d (.int .i64 b3_0_)]),some (.box [.d (.int .i64 x_37)]),some (.box [.d (.int .i64 x_38)]),some (.arr 1 (o6_.map Af))]⟩
noncomputable def Jb1:St:=⟨(0,.yld 0)::(2,.ptr 2 0)::(4,.d (.int .i64 at_1))::(7,.osl 6 1 0 (o6_.length))::(8,.d (.int .i64 ((o6_.length:Nat):Int)))::(9,.d (.int .i64 x_41))::[],[some (.lp AF [5,11,12] [.ptr 3 0,.ptr 4 0,.ptr 5 0] 0),some (.box [.osl 6 1 0 (o6_.length)]),some (.box (Am b2_)),some (.box [.d (.int .i64 b3_0_)]),some (.box [.d (.int .i64 x_39)]),some (.box [.d (.int .i64 x_40)]),some (.arr 1 (o6_.map Af))]⟩
noncomputable def Jb2:St:=⟨[],[some (.lp AF [5,11,12] [.ptr 3 0,.ptr 4 0,.ptr 5 0] 0),some (.box [.osl 6 1 0 (o6_.length)]),some (.box (Am b2_)),some (.box [.d (.int .i64 b3_0_)]),some (.box [.d (.int .i64 x_42)]),some (.box [.d (.int .i64 x_43)]),some (.arr 1 (o6_.map Af))]⟩
noncomputable def Jb3:St:=⟨(0,.yld 0)::(2,.ptr 2 0)::(4,.d (.int .i64 at_1))::(6,.d (.int .i64 x67))::(7,.osl 6 1 0 (o6_.length))::(8,.d (.int .i64 ((o6_.length:Nat):Int)))::(9,.d (.int .i64 x_41))::(19,.d (.int .i64 ((x68.Cells.length:Nat):Int)))::(20,.d (.int .i64 x_46))::[],[some (.lp AF [5,11,12] [.ptr 3 0,.ptr 4 0,.ptr 5 0] 0),some (.box [.osl 6 1 0 (o6_.length)]),some (.box (Am b2_)),some (.box [.d (.int .i64 b3_0_)]),some (.box [.d (.int .i64 x_44)]),some (.box [.d (.int .i64 x_45)]),some (.arr 1 (o6_.map Af))]⟩
noncomputable def Jb4:St:=⟨(0,.yld 0)::(2,.ptr 2 0)::(4,.d (.int .i64 at_1))::(6,.d (.int .i64 x67))::(7,.osl 6 1 0 (o6_.length))::(8,.d (.int .i64 ((o6_.length:Nat):Int)))::(9,.d (.int .i64 x_41))::[],[some (.lp AF [5,11,12] [.ptr 3 0,.ptr 4 0,.ptr 5 0] 0),some (.box [.osl 6 1 0 (o6_.length)]),some (.box (Am b2_)),some (.box [.d (.int .i64 b3_0_)]),some (.box [.d (.int .i64 x_47)]),some (.box [.d (.int .i64 x_48)]),some (.arr 1 (o6_.map Af))]⟩
noncomputable def OD:((Int×Int)⊕(Nat×Int×Int))->Ex->St->Prop:=xS (xX 7 2 (λ (y:(Int×Int))=>Jb4 b2_ b3_0_ o6_ at_1 x_41 x67 y.1 y.2)) (xL 7 ty Try.f40 (λ (y:(Nat×Int×Int))=>.tup []) (λ (y:(Nat×Int×Int))=>[some (.lp AF [5,11,12] [.ptr 3 0,.ptr 4 0,.ptr 5 0] y.1),some (.box [.osl 6 1 0 (o6_.length)]),some (.box (Am b2_)),some (.box [.d (.int .i64 b3_0_)]),some (.box [.d (.int .i64 y.2.1)]),some (.box [.d (.int .i64 y.2.2)]),some (.arr 1 (o6_.map Af))]))
noncomputable def Ja:(Int×Int×Int)->St:=(λ (x:(Int×Int×Int))=>Jb3 b2_ b3_0_ o6_ at_1 x_41 x67 x68 x.1 x.2.1 x.2.2)
noncomputable def OE:((Int×Int)⊕(Nat×Int×Int))->Ex->St->Prop:=xS (xX 7 0 (λ (y:(Int×Int))=>Jb2 b2_ b3_0_ o6_ y.1 y.2)) (xL 7 ty Try.f40 (λ (y:(Nat×Int×Int))=>.tup []) (λ (y:(Nat×Int×Int))=>[some (.lp AF [5,11,12] [.ptr 3 0,.ptr 4 0,.ptr 5 0] y.1),some (.box [.osl 6 1 0 (o6_.length)]),some (.box (Am b2_)),some (.box [.d (.int .i64 b3_0_)]),some (.box [.d (.int .i64 y.2.1)]),some (.box [.d (.int .i64 y.2.2)]),some (.arr 1 (o6_.map Af))]))
noncomputable def Jb:(Int×Int×Int×Int)->St:=(λ (x:(Int×Int×Int×Int))=>Jb1 b2_ b3_0_ o6_ x.1 x.2.1 x.2.2.1 x.2.2.2)
variable {b2_ b3_0_ b4_0_ b5_0_ o6_ j_2 x_37 x_38 x_39 x_40 at_1 x_41 x_42 x_43 x67 x68 x_44 x_45 x_46 x_47 x_48}
theorem Iq (x:(Int×Int×Int)) (z:((Int×Int×Int)⊕((Int×Int)⊕(Nat×Int×Int)))) (H:Cy n b2_ b3_0_ o6_ at_1 x_41 x67 x68 x.1 x.2.1 x.2.2=some z):WP (cxk 38 7) (Az Try.f40) [1,1,0,0,1,1,0,0,1,0,1,0,0] (AA 7 (Ja b2_ b3_0_ o6_ at_1 x_41 x67 x68) (OD b2_ b3_0_ o6_ at_1 x_41 x67) z) (Ja b2_ b3_0_ o6_ at_1 x_41 x67 x68 x):=by
 obtain ⟨x_44,x_45,x_46⟩:=x
 refine sr (ck 1 (en (sq (cn H (λ H=>?_) (λ H=>?_)))))
 ·refine sk (qz (sq (bk 3 (sr (ck 3 (bx H λ r52 h182 H=>xy (xok _ _) (g:=true) rfl (FZ) [0,3,4,5] (Rn h182) rfl (ck 1 (en (cnh H (λ hc74 H=>?_) (λ hc74 H=>?_))))))))))
  ·exact re (qR (qr (by cases H;exact lo rfl (rl (s':=V1 b2_ b3_0_ o6_ r52.1 r52.2.1 r52.2.2) (sg [])))))
  ·exact sk (qN (qs (JiU 0 (jb2 hc74) (by kernel_rfl)) (rz (ck 2 (ae (by cases H;exact og (sg [0,2,4,6,7,8,9,19,20])))))))
 ·exact ex 2 (qx (by cases H;exact xo rfl (sg [0,2,4,6,7,8,9])))
theorem Ir (x:(Int×Int×Int×Int)) (z:((Int×Int×Int×Int)⊕((Int×Int)⊕(Nat×Int×Int)))) (H:Df n b2_ b3_0_ o6_ x.1 x.2.1 x.2.2.1 x.2.2.2=some z):WP (cxk 38 7) (Az Try.f40) [1,1,0,0] (AA 7 (Jb b2_ b3_0_ o6_) (OE b2_ b3_0_ o6_) z) (Jb b2_ b3_0_ o6_ x):=by
 obtain ⟨x_39,x_40,at_1,x_41⟩:=x
 refine sr (ck 1 (en (sq (cn H (λ H=>?_) (λ H=>?_)))))
 ·refine sk (qz (sq (bk 1 (sr (bx H λ x67 h180 H=>sp (Ax 6 1 h180) (sp (B9 Af 6 0 (ty 3) h180) (ck 1 (en (sq (sr (ck 3 (bx H λ x68 h181 H=>sp (Ar Al h181) (ck 2 (sp (AL eU8 x68.Cells) (ck 1 (en (bk 2 (bx H λ y44 h183 H=>?_))))))))))))))))))
  rcases y44 with y45|y46
  ·exact lX Iq h183 (sg [0,2,4,6,7,8,9,19,20]) rfl λ s hE36=>qH (qs (hE36) (rz (ck 4 (bx H λ x69 h184 H=>sp (Ar Al h184) (ck 5 (ae (qN (qz (rz (ck 2 (ae (by cases H;exact og (sg [0,2,4,7,8,9])))))))))))))
  ·exact lL Iq h183 (sg [0,2,4,6,7,8,9,19,20]) rfl λ s hE37=>qR (qr (qR (qr (by cases H;exact lo rfl hE37))))
 ·exact ex 0 (qx (by cases H;exact xo rfl (sg [])))
theorem Ro {z} (H:Fq n b2_ b3_0_ b4_0_ b5_0_ o6_=some z):Cu Try.prog 40 [.yld 0,.ptr 1 0,.ptr 2 0] [some (.lp AF [5,11,12] [.ptr 3 0,.ptr 4 0,.ptr 5 0] 0),some (.box [.osl 6 1 0 (o6_.length)]),some (.box (Am b2_)),some (.box [.d (.int .i64 b3_0_)]),some (.box [.d (.int .i64 b4_0_)]),some (.box [.d (.int .i64 b5_0_)]),some (.arr 1 (o6_.map Af))] 7 (.tup []) [some (.lp AF [5,11,12] [.ptr 3 0,.ptr 4 0,.ptr 5 0] z.1),some (.box [.osl 6 1 0 (o6_.length)]),some (.box (Am b2_)),some (.box [.d (.int .i64 b3_0_)]),some (.box [.d (.int .i64 z.2.1)]),some (.box [.d (.int .i64 z.2.2)]),some (.arr 1 (o6_.map Af))]:=by
 refine fL 38 7 (Jb0 b2_ b3_0_ b4_0_ b5_0_ o6_) Try.func40 (sr (ck 1 (en (sr (ck 3 (en (bk 0 (bx H λ y47 h185 H=>?_))))))))
 rcases y47 with y48|y49
 ·exact lX Ir h185 (sg [0,2,4,7,8,9]) rfl λ s hE38=>qH (by cases H;exact pL' (rl (s':=V1 b2_ b3_0_ o6_ 0 y48.1 y48.2) (tr (hE38) (sg []))))
 ·exact lL Ir h185 (sg [0,2,4,7,8,9]) rfl λ s hE39=>qR (by cases H;exact pL hE39)
end
section
variable (p0_:Ab) (p1_:(List UInt8)) (p2_:Int) (place_6:Int)
def Jjx:St:=⟨(0,.agg [.d (.int .i64 p0_.Modes),.d (.int .u8 p0_.Accept),.d (.sl (p0_.Rules.map Al))])::(1,.d (.str p1_))::(2,.d (.int .i64 p2_))::[],[]⟩
def Jjy:St:=⟨(11,.ptr 0 0)::[],[some (.box [.d (.int .i64 place_6)])]⟩
variable {p0_ p1_ p2_ place_6}
theorem C8 {z} (H:CP n p0_ p1_ p2_=some z):AG Try.prog 8 [.agg (Am p0_),.d (.str p1_),.d (.int .i64 p2_)] (.tup [.d (.int .i64 z.1),.d (.int .i64 z.2)]):=by
 refine fO 47 (Jjx p0_ p1_ p2_) Try.func8 (sr (ck 4 (en (sc (sr (ck 2 (bx H λ r53 h186 H=>cl [List.length r53.1.Cells,List.length r53.1.Path] (Ue h186) (ck 8 (en (sq (sr (ck 2 (en (cn H (λ H=>?_) (λ H=>?_)))))))))))))))
 ·exact sr (ck 3 (en (re (qr (by cases H;exact pr rdT)))))
 ·refine sk (qz (sq (sr (ck 5 (gc 3 (!(decide (p2_<0))) (pO (en (cn H (λ H=>?_) (λ H=>?_)))))))))
  ·exact sr (ck 2 (en (re (qr (by cases H;exact pr rdT)))))
  ·refine sk (qz (sr (ck 4 (en (sq (lbl (qz (sj (λ (x:Int)=>Jjy x) (λ (x:Int)=>FL n x) z ?_ (λ hFMk_Bytes_J1=>?_)))))))))
   ·intro place_6 H
    exact sr (ck 3 (en (re (by cases H;exact pr rdT))))
   refine sr (ck 3 (bx H λ r54 h187 H=>lt [3] (Uf h187) (en (bk 0 (bx H λ r55 h188 H=>rf [.exit 0] [5,11,12] [9,7,8,1,5,6,3] r55.1 (Ro h188) rfl (jn H (λ H=>?_) (λ H=>?_)))))))
   ·exact qN (qs (sg [11]) (hFMk_Bytes_J1 r55.2.1 H))
   ·refine jx 0 0 H (λ H=>?_) (λ H=>?_)
    ·exact qH (qs (sg [11]) (hFMk_Bytes_J1 r55.2.1 H))
    ·cases H
end
section
variable (p0_:Re) (p1_:Int)
def JgA:St:=⟨(0,.agg [.d (.int .i64 p0_.First),.d (.int .i64 p0_.End),.d (.sl (p0_.Rows.map Tf)),.d (.sl (p0_.Ends.map Af)),.d (.sl (p0_.Labels.map Qa))])::(1,.d (.int .i64 p1_))::[],[]⟩
variable {p0_ p1_}
theorem Ug {z} (H:LA n p0_ p1_=some z):AG Try.prog 50 [.agg (JfN p0_),.d (.int .i64 p1_)] (.d (.int .i64 z)):=by
 refine fO 13 (JgA p0_ p1_) Try.func50 (sr (ck 2 (en (sq (sr (ck 2 (en (cn H (λ H=>?_) (λ H=>?_)))))))))
 ·exact sr (ck 1 (en (re (qr (by cases H;exact pr rd)))))
 ·exact sk (qz (sr (ck 4 (bx H λ x70 h189 H=>sp (Ar Af h189) (ck 2 (en (re (by cases H;exact pr rd))))))))
end
section
variable (p0_:(List Int)) (x_49:Int)
def JgB:St:=⟨(0,.d (.sl (p0_.map eU8)))::[],[]⟩
def JgC:St:=⟨(0,.d (.sl (p0_.map eU8)))::(5,.d (.sl (p0_.map eU8)))::(6,.d (.int .i64 ((p0_.length:Nat):Int)))::(7,.d (.int .i64 x_49))::[],[]⟩
def JgD:St:=⟨(0,.d (.sl (p0_.map eU8)))::[],[]⟩
def Nz:(Unit⊕Int)->Ex->St->Prop:=xS (xX 0 0 (λ (y:Unit)=>JgD p0_)) (xR ty Try.f51 (λ (y:Int)=>.d (.int .i64 y)))
def Is:Int->St:=(λ (x:Int)=>JgC p0_ x)
variable {p0_ x_49}
theorem HR (x:Int) (z:(Int⊕(Unit⊕Int))) (H:E5 n p0_ x=some z):WP (cxk 18 0) (Az Try.f51) [1,0,1,0,0] (AA 0 (Is p0_) (Nz p0_) z) (Is p0_ x):=by
 revert H
 generalize x=x_49
 intro H
 refine sr (ck 1 (en (sq (cn H (λ H=>?_) (λ H=>?_)))))
 ·refine sk (qz (sq (bk 1 (sr (ck 1 (bx H λ x71 h190 H=>sp (Ar eU8 h190) (ck 3 (en (sr (ck 2 (en (cn H (λ H=>?_) (λ H=>?_)))))))))))))
  ·exact sr (ck 2 (en (re (qR (qr (by cases H;exact ro rfl rd))))))
  ·exact sk (qN (qz (rz (ck 2 (ae (by cases H;exact og (sg [0,5,6,7])))))))
 ·exact ex 0 (qx (by cases H;exact xo rfl (sg [0])))
theorem PK {z} (H:Hh n p0_=some z):AG Try.prog 51 [.d (.sl (p0_.map eU8))] (.d (.int .i64 z)):=by
 refine fO 18 (JgB p0_) Try.func51 (sr (ck 1 (en (sq (sr (ck 1 (sp (AL eU8 p0_) (ck 1 (en (bk 0 (bx H λ y50 h191 H=>?_)))))))))))
 rcases y50 with y51|y52
 ·exact lX HR h191 (sg [0,5,6,7]) rfl λ s hE40=>qH (qs (hE40) (sr (ck 1 (sp (AL eU8 p0_) (ck 1 (en (re (by cases H;exact pr rd))))))))
 ·exact lR HR h191 (sg [0,5,6,7]) rfl λ s hE41=>qR (qr (by cases H;exact pr hE41))
end
section
variable (p0_:IZ) (p1_:Rf)
def JgE:St:=⟨(0,.agg [.d (.int .i64 p0_.Format.Width),.d (.int .i64 p0_.Format.Height),.d (.int .i64 p0_.Format.Binding),.d (.sl (p0_.Volumes.map Ns))])::(1,.agg [.d (.int .i64 p1_.Volume),.d (.int .i64 p1_.Leaf),.d (.int .i64 p1_.Side),.d (.int .i64 p1_.Line),.d (.int .i64 p1_.Cell)])::[],[]⟩
variable {p0_ p1_}
theorem V2 {z} (H:Nm n p0_ p1_=some z):AG Try.prog 29 [.agg (VX p0_),.agg (JfO p1_)] (.tup [.d (.int .i64 z.1),.d (.int .i64 z.2.1),.d (.int .i64 z.2.2)]):=by
 refine fO 125 (JgE p0_ p1_) Try.func29 (sr (ck 5 (en (sr (xm (xok _ _) (xd (xok _ _) (en (sq (sr (ck 5 (gc 1 (!(decide (p1_.Volume<0))) (ck 1 (gc 1 (!(decide (p1_.Volume<0))) (sE (g:=(!(decide (p1_.Volume<0)))) (λ hg=>AL Ns p0_.Volumes) (gc 1 (!(decide (p1_.Volume<0))) (pO (ck 2 (gc 2 (!((decide (p1_.Volume<0))||(decide (p1_.Volume>=((p0_.Volumes.length:Nat):Int))))) (pO (ck 2 (gc 2 (!(((decide (p1_.Volume<0))||(decide (p1_.Volume>=((p0_.Volumes.length:Nat):Int))))||(decide (p1_.Side<0)))) (pO (en (cn H (λ H=>?_) (λ H=>?_)))))))))))))))))))))))))
 ·exact sr (ck 3 (en (re (qr (by cases H;exact pr rdT)))))
 ·refine sk (qz (sr (ck 4 (bx H λ x72 h192 H=>sp (Ar Ns h192) (ck 3 (en (sq (sr (ck 5 (gc 1 (!(decide (p1_.Leaf<0))) (ck 1 (gc 1 (!(decide (p1_.Leaf<0))) (sE (g:=(!(decide (p1_.Leaf<0)))) (λ hg=>AL Qa x72.Labels) (gc 1 (!(decide (p1_.Leaf<0))) (pO (ck 2 (gc 2 (!((decide (p1_.Leaf<0))||(decide (p1_.Leaf>=((x72.Labels.length:Nat):Int))))) (ck 1 (gc 2 (!((decide (p1_.Leaf<0))||(decide (p1_.Leaf>=((x72.Labels.length:Nat):Int))))) (ck 1 (gc 1 (!((decide (p1_.Leaf<0))||(decide (p1_.Leaf>=((x72.Labels.length:Nat):Int))))) (sE (g:=(!((decide (p1_.Leaf<0))||(decide (p1_.Leaf>=((x72.Labels.length:Nat):Int)))))) (λ hg=>AL Af x72.Ends) (gc 1 (!((decide (p1_.Leaf<0))||(decide (p1_.Leaf>=((x72.Labels.length:Nat):Int))))) (pO (en (cn H (λ H=>?_) (λ H=>?_)))))))))))))))))))))))))))
  ·exact sr (ck 3 (en (re (qr (by cases H;exact pr rdT)))))
  ·refine sk (qz (sr (ck 7 (en (sr (ck 4 (bx H λ r56 h193 H=>ca false (Ug h193) (ck 3 (bx H λ x73 h194 H=>sp (Ar Af h194) (ck 1 (bx H λ l21 h195 H=>sp (JaN Tf 5 h195) (ck 1 (en (sq (sr (ck 5 (gc 1 (!(decide (p1_.Line<1))) (ck 1 (sE (g:=(!(decide (p1_.Line<1)))) (λ hg=>AL Tf l21) (gc 1 (!(decide (p1_.Line<1))) (pO (en (cn H (λ H=>?_) (λ H=>?_))))))))))))))))))))))))
   ·exact sr (ck 3 (en (re (qr (by cases H;exact pr rdT)))))
   ·refine sk (qz (sr (ck 4 (bx H λ x74 h196 H=>sp (Ar Tf h196) (ck 3 (en (sr (ck 2 (bx H λ r57 h197 H=>ca false (PK h197) (ck 1 (en (sq (sr (ck 5 (gc 1 (!(x74.At==(-1))) (ck 1 (gc 1 (!(x74.At==(-1))) (pO (ck 2 (gc 1 (!((x74.At==(-1))||(decide (p1_.Cell<r57)))) (ck 1 (gc 1 (!((x74.At==(-1))||(decide (p1_.Cell<r57)))) (sE (g:=(!((x74.At==(-1))||(decide (p1_.Cell<r57))))) (λ hg=>AL eU8 x74.Line) (gc 1 (!((x74.At==(-1))||(decide (p1_.Cell<r57)))) (pO (en (cn H (λ H=>?_) (λ H=>?_))))))))))))))))))))))))))))
    ·exact sr (ck 3 (en (re (qr (by cases H;exact pr rdT)))))
    ·exact sk (qz (sr (ck 12 (en (re (by cases H;exact pr rdT))))))
end
section
variable (p0_:(List My)) (p1_:Ab) (p2_:IZ) (p3_:VW) (r58:(Int×Int×Int)) (x_50:Bool)
def JgF:St:=⟨(0,.d (.sl (p0_.map Il)))::(1,.agg [.d (.int .i64 p1_.Modes),.d (.int .u8 p1_.Accept),.d (.sl (p1_.Rules.map Al))])::(2,.agg [.d (.int .i64 p2_.Format.Width),.d (.int .i64 p2_.Format.Height),.d (.int .i64 p2_.Format.Binding),.d (.sl (p2_.Volumes.map Ns))])::(3,.agg [.d (.int .i64 p3_.Reader),.d (.int .i64 p3_.Version),.d (.int .i64 p3_.At.Volume),.d (.int .i64 p3_.At.Leaf),.d (.int .i64 p3_.At.Side),.d (.int .i64 p3_.At.Line),.d (.int .i64 p3_.At.Cell),.d (.int .i64 p3_.Cut),.d (.str p3_.Put)])::[],[]⟩
def JgG:St:=⟨(0,.d (.sl (p0_.map Il)))::(5,.ptr 0 0)::(7,.ptr 1 0)::(8,.ptr 2 0)::(10,.d (.int .i64 r58.1))::(11,.d (.int .i64 r58.2.1))::(41,.d (.bool x_50))::[],[some (.box (Am p1_)),some (.box (JeK p3_)),some (.box [.d (.int .i64 0),.d (.int .i64 0),.d (.int .i64 0),.d (.str [])])]⟩
variable {p0_ p1_ p2_ p3_ r58 x_50}
theorem Rp {z} (H:Ig n p0_ p1_ p2_ p3_=some z):AG Try.prog 13 [.d (.sl (p0_.map Il)),.agg (Am p1_),.agg (VX p2_),.agg (JeK p3_)] (.tup [.agg [.d (.int .i64 z.1.Block),.d (.int .i64 z.1.At),.d (.int .i64 z.1.Cut),.d (.str z.1.Put)],.d (.int .i64 z.2)]):=by
 refine fO 84 (JgF p0_ p1_ p2_ p3_) Try.func13 (sr (ck 5 (en (sr (ck 3 (bx H λ r58 h198 H=>ca true (V2 h198) (ck 7 (en (sq (sr (ck 4 (gc 1 (!(r58.2.2 != 0)) (pO (ck 3 (sE (g:=(!((r58.2.2 != 0)||(decide (r58.1<0))))) (λ hg=>AL Il p0_) (gc 1 (!((r58.2.2 != 0)||(decide (r58.1<0)))) (pO (en (cn H (λ H=>?_) (λ H=>?_))))))))))))))))))))
 ·exact sr (ck 3 (en (re (qr (by cases H;exact pr rdT)))))
 ·refine sk (qz (sq (sr (ck 2 (bx H λ x75 h199 H=>sp (Ar Il h199) (ck 2 (en (bk 0 (sj (λ (x:Bool)=>JgG p0_ p1_ p3_ r58 x) (λ (x:Bool)=>Dg n p0_ p1_ p3_ r58 x) z ?_ (λ hFMk_Resolve_J1=>?_))))))))))
  ·intro x_50 H
   refine cn H (λ H=>?_) (λ H=>?_)
   ·refine sk (qN (qz (sr (ck 3 (bx H λ x76 h200 H=>sp (Ar Il h200) (ck 3 (bx H λ r59 h201 H=>ca true (C8 h201) (ck 5 (en (sq (sr (ck 2 (en (cn H (λ H=>?_) (λ H=>?_)))))))))))))))
    ·exact sr (ck 4 (en (re (qr (by cases H;exact pr rdT)))))
    ·refine sk (qz (sq (sr (ck 5 (gc 1 (!(decide (p3_.Cut<0))) (ck 2 (bx H λ x77 h202 H=>sE (λ hg=>Ar Il (Bu h202 hg)) (gc 3 (!(decide (p3_.Cut<0))) (ck 1 (gc 2 (!(decide (p3_.Cut<0))) (pO (en (cn H (λ H=>?_) (λ H=>?_))))))))))))))
     ·exact sr (ck 3 (en (re (qr (by cases H;exact pr rdT)))))
     ·exact sk (qz (sr (ck 9 (en (re (by cases H;exact pr rdT))))))
   ·exact sr (ck 3 (en (re (qR (qr (by cases H;exact pr rdT))))))
  refine sr (ck 2 (en (cn H (λ H=>?_) (λ H=>?_))))
  ·exact sk (qs (sg [0,5,7,8,10,11,41]) (hFMk_Resolve_J1 (x75.Kind==1) H))
  ·refine sr (ck 2 (en (cn H (λ H=>?_) (λ H=>?_))))
   ·exact sk (qs (sg [0,5,7,8,10,11,41]) (hFMk_Resolve_J1 (x75.Kind==2) H))
   ·exact rz (ck 2 (ae (qs (sg [0,5,7,8,10,11,41]) (hFMk_Resolve_J1 (x75.Kind==4) H))))
end
def Jjz:St:=⟨[],[]⟩
theorem Rq {z} (H:GO n=some z):AG Try.prog 5 [] (.d (.bool z)):=by
 exact fO 94 Jjz Try.func5 (sr (ck 1 (en (sr (bx H λ r60 h203 H=>ca false (Rg h203) (ck 2 (en (sr (ck 1 (bx H λ r61 h204 H=>ca false (C8 h204) (ck 5 (en (sr (ck 1 (bx H λ r62 h205 H=>ca false (C8 h205) (ck 5 (en (sr (ck 1 (bx H λ r63 h206 H=>ca false (C8 h206) (ck 5 (en (sr (ck 1 (bx H λ r64 h207 H=>ca false (C8 h207) (ck 5 (en (sr (ck 1 (bx H λ r65 h208 H=>ca false (C8 h208) (ck 5 (en (sr (ck 1 (bx H λ r66 h209 H=>ca false (C8 h209) (ck 5 (en (sr (ck 5 (bx H λ r67 h210 H=>cb (ks:=[1]) (obl:=[(0+List.length ([]:List My),List.length (List.map Il ([]:List My)))]) false (leK leM (leZ)) (EI X4 (EI rfl (EI rfl (EI rfl rfl)))) (Rp h210) (Or.inr ⟨⟨trivial,⟨trivial,⟨trivial,⟨trivial,trivial⟩⟩⟩⟩,⟨trivial,trivial⟩⟩) rfl (ck 6 (en (sr (ck 4 (gc 1 (r61.2==0) (pA (ck 2 (gc 1 ((r61.2==0)&&(r62.2==0)) (pA (ck 2 (gc 1 (((r61.2==0)&&(r62.2==0))&&(r63.2==0)) (pA (ck 2 (gc 1 ((((r61.2==0)&&(r62.2==0))&&(r63.2==0))&&(r64.2==310)) (pA (ck 2 (gc 1 (((((r61.2==0)&&(r62.2==0))&&(r63.2==0))&&(r64.2==310))&&(r65.2==61)) (pA (ck 2 (gc 1 ((((((r61.2==0)&&(r62.2==0))&&(r63.2==0))&&(r64.2==310))&&(r65.2==61))&&(r66.2==60)) (pA (ck 2 (gc 1 (((((((r61.2==0)&&(r62.2==0))&&(r63.2==0))&&(r64.2==310))&&(r65.2==61))&&(r66.2==60))&&(r67.2==310)) (pA (ck 2 (gc 1 ((((((((r61.2==0)&&(r62.2==0))&&(r63.2==0))&&(r64.2==310))&&(r65.2==61))&&(r66.2==60))&&(r67.2==310))&&(r61.1==1)) (pA (ck 2 (gc 1 (((((((((r61.2==0)&&(r62.2==0))&&(r63.2==0))&&(r64.2==310))&&(r65.2==61))&&(r66.2==60))&&(r67.2==310))&&(r61.1==1))&&(r62.1==1)) (pA (ck 1 (en (re (by cases H;exact pr rd))))))))))))))))))))))))))))))))))))))))))))))))))))))))))))))))))))))))))
section
variable (p0_:(List UInt8)) (p1_:(List Int)) (p2_:(FE Int))
def JgH:St:=⟨(0,.d (.str p0_))::(1,.d (.sl (p1_.map eU8)))::(2,.agg [.d (.int .i64 p2_.a0),.d (.int .i64 p2_.a1)])::[],[]⟩
variable {p0_ p1_ p2_}
theorem AP {z} (H:A4 n p0_ p1_ p2_=some z):AG Try.prog 32 [.d (.str p0_),.d (.sl (p1_.map eU8)),.agg [.d (.int .i64 p2_.a0),.d (.int .i64 p2_.a1)]] (.agg [.d (.str z.Print),.d (.sl (z.Cells.map eU8)),.d (.int .u8 z.Left),.d (.int .u8 z.Right),.d (.int .i64 z.From),.d (.int .i64 z.To)]):=by
 exact fO 14 (JgH p0_ p1_ p2_) Try.func32 (sr (ck 2 (en (sr (ck 8 (en (re (by cases H;exact pr rd))))))))
end
def JgI:St:=⟨[],[]⟩
theorem Rr {z} (H:Pp n=some z):AG Try.prog 30 [] (.own 6 (z.map Al)):=by
 exact fO 16 JgI Try.func30 (sr (ck 1 (en (sr (ck 3 (en (sr (sF (ck 1 (bx H λ r68 h211 H=>ca false (AP h211) (sF (ck 1 (bx H λ r69 h212 H=>ca false (AP h212) (sF (ck 1 (bx H λ r70 h213 H=>ca false (AP h213) (sF (ck 1 (bx H λ r71 h214 H=>ca false (AP h214) (ck 2 (en (re (by cases H;exact pr (rO (v:=.osl 1 6 0 (List.length [r68,r69,r70,r71])) [1] (ao vo)))))))))))))))))))))))))
section
variable (p0_:Int) (p1_:Int) (p2_:(FE Int))
def JgJ:St:=⟨(0,.d (.int .u8 p0_))::(1,.d (.int .i64 p1_))::(2,.agg [.d (.int .i64 p2_.a0),.d (.int .i64 p2_.a1)])::[],[]⟩
variable {p0_ p1_ p2_}
theorem Gx {z} (H:GG n p0_ p1_ p2_=some z):AG Try.prog 31 [.d (.int .u8 p0_),.d (.int .i64 p1_),.agg [.d (.int .i64 p2_.a0),.d (.int .i64 p2_.a1)]] (.agg [.d (.str z.Print),.d (.sl (z.Cells.map eU8)),.d (.int .u8 z.Left),.d (.int .u8 z.Right),.d (.int .i64 z.From),.d (.int .i64 z.To)]):=by
 exact fO 16 (JgJ p0_ p1_ p2_) Try.func31 (sr (ck 2 (en (sr (ck 1 (sF (ck 1 (bx H λ r72 h215 H=>ca false (AP h215) (ck 2 (en (sr (ck 1 (bx H λ gd7 h216 H=>so (HG h216) (ck 2 (en (sr (ck 2 (en (re (by cases H;exact pr rd))))))))))))))))))))
end
section
variable (p0_:Int) (l_1:(List Av))
def JgK:St:=⟨(0,.d (.int .u8 p0_))::[],[]⟩
def JgL:St:=⟨(2,.ptr 0 0)::(3,.osl 1 6 0 (l_1.length))::[],[some (.box [.d (.int .i64 0),.d (.int .u8 0),.osl 2 6 0 (List.length ([]:List Av))]),some (.arr 6 (l_1.map Al)),some (.arr 6 (List.map Al ([]:List Av)))]⟩
variable {p0_ l_1}
theorem V3 {z} (H:I2 n p0_=some z):AG Try.prog 14 [.d (.int .u8 p0_)] (.agg [.d (.int .i64 z.Modes),.d (.int .u8 z.Accept),.own 6 (z.Rules.map Al)]):=by
 refine fO 121 (JgK p0_) Try.func14 (sr (ck 1 (en (sr (bx H λ r73 h217 H=>cl [List.length r73] (Rr h217) (ck 13 (en (sj (λ (x:(List Av))=>JgL x) (λ (x:(List Av))=>Fr n x) z ?_ (λ hFR2_Base_J1=>?_)))))))))
 ·intro l_1 H
  exact sr (ck 3 (en (re (by cases H;exact pr (rO (v:=.agg [.d (.int .i64 1),.d (.int .u8 1),.osl 1 6 0 (l_1.length)]) [1] (a1 (c1 vd (c1 vd (c1 vo (c0))))))))))
 refine sr (ck 2 (en (bk 0 (sr (ck 2 (en (cn H (λ H=>?_) (λ H=>?_))))))))
 ·exact sr (ck 2 (bx H λ r74 h218 H=>ca false (Gx h218) (sF (ck 1 (bx H λ r75 h219 H=>ca false (AP h219) (sF (ck 1 (bx H λ r76 h220 H=>ca false (AP h220) (sF (ck 1 (bx H λ r77 h221 H=>ca false (AP h221) (ck 1 (bx H λ l22 h222 H=>sp (BP Al 1 6 h222) (ck 1 (en (sr (ck 3 (en (re (qR (qr (by cases H;exact pr (rO (v:=.agg [.d (.int .i64 2),.d (.int .u8 3),.osl 7 6 0 (l22.length)]) [7] (a1 (c1 vd (c1 vd (c1 vo (c0))))))))))))))))))))))))))))
 ·refine sr (ck 2 (en (cn H (λ H=>?_) (λ H=>?_))))
  ·exact sr (ck 2 (bx H λ r78 h223 H=>ca false (Gx h223) (sF (ck 1 (bx H λ r79 h224 H=>ca false (AP h224) (sF (ck 1 (bx H λ r80 h225 H=>ca false (AP h225) (ck 1 (bx H λ l23 h226 H=>sp (BP Al 1 6 h226) (ck 1 (en (sr (ck 3 (en (re (qR (qr (by cases H;exact pr (rO (v:=.agg [.d (.int .i64 2),.d (.int .u8 1),.osl 7 6 0 (l23.length)]) [7] (a1 (c1 vd (c1 vd (c1 vo (c0)))))))))))))))))))))))))
  ·refine sr (ck 2 (en (cn H (λ H=>?_) (λ H=>?_))))
   ·exact rz (ck 1 (sF (ck 1 (bx H λ r81 h227 H=>ca false (AP h227) (sF (ck 1 (bx H λ r82 h228 H=>ca false (AP h228) (sF (ck 1 (bx H λ r83 h229 H=>ca false (AP h229) (ck 1 (bx H λ l24 h230 H=>sp (BP Al 1 6 h230) (ck 1 (ae (qN (qs (tr (B8 0 2 6 (by kernel_rfl)) (sg [2,3])) (hFR2_Base_J1 l24 H)))))))))))))))))
   ·refine sr (ck 2 (en (cn H (λ H=>?_) (λ H=>?_))))
    ·exact rz (ck 1 (sF (ck 1 (bx H λ r84 h231 H=>ca false (AP h231) (ck 1 (bx H λ l25 h232 H=>sp (BP Al 1 6 h232) (ck 1 (ae (qN (qs (tr (B8 0 2 6 (by kernel_rfl)) (sg [2,3])) (hFR2_Base_J1 l25 H)))))))))))
    ·refine sr (ck 2 (en (cn H (λ H=>?_) (λ H=>?_))))
     ·exact sr (sF (ck 1 (bx H λ r85 h233 H=>ca false (AP h233) (sF (ck 1 (bx H λ r86 h234 H=>ca false (AP h234) (ck 4 (en (sr (ck 4 (en (rz (ck 3 (sF (ck 1 (bx H λ r87 h235 H=>ca false (AP h235) (ck 1 (bx H λ l26 h236 H=>sp (BP Al 1 6 h236) (ck 1 (ae (qN (qs (tr (B8 0 2 6 (by kernel_rfl)) (sg [2,3])) (hFR2_Base_J1 l26 H)))))))))))))))))))))))
     ·refine sr (ck 2 (en (cn H (λ H=>?_) (λ H=>?_))))
      ·exact sr (ck 2 (bx H λ r88 h237 H=>ca false (Gx h237) (sF (ck 1 (bx H λ r89 h238 H=>ca false (AP h238) (sF (ck 1 (bx H λ r90 h239 H=>ca false (AP h239) (ck 1 (bx H λ l27 h240 H=>sp (BP Al 1 6 h240) (ck 1 (en (sr (ck 3 (en (re (qR (qr (by cases H;exact pr (rO (v:=.agg [.d (.int .i64 2),.d (.int .u8 1),.osl 7 6 0 (l27.length)]) [7] (a1 (c1 vd (c1 vd (c1 vo (c0)))))))))))))))))))))))))
      ·refine sr (ck 2 (en (cn H (λ H=>?_) (λ H=>?_))))
       ·exact rz (ck 1 (sF (ck 1 (bx H λ r91 h241 H=>ca false (AP h241) (sF (ck 1 (bx H λ r92 h242 H=>ca false (AP h242) (sF (ck 1 (bx H λ r93 h243 H=>ca false (AP h243) (ck 1 (bx H λ l28 h244 H=>sp (BP Al 1 6 h244) (ck 1 (ae (qN (qs (tr (B8 0 2 6 (by kernel_rfl)) (sg [2,3])) (hFR2_Base_J1 l28 H)))))))))))))))))
       ·exact sk (qN (qs (tr (B8 0 2 6 (by kernel_rfl)) (sg [2,3])) (hFR2_Base_J1 r73 H)))
end
section
variable (p0_:Dd) (p1_:Int) (out_1:Av) (i_5:Int) (out_2:Av) (out_3:Av) (i_6:Int) (out_4:Av)
def JgM:St:=⟨(0,.agg [.d (.sl (p0_.P.map eU8)),.d (.sl (p0_.C.map eU8)),.d (.int .u8 p0_.L),.d (.int .u8 p0_.R),.d (.int .u8 p0_.W.a0),.d (.int .u8 p0_.W.a1)])::(1,.d (.int .i64 p1_))::[],[]⟩
def JgN:St:=⟨(2,.ptr 0 0)::(4,.ptr 1 0)::(5,.d (.str [97,98,99,65,66,49,50,45,46]))::(7,.ptr 2 0)::(8,.d (.int .i64 i_5))::[],[some (.box (Nt p0_)),some (.box [.d (.str []),.osl 3 1 0 (List.length ([]:List Int)),.d (.int .u8 0),.d (.int .u8 0),.d (.int .i64 0),.d (.int .i64 0)]),some (.box (Qb out_1 (.osl 4 1 0 (out_1.Cells.length)))),some (.arr 1 (List.map eU8 ([]:List Int))),some (.arr 1 (out_1.Cells.map eU8))]⟩
def JgO:St:=⟨(2,.ptr 0 0)::(4,.ptr 1 0)::(7,.ptr 2 0)::[],[some (.box (Nt p0_)),some (.box [.d (.str []),.osl 3 1 0 (List.length ([]:List Int)),.d (.int .u8 0),.d (.int .u8 0),.d (.int .i64 0),.d (.int .i64 0)]),some (.box (Qb out_2 (.osl 4 1 0 (out_2.Cells.length)))),some (.arr 1 (List.map eU8 ([]:List Int))),some (.arr 1 (out_2.Cells.map eU8))]⟩
def Sr:Av->Ex->St->Prop:=xX 0 0 (λ (y:Av)=>JgO p0_ y)
def L7:(Av×Int)->St:=(λ (x:(Av×Int))=>JgN p0_ x.1 x.2)
def JgP:St:=⟨(2,.ptr 0 0)::(4,.ptr 1 0)::(7,.ptr 2 0)::(10,.osl 3 1 0 (List.length [1,3,9,5,7,32,44,60]))::(11,.d (.int .i64 i_6))::[],[some (.box (Nt p0_)),some (.box [.d (.str []),.osl 4 1 0 (List.length ([]:List Int)),.d (.int .u8 0),.d (.int .u8 0),.d (.int .i64 0),.d (.int .i64 0)]),some (.box (Qb out_3 (.osl 5 1 0 (out_3.Cells.length)))),some (.arr 1 (List.map eU8 [1,3,9,5,7,32,44,60])),some (.arr 1 (List.map eU8 ([]:List Int))),some (.arr 1 (out_3.Cells.map eU8))]⟩
def JgQ:St:=⟨(4,.ptr 0 0)::(7,.ptr 1 0)::[],[some (.box [.d (.str []),.osl 2 1 0 (List.length ([]:List Int)),.d (.int .u8 0),.d (.int .u8 0),.d (.int .i64 0),.d (.int .i64 0)]),some (.box (Qb out_4 (.osl 3 1 0 (out_4.Cells.length)))),some (.arr 1 (List.map eU8 ([]:List Int))),some (.arr 1 (out_4.Cells.map eU8))]⟩
def Ss:Av->Ex->St->Prop:=xX 0 2 (λ (y:Av)=>JgQ y)
def L8:(Av×Int)->St:=(λ (x:(Av×Int))=>JgP p0_ x.1 x.2)
variable {p0_ p1_ out_1 i_5 out_2 out_3 i_6 out_4}
theorem Rs (x:(Av×Int)) (z:((Av×Int)⊕Av)) (H:Fs n p0_ x.1 x.2=some z):WP (cxk 101 0) (Az Try.f15) [1,1,1,0,1,0,0] (AA 0 (L7 p0_) (Sr p0_) z) (L7 p0_ x):=by
 obtain ⟨out_1,i_5⟩:=x
 refine sq (sr (ck 3 (sp (AL eU8 p0_.P) (ck 3 (gc 1 (decide (i_5<((p0_.P.length:Nat):Int))) (pA (en (cn H (λ H=>?_) (λ H=>?_)))))))))
 ·exact sk (qz (sq (bk 1 (sr (ck 3 (bx H λ x80 h249 H=>sp (Ar eU8 h249) (ck 4 (en (rz (ck 6 (bx H λ s4 h250 H=>sp (P8 h250) (bx H λ s5 h251 H=>sp (JaM h251) (ck 2 (ae (qN (qz (rz (ck 3 (ae (by cases H;exact og (sg [2,4,5,7,8])))))))))))))))))))))
 ·exact ex 0 (qx (by cases H;exact xo rfl (sg [2,4,7])))
theorem Rt (x:(Av×Int)) (z:((Av×Int)⊕Av)) (H:Ft n p0_ x.1 x.2=some z):WP (cxk 101 0) (Az Try.f15) [1,1,1,1,1,1,0,1,0,0] (AA 0 (L8 p0_) (Ss) z) (L8 p0_ x):=by
 obtain ⟨out_3,i_6⟩:=x
 refine sq (sr (ck 3 (sp (AL eU8 p0_.C) (ck 3 (gc 1 (decide (i_6<((p0_.C.length:Nat):Int))) (pA (en (cn H (λ H=>?_) (λ H=>?_)))))))))
 ·exact sk (qz (sq (bk 3 (rz (ck 6 (bx H λ x82 h254 H=>sp (Ar eU8 h254) (ck 2 (bx H λ x83 h255 H=>sp (Ax 3 1 h255) (sp (B9 eU8 3 0 (ty 97) h255) (ck 1 (bx H λ l29 h256 H=>sp (BP eU8 5 1 h256) (ck 2 (ae (qN (qz (rz (ck 3 (ae (by cases H;exact og (sg [2,4,7,10,11]))))))))))))))))))))
 ·exact ex 2 (qx (by cases H;exact xo rfl (sg [4,7])))
theorem V4 {z} (H:Nn n p0_ p1_=some z):AG Try.prog 15 [.agg (Nt p0_),.d (.int .i64 p1_)] (.agg [.d (.str z.Print),.own 1 (z.Cells.map eU8),.d (.int .u8 z.Left),.d (.int .u8 z.Right),.d (.int .i64 z.From),.d (.int .i64 z.To)]):=by
 exact fO 101 (JgM p0_ p1_) Try.func15 (sr (ck 2 (en (sr (ck 3 (en (sr (ck 4 (bx H λ x78 h245 H=>sp (Ax 2 1 h245) (sp (B9 eU8 2 0 (ty 5) h245) (ck 4 (bx H λ x79 h246 H=>sp (Ax 2 1 h246) (sp (B9 eU8 2 0 (ty 5) h246) (ck 5 (bx H λ gd8 h247 H=>so (Q5 h247) (ck 5 (bx H λ gd9 h248 H=>so (Q5 h248) (ck 3 (en (sq (sr (ck 1 (en (bk 0 (bx H λ y53 h252 H=>lX Rs h252 (tr (tr (B8 1 1 1 (by kernel_rfl)) (B8 3 1 1 (by kernel_rfl))) (sg [2,4,5,7,8])) rfl λ s hE42=>qH (qs (hE42) (sr (ck 2 (en (sr (ck 5 (bx H λ x81 h253 H=>sp (Ax 5 1 h253) (sp (B9 eU8 5 0 (ty 97) h253) (ck 3 (en (sq (sr (ck 1 (en (bk 2 (bx H λ y54 h257 H=>lX Rt h257 (sg [2,4,7,10,11]) rfl λ s hE43=>qH (qs (hE43) (sr (ck 2 (en (re (by cases H;exact pr (rO (v:=.agg [.d (.str z.Print),.osl 3 1 0 (z.Cells.length),.d (.int .u8 z.Left),.d (.int .u8 z.Right),.d (.int .i64 z.From),.d (.int .i64 z.To)]) [3] (a1 (c1 vd (c1 vo (c1 vd (c1 vd (c1 vd (c1 vd (c0))))))))))))))))))))))))))))))))))))))))))))))))))))))))
end
section
variable (p0_:Int)
def JgR:St:=⟨(0,.d (.int .u8 p0_))::[],[]⟩
variable {p0_}
theorem OF {z} (H:IH n p0_=some z):AG Try.prog 44 [.d (.int .u8 p0_)] (.d (.bool z)):=by
 exact fO 11 (JgR p0_) Try.func44 (sr (ck 1 (en (sr (ck 5 (gc 2 (decide (Cr .u8 p0_ 127>=32)) (pA (ck 1 (en (re (by cases H;exact pr rd)))))))))))
end
section
variable (p0_:(List UInt8)) (i_7:Int)
def JgS:St:=⟨(0,.d (.str p0_))::[],[]⟩
def JgT:St:=⟨(0,.d (.str p0_))::(4,.d (.int .i64 i_7))::[],[]⟩
def JgU:St:=⟨(0,.d (.str p0_))::[],[]⟩
def Su:(Unit⊕(Int×Int))->Ex->St->Prop:=xS (xX 0 0 (λ (y:Unit)=>JgU p0_)) (xR ty Try.f21 (λ (y:(Int×Int))=>.tup [.d (.int .i64 y.1),.d (.int .i64 y.2)]))
def L9:Int->St:=(λ (x:Int)=>JgT p0_ x)
variable {p0_ i_7}
theorem K8 (x:Int) (z:(Int⊕(Unit⊕(Int×Int)))) (H:Ih n p0_ x=some z):WP (cxk 19 0) (Az Try.f21) [1,0,1,0,0] (AA 0 (L9 p0_) (Su p0_) z) (L9 p0_ x):=by
 revert H
 generalize x=i_7
 intro H
 refine sq (sr (ck 4 (en (cn H (λ H=>?_) (λ H=>?_)))))
 ·refine sk (qz (sq (bk 1 (sr (ck 2 (bx H λ b6 h258 H=>sp (GE h258) (bx H λ r94 h259 H=>ca false (OF h259) (ck 1 (en (cn H (λ H=>?_) (λ H=>?_)))))))))))
  ·exact sr (ck 3 (en (re (qR (qr (by cases H;exact ro rfl rdT))))))
  ·exact sk (qN (qz (rz (ck 3 (ae (by cases H;exact og (sg [0,4])))))))
 ·exact ex 0 (qx (by cases H;exact xo rfl (sg [0])))
theorem Ps {z} (H:K0 n p0_=some z):AG Try.prog 21 [.d (.str p0_)] (.tup [.d (.int .i64 z.1),.d (.int .i64 z.2)]):=by
 refine fO 19 (JgS p0_) Try.func21 (sr (ck 2 (en (sq (sr (ck 1 (en (bk 0 (bx H λ y55 h260 H=>?_)))))))))
 rcases y55 with y56|y57
 ·exact lX K8 h260 (sg [0,4]) rfl λ s hE44=>qH (qs (hE44) (sr (ck 4 (en (re (by cases H;exact pr rdT))))))
 ·exact lR K8 h260 (sg [0,4]) rfl λ s hE45=>qR (qr (by cases H;exact pr hE45))
end
section
variable (p0_:(List UInt8))
def JgV:St:=⟨(0,.d (.str p0_))::[],[]⟩
variable {p0_}
theorem Sv {z} (H:JL n p0_=some z):AG Try.prog 65 [.d (.str p0_)] (.d (.bool z)):=by
 exact fO 12 (JgV p0_) Try.func65 (sr (ck 1 (en (sr (ck 1 (bx H λ r95 h261 H=>ca false (Ps h261) (ck 5 (en (sr (ck 3 (en (re (by cases H;exact pr rd)))))))))))))
end
section
variable (p0_:Int)
def JgW:St:=⟨(0,.d (.int .u8 p0_))::[],[]⟩
variable {p0_}
theorem Uh {z} (H:Oo n p0_=some z):AG Try.prog 66 [.d (.int .u8 p0_)] (.d (.bool z)):=by
 exact fO 6 (JgW p0_) Try.func66 (sr (ck 1 (en (sr (ck 4 (en (re (by cases H;exact pr rd))))))))
end
end Go.AI
end
section
namespace Go.AI
open Go.Proofs
set_option maxRecDepth 10000
variable {n:Nat}
section
variable (p0_:Av) (p1_:Int) (space_1:Bool) (i_8:Int) (space_2:Bool) (y58:Bool) (blank_1:Bool) (i_9:Int) (blank_2:Bool)
def JgX:St:=⟨(0,.agg [.d (.str p0_.Print),.d (.sl (p0_.Cells.map eU8)),.d (.int .u8 p0_.Left),.d (.int .u8 p0_.Right),.d (.int .i64 p0_.From),.d (.int .i64 p0_.To)])::(1,.d (.int .i64 p1_))::[],[]⟩
def JgY:St:=⟨(2,.ptr 0 0)::(5,.d (.bool space_1))::(6,.d (.bool false))::(7,.d (.int .i64 i_8))::[],[some (.box (K2 p0_))]⟩
def JgZ:St:=⟨(2,.ptr 0 0)::(5,.d (.bool space_2))::(6,.d (.bool false))::[],[some (.box (K2 p0_))]⟩
def Ru:Bool->Ex->St->Prop:=xX 0 0 (λ (y:Bool)=>JgZ p0_ y)
def K9:(Bool×Int)->St:=(λ (x:(Bool×Int))=>JgY p0_ x.1 x.2)
def Jg0:St:=⟨(2,.ptr 0 0)::(5,.d (.bool y58))::(6,.d (.bool blank_1))::(8,.d (.int .i64 i_9))::[],[some (.box (K2 p0_))]⟩
def Jg1:St:=⟨(2,.ptr 0 0)::(5,.d (.bool y58))::(6,.d (.bool blank_2))::[],[some (.box (K2 p0_))]⟩
def Rv:(Bool⊕Bool)->Ex->St->Prop:=xS (xX 0 2 (λ (y:Bool)=>Jg1 p0_ y58 y)) (xR ty Try.f52 (λ (y:Bool)=>.d (.bool y)))
def La:(Bool×Int)->St:=(λ (x:(Bool×Int))=>Jg0 p0_ y58 x.1 x.2)
variable {p0_ p1_ space_1 i_8 space_2 y58 blank_1 i_9 blank_2}
theorem PL (x:(Bool×Int)) (z:((Bool×Int)⊕Bool)) (H:Ey n p0_ x.1 x.2=some z):WP (cxk 125 0) (Az Try.f52) [1,1,1,1,0,1,0,0] (AA 0 (K9 p0_) (Ru p0_) z) (K9 p0_ x):=by
 obtain ⟨space_1,i_8⟩:=x
 refine sq (sr (ck 5 (en (cn H (λ H=>?_) (λ H=>?_)))))
 ·exact sk (qz (sq (bk 1 (rz (ck 3 (gc 1 (!space_1) (ck 1 (bx H λ b7 h263 H=>sE (λ hg=>GE (Bu h263 hg)) (bx H λ r97 h264 H=>cG false (leZ) rfl (λ hg=>Uh (Bu h264 hg)) (Or.inl rfl) (CM (λ hh=>hh) (FZ)) rfl (pO (ck 1 (ae (qN (qz (rz (ck 3 (ae (by cases H;exact og (sg [2,5,6,7])))))))))))))))))))
 ·exact ex 0 (qx (by cases H;exact xo rfl (sg [2,5,6])))
theorem Kr (x:(Bool×Int)) (z:((Bool×Int)⊕(Bool⊕Bool))) (H:Dx n p0_ y58 x.1 x.2=some z):WP (cxk 125 0) (Az Try.f52) [1,1,1,1,1,0,1,0,0] (AA 0 (La p0_ y58) (Rv p0_ y58) z) (La p0_ y58 x):=by
 obtain ⟨blank_1,i_9⟩:=x
 refine sq (sr (ck 3 (sp (AL eU8 p0_.Cells) (ck 1 (en (cn H (λ H=>?_) (λ H=>?_)))))))
 ·refine sk (qz (sq (bk 3 (sq (sr (ck 3 (bx H λ x84 h266 H=>sp (Ar eU8 h266) (ck 2 (en (cn H (λ H=>?_) (λ H=>?_)))))))))))
  ·exact sr (ck 1 (en (re (qr (qR (qr (by cases H;exact ro rfl rd)))))))
  ·exact sk (qz (rz (ck 3 (gc 1 (!blank_1) (ck 1 (bx H λ x85 h267 H=>sE (λ hg=>Ar eU8 (Bu h267 hg)) (gc 2 (!blank_1) (pO (ck 1 (ae (qN (qz (rz (ck 3 (ae (by cases H;exact og (sg [2,5,6,8])))))))))))))))))
 ·exact ex 2 (qx (by cases H;exact xo rfl (sg [2,5,6])))
theorem Ui {z} (H:LB n p0_ p1_=some z):AG Try.prog 52 [.agg (K2 p0_),.d (.int .i64 p1_)] (.d (.bool z)):=by
 refine fO 125 (JgX p0_ p1_) Try.func52 (sr (ck 2 (en (sq (sr (ck 2 (bx H λ r96 h262 H=>ca false (Sv h262) (ck 3 (gc 3 (!(!r96)) (pO (ck 2 (gc 1 (!((!r96)||(decide (((p0_.Print.length:Nat):Int)>4)))) (sE (g:=(!((!r96)||(decide (((p0_.Print.length:Nat):Int)>4))))) (λ hg=>AL eU8 p0_.Cells) (gc 1 (!((!r96)||(decide (((p0_.Print.length:Nat):Int)>4)))) (pO (ck 2 (gc 1 (!(((!r96)||(decide (((p0_.Print.length:Nat):Int)>4)))||(decide (((p0_.Cells.length:Nat):Int)<1)))) (sE (g:=(!(((!r96)||(decide (((p0_.Print.length:Nat):Int)>4)))||(decide (((p0_.Cells.length:Nat):Int)<1))))) (λ hg=>AL eU8 p0_.Cells) (gc 1 (!(((!r96)||(decide (((p0_.Print.length:Nat):Int)>4)))||(decide (((p0_.Cells.length:Nat):Int)<1)))) (pO (en (cn H (λ H=>?_) (λ H=>?_)))))))))))))))))))))))
 ·exact sr (ck 1 (en (re (qr (by cases H;exact pr rd)))))
 ·refine sk (qz (sq (sr (ck 5 (gc 2 (!(decide (p0_.Left<1))) (pO (ck 2 (gc 2 (!((decide (p0_.Left<1))||(decide (p0_.Left>63)))) (pO (ck 2 (gc 2 (!(((decide (p0_.Left<1))||(decide (p0_.Left>63)))||(decide (p0_.Right<1)))) (pO (ck 2 (gc 2 (!((((decide (p0_.Left<1))||(decide (p0_.Left>63)))||(decide (p0_.Right<1)))||(decide (p0_.Right>63)))) (pO (ck 2 (gc 1 (!(((((decide (p0_.Left<1))||(decide (p0_.Left>63)))||(decide (p0_.Right<1)))||(decide (p0_.Right>63)))||(decide (p0_.From<0)))) (ck 1 (gc 1 (!(((((decide (p0_.Left<1))||(decide (p0_.Left>63)))||(decide (p0_.Right<1)))||(decide (p0_.Right>63)))||(decide (p0_.From<0)))) (pO (ck 2 (gc 2 (!((((((decide (p0_.Left<1))||(decide (p0_.Left>63)))||(decide (p0_.Right<1)))||(decide (p0_.Right>63)))||(decide (p0_.From<0)))||(decide (p0_.From>=p1_)))) (pO (ck 2 (gc 1 (!(((((((decide (p0_.Left<1))||(decide (p0_.Left>63)))||(decide (p0_.Right<1)))||(decide (p0_.Right>63)))||(decide (p0_.From<0)))||(decide (p0_.From>=p1_)))||(decide (p0_.To<0)))) (ck 1 (gc 1 (!(((((((decide (p0_.Left<1))||(decide (p0_.Left>63)))||(decide (p0_.Right<1)))||(decide (p0_.Right>63)))||(decide (p0_.From<0)))||(decide (p0_.From>=p1_)))||(decide (p0_.To<0)))) (pO (en (cn H (λ H=>?_) (λ H=>?_)))))))))))))))))))))))))))))))
  ·exact sr (ck 1 (en (re (qr (by cases H;exact pr rd)))))
  ·refine sk (qz (sr (ck 2 (en (sq (sr (ck 1 (en (bk 0 (bx H λ y58 h265 H=>lX PL h265 (sg [2,5,6,7]) rfl λ s hE46=>qH (qs (hE46) (sq (sr (ck 1 (en (bk 2 (bx H λ y59 h268 H=>?_)))))))))))))))))
   rcases y59 with y60|y61
   ·refine lX Kr h268 (sg [2,5,6,8]) rfl λ s hE47=>qH (qs (hE47) (sq (sr (ck 2 (en (cn H (λ H=>?_) (λ H=>?_)))))))
    ·exact sr (ck 3 (en (re (qr (by cases H;exact pr rd)))))
    ·exact sk (qz (sr (ck 6 (gc 1 (((p0_.Print.length:Nat):Int)==1) (sE (g:=(((p0_.Print.length:Nat):Int)==1)) (λ hg=>AL eU8 p0_.Cells) (gc 1 (((p0_.Print.length:Nat):Int)==1) (pA (ck 2 (pA (ck 1 (en (re (by cases H;exact pr rd)))))))))))))
   ·exact lR Kr h268 (sg [2,5,6,8]) rfl λ s hE48=>qR (qr (by cases H;exact pr hE48))
end
section
variable (p0_:(List Int)) (p1_:(List Int)) (i_10:Int)
def Jg2:St:=⟨(0,.d (.sl (p0_.map eU8)))::(1,.d (.sl (p1_.map eU8)))::[],[]⟩
def Jg3:St:=⟨(0,.d (.sl (p0_.map eU8)))::(1,.d (.sl (p1_.map eU8)))::(5,.d (.int .i64 i_10))::[],[]⟩
def Jg4:St:=⟨[],[]⟩
def MD:(Unit⊕Bool)->Ex->St->Prop:=xS (xX 0 0 (λ (y:Unit)=>Jg4)) (xR ty Try.f67 (λ (y:Bool)=>.d (.bool y)))
def HS:Int->St:=(λ (x:Int)=>Jg3 p0_ p1_ x)
variable {p0_ p1_ i_10}
theorem Hd (x:Int) (z:(Int⊕(Unit⊕Bool))) (H:Ez n p0_ p1_ x=some z):WP (cxk 26 0) (Az Try.f67) [1,1,0,1,0,0] (AA 0 (HS p0_ p1_) (MD) z) (HS p0_ p1_ x):=by
 revert H
 generalize x=i_10
 intro H
 refine sq (sr (ck 2 (sp (AL eU8 p0_) (ck 1 (en (cn H (λ H=>?_) (λ H=>?_)))))))
 ·refine sk (qz (sq (bk 1 (sr (ck 2 (bx H λ x86 h269 H=>sp (Ar eU8 h269) (ck 3 (bx H λ x87 h270 H=>sp (Ar eU8 h270) (ck 2 (en (cn H (λ H=>?_) (λ H=>?_))))))))))))
  ·exact sr (ck 1 (en (re (qR (qr (by cases H;exact ro rfl rd))))))
  ·exact sk (qN (qz (rz (ck 3 (ae (by cases H;exact og (sg [0,1,5])))))))
 ·exact ex 0 (qx (by cases H;exact xo rfl (sg [])))
theorem OG {z} (H:GH n p0_ p1_=some z):AG Try.prog 67 [.d (.sl (p0_.map eU8)),.d (.sl (p1_.map eU8))] (.d (.bool z)):=by
 refine fO 26 (Jg2 p0_ p1_) Try.func67 (sr (ck 1 (en (sq (sr (ck 1 (sp (AL eU8 p0_) (ck 1 (sp (AL eU8 p1_) (ck 1 (en (cn H (λ H=>?_) (λ H=>?_)))))))))))))
 ·exact sr (ck 1 (en (re (qr (by cases H;exact pr rd)))))
 ·refine sk (qz (sq (sr (ck 1 (en (bk 0 (bx H λ y62 h271 H=>?_)))))))
  rcases y62 with y63|y64
  ·exact lX Hd h271 (sg [0,1,5]) rfl λ s hE49=>qH (qs (hE49) (sr (ck 1 (en (re (by cases H;exact pr rd))))))
  ·exact lR Hd h271 (sg [0,1,5]) rfl λ s hE50=>qR (qr (by cases H;exact pr hE50))
end
section
variable (p0_:Av) (p1_:Av)
def Jg5:St:=⟨(0,.agg [.d (.str p0_.Print),.d (.sl (p0_.Cells.map eU8)),.d (.int .u8 p0_.Left),.d (.int .u8 p0_.Right),.d (.int .i64 p0_.From),.d (.int .i64 p0_.To)])::(1,.agg [.d (.str p1_.Print),.d (.sl (p1_.Cells.map eU8)),.d (.int .u8 p1_.Left),.d (.int .u8 p1_.Right),.d (.int .i64 p1_.From),.d (.int .i64 p1_.To)])::[],[]⟩
variable {p0_ p1_}
theorem PM {z} (H:Hi n p0_ p1_=some z):AG Try.prog 53 [.agg (K2 p0_),.agg (K2 p1_)] (.d (.bool z)):=by
 exact fO 45 (Jg5 p0_ p1_) Try.func53 (sr (ck 3 (en (sr (ck 7 (gc 1 (p0_.Print==p1_.Print) (ck 1 (gc 1 (p0_.Print==p1_.Print) (bx H λ r98 h272 H=>cG false (leZ) rfl (λ hg=>OG (Bu h272 hg)) (Or.inl rfl) (CM (λ hh=>hh) (CM (λ hh=>hh) (FZ))) rfl (pA (ck 2 (gc 1 ((p0_.Print==p1_.Print)&&r98) (ck 1 (gc 2 ((p0_.Print==p1_.Print)&&r98) (pA (ck 2 (gc 1 (((p0_.Print==p1_.Print)&&r98)&&(p0_.Left==p1_.Left)) (ck 1 (gc 2 (((p0_.Print==p1_.Print)&&r98)&&(p0_.Left==p1_.Left)) (pA (ck 2 (gc 1 ((((p0_.Print==p1_.Print)&&r98)&&(p0_.Left==p1_.Left))&&(p0_.Right==p1_.Right)) (ck 1 (gc 2 ((((p0_.Print==p1_.Print)&&r98)&&(p0_.Left==p1_.Left))&&(p0_.Right==p1_.Right)) (pA (ck 2 (gc 1 (((((p0_.Print==p1_.Print)&&r98)&&(p0_.Left==p1_.Left))&&(p0_.Right==p1_.Right))&&(p0_.From==p1_.From)) (ck 1 (gc 2 (((((p0_.Print==p1_.Print)&&r98)&&(p0_.Left==p1_.Left))&&(p0_.Right==p1_.Right))&&(p0_.From==p1_.From)) (pA (ck 1 (en (re (by cases H;exact pr rd))))))))))))))))))))))))))))))))))
end
section
variable (p0_:Ab) (i_11:Int) (k_2:Int)
def Jg6:St:=⟨(0,.agg [.d (.int .i64 p0_.Modes),.d (.int .u8 p0_.Accept),.d (.sl (p0_.Rules.map Al))])::[],[]⟩
def Jg7:St:=⟨(1,.ptr 0 0)::(4,.d (.int .i64 i_11))::[],[some (.box (Am p0_))]⟩
def Jg8:St:=⟨[],[]⟩
def Jg9:St:=⟨(1,.ptr 0 0)::(4,.d (.int .i64 i_11))::(5,.d (.int .i64 k_2))::[],[some (.box (Am p0_))]⟩
def Jha:St:=⟨(1,.ptr 0 0)::(4,.d (.int .i64 i_11))::[],[some (.box (Am p0_))]⟩
def Rw:(Unit⊕(Int×Int))->Ex->St->Prop:=xS (xX 0 2 (λ (y:Unit)=>Jha p0_ i_11)) (xR ty Try.f33 (λ (y:(Int×Int))=>.tup [.d (.int .i64 y.1),.d (.int .i64 y.2)]))
def Lc:Int->St:=(λ (x:Int)=>Jg9 p0_ i_11 x)
def Rx:(Unit⊕(Int×Int))->Ex->St->Prop:=xS (xX 0 0 (λ (y:Unit)=>Jg8)) (xR ty Try.f33 (λ (y:(Int×Int))=>.tup [.d (.int .i64 y.1),.d (.int .i64 y.2)]))
def Ld:Int->St:=(λ (x:Int)=>Jg7 p0_ x)
variable {p0_ i_11 k_2}
theorem Ks (x:Int) (z:(Int⊕(Unit⊕(Int×Int)))) (H:FM n p0_ i_11 x=some z):WP (cxk 74 0) (Az Try.f33) [1,1,0,1,0,0,1,0,0,1,1,0,0] (AA 0 (Lc p0_ i_11) (Rw p0_ i_11) z) (Lc p0_ i_11 x):=by
 revert H
 generalize x=k_2
 intro H
 refine sq (sr (ck 3 (en (cn H (λ H=>?_) (λ H=>?_)))))
 ·refine sk (qz (sq (bk 3 (sr (ck 3 (bx H λ x89 h276 H=>sp (Ar Al h276) (ck 4 (bx H λ x90 h277 H=>sp (Ar Al h277) (ck 1 (bx H λ r100 h278 H=>ca false (PM h278) (en (cn H (λ H=>?_) (λ H=>?_)))))))))))))
  ·exact sr (ck 3 (en (re (qR (qr (by cases H;exact ro rfl rdT))))))
  ·exact sk (qN (qz (rz (ck 3 (ae (by cases H;exact og (sg [1,4,5])))))))
 ·exact ex 2 (qx (by cases H;exact xo rfl (sg [1,4])))
theorem Kt (x:Int) (z:(Int⊕(Unit⊕(Int×Int)))) (H:FN n p0_ x=some z):WP (cxk 74 0) (Az Try.f33) [1,1,0,1,0,0] (AA 0 (Ld p0_) (Rx) z) (Ld p0_ x):=by
 revert H
 generalize x=i_11
 intro H
 refine sq (sr (ck 3 (sp (AL Al p0_.Rules) (ck 1 (en (cn H (λ H=>?_) (λ H=>?_)))))))
 ·refine sk (qz (sq (bk 1 (sq (sr (ck 3 (bx H λ x88 h274 H=>sp (Ar Al h274) (ck 3 (bx H λ r99 h275 H=>ca false (Ui h275) (ck 1 (en (cn H (λ H=>?_) (λ H=>?_)))))))))))))
  ·exact sr (ck 3 (en (re (qr (qR (qr (by cases H;exact ro rfl rdT)))))))
  ·refine sk (qz (sr (ck 1 (en (bk 2 (bx H λ y65 h279 H=>?_))))))
   rcases y65 with y66|y67
   ·exact lX Ks h279 (sg [1,4,5]) rfl λ s hE51=>qH (qN (qs (hE51) (rz (ck 3 (ae (by cases H;exact og (sg [1,4])))))))
   ·exact lR Ks h279 (sg [1,4,5]) rfl λ s hE52=>qR (qR (qr (by cases H;exact ro rfl hE52)))
 ·exact ex 0 (qx (by cases H;exact xo rfl (sg [])))
theorem Uj {z} (H:LC n p0_=some z):AG Try.prog 33 [.agg (Am p0_)] (.tup [.d (.int .i64 z.1),.d (.int .i64 z.2)]):=by
 refine fO 74 (Jg6 p0_) Try.func33 (sr (ck 3 (en (sq (sr (ck 5 (gc 2 (!(decide (p0_.Modes<1))) (pO (ck 2 (gc 2 (!((decide (p0_.Modes<1))||(decide (p0_.Modes>8)))) (pO (ck 2 (gc 2 (!(((decide (p0_.Modes<1))||(decide (p0_.Modes>8)))||(p0_.Accept==0))) (ck 1 (gc 1 (!(((decide (p0_.Modes<1))||(decide (p0_.Modes>8)))||(p0_.Accept==0))) (bx H λ gd10 h273 H=>soG (λ hg=>HG (Bu h273 hg)) (CM (λ hh=>hh) (FZ)) (gc 1 (!(((decide (p0_.Modes<1))||(decide (p0_.Modes>8)))||(p0_.Accept==0))) (pO (ck 2 (gc 1 (!((((decide (p0_.Modes<1))||(decide (p0_.Modes>8)))||(p0_.Accept==0))||(decide (IntKind.i64.wrap p0_.Accept>=QU .i64 1 p0_.Modes)))) (sE (g:=(!((((decide (p0_.Modes<1))||(decide (p0_.Modes>8)))||(p0_.Accept==0))||(decide (IntKind.i64.wrap p0_.Accept>=QU .i64 1 p0_.Modes))))) (λ hg=>AL Al p0_.Rules) (gc 1 (!((((decide (p0_.Modes<1))||(decide (p0_.Modes>8)))||(p0_.Accept==0))||(decide (IntKind.i64.wrap p0_.Accept>=QU .i64 1 p0_.Modes)))) (pO (ck 2 (gc 1 (!(((((decide (p0_.Modes<1))||(decide (p0_.Modes>8)))||(p0_.Accept==0))||(decide (IntKind.i64.wrap p0_.Accept>=QU .i64 1 p0_.Modes)))||(decide (((p0_.Rules.length:Nat):Int)<1)))) (sE (g:=(!(((((decide (p0_.Modes<1))||(decide (p0_.Modes>8)))||(p0_.Accept==0))||(decide (IntKind.i64.wrap p0_.Accept>=QU .i64 1 p0_.Modes)))||(decide (((p0_.Rules.length:Nat):Int)<1))))) (λ hg=>AL Al p0_.Rules) (gc 1 (!(((((decide (p0_.Modes<1))||(decide (p0_.Modes>8)))||(p0_.Accept==0))||(decide (IntKind.i64.wrap p0_.Accept>=QU .i64 1 p0_.Modes)))||(decide (((p0_.Rules.length:Nat):Int)<1)))) (pO (en (cn H (λ H=>?_) (λ H=>?_)))))))))))))))))))))))))))))))
 ·exact sr (ck 2 (en (re (qr (by cases H;exact pr rdT)))))
 ·refine sk (qz (sq (sr (ck 1 (en (bk 0 (bx H λ y68 h280 H=>?_)))))))
  rcases y68 with y69|y70
  ·exact lX Kt h280 (sg [1,4]) rfl λ s hE53=>qH (qs (hE53) (sr (ck 2 (en (re (by cases H;exact pr rdT))))))
  ·exact lR Kt h280 (sg [1,4]) rfl λ s hE54=>qR (qr (by cases H;exact pr hE54))
end
section
variable (p0_:Ab)
def Jhb:St:=⟨(0,.agg [.d (.int .i64 p0_.Modes),.d (.int .u8 p0_.Accept),.d (.sl (p0_.Rules.map Al))])::[],[]⟩
variable {p0_}
theorem Uk {z} (H:Oq n p0_=some z):AG Try.prog 16 [.agg (Am p0_)] (.d (.bool z)):=by
 exact fO 12 (Jhb p0_) Try.func16 (sr (ck 2 (en (sr (ck 1 (bx H λ r101 h281 H=>ca false (Uj h281) (ck 5 (en (sr (ck 3 (en (re (by cases H;exact pr rd)))))))))))))
end
section
variable (p0_:KZ) (r102:Ab) (t_3:Ab) (i_12:Int) (t_4:Ab) (t_5:Ab) (t_6:Ab) (i_13:Int) (t_7:Ab) (t_8:Ab) (t_9:Ab)
def JjA:St:=⟨(0,.agg [.d (.int .u8 p0_.Base),.d (.int .u8 p0_.Drop),.d (.sl (p0_.More.map FA))])::[],[]⟩
def JjB:St:=⟨(1,.ptr 0 0)::(2,.ptr 1 0)::(3,.ptr 2 0)::(4,.osl 3 6 0 (r102.Rules.length))::(5,.d (.int .i64 i_12))::[],[some (.box (Xp p0_)),some (.box [.d (.int .i64 0),.d (.int .u8 0),.osl 4 6 0 (List.length ([]:List Av))]),some (.box (FP t_3 (.osl 5 6 0 (t_3.Rules.length)))),some (.arr 6 (r102.Rules.map Al)),some (.arr 6 (List.map Al ([]:List Av))),some (.arr 6 (t_3.Rules.map Al))]⟩
def JjC:St:=⟨(1,.ptr 0 0)::(2,.ptr 1 0)::(3,.ptr 2 0)::(4,.osl 3 6 0 (r102.Rules.length))::[],[some (.box (Xp p0_)),some (.box [.d (.int .i64 0),.d (.int .u8 0),.osl 4 6 0 (List.length ([]:List Av))]),some (.box (FP t_4 (.osl 5 6 0 (t_4.Rules.length)))),some (.arr 6 (r102.Rules.map Al)),some (.arr 6 (List.map Al ([]:List Av))),some (.arr 6 (t_4.Rules.map Al))]⟩
def JjD:St:=⟨(1,.ptr 0 0)::(2,.ptr 1 0)::(3,.ptr 2 0)::(4,.osl 3 6 0 (r102.Rules.length))::(5,.d (.int .i64 i_12))::[],[some (.box (Xp p0_)),some (.box [.d (.int .i64 0),.d (.int .u8 0),.osl 4 6 0 (List.length ([]:List Av))]),some (.box (FP t_5 (.osl 5 6 0 (t_5.Rules.length)))),some (.arr 6 (r102.Rules.map Al)),some (.arr 6 (List.map Al ([]:List Av))),some (.arr 6 (t_5.Rules.map Al))]⟩
def Sw:Ab->Ex->St->Prop:=xX 0 0 (λ (y:Ab)=>JjC p0_ r102 y)
def Ma:(Ab×Int)->St:=(λ (x:(Ab×Int))=>JjB p0_ r102 x.1 x.2)
def JjE:St:=⟨(1,.ptr 0 0)::(2,.ptr 1 0)::(3,.ptr 2 0)::(4,.osl 3 6 0 (r102.Rules.length))::(6,.d (.int .i64 i_13))::[],[some (.box (Xp p0_)),some (.box [.d (.int .i64 0),.d (.int .u8 0),.osl 4 6 0 (List.length ([]:List Av))]),some (.box (FP t_6 (.osl 5 6 0 (t_6.Rules.length)))),some (.arr 6 (r102.Rules.map Al)),some (.arr 6 (List.map Al ([]:List Av))),some (.arr 6 (t_6.Rules.map Al))]⟩
def JjF:St:=⟨(2,.ptr 0 0)::(3,.ptr 1 0)::(4,.osl 2 6 0 (r102.Rules.length))::[],[some (.box [.d (.int .i64 0),.d (.int .u8 0),.osl 3 6 0 (List.length ([]:List Av))]),some (.box (FP t_7 (.osl 4 6 0 (t_7.Rules.length)))),some (.arr 6 (r102.Rules.map Al)),some (.arr 6 (List.map Al ([]:List Av))),some (.arr 6 (t_7.Rules.map Al))]⟩
def JjG:St:=⟨(1,.ptr 0 0)::(2,.ptr 1 0)::(3,.ptr 2 0)::(4,.osl 3 6 0 (r102.Rules.length))::(6,.d (.int .i64 i_13))::[],[some (.box (Xp p0_)),some (.box [.d (.int .i64 0),.d (.int .u8 0),.osl 4 6 0 (List.length ([]:List Av))]),some (.box (FP t_8 (.osl 5 6 0 (t_8.Rules.length)))),some (.arr 6 (r102.Rules.map Al)),some (.arr 6 (List.map Al ([]:List Av))),some (.arr 6 (t_8.Rules.map Al))]⟩
def Sx:Ab->Ex->St->Prop:=xX 0 2 (λ (y:Ab)=>JjF r102 y)
def Mb:(Ab×Int)->St:=(λ (x:(Ab×Int))=>JjE p0_ r102 x.1 x.2)
def JjH:St:=⟨(2,.ptr 0 0)::(3,.ptr 1 0)::[],[some (.box [.d (.int .i64 0),.d (.int .u8 0),.osl 2 6 0 (List.length ([]:List Av))]),some (.box (FP t_9 (.osl 3 6 0 (t_9.Rules.length)))),some (.arr 6 (List.map Al ([]:List Av))),some (.arr 6 (t_9.Rules.map Al))]⟩
variable {p0_ r102 t_3 i_12 t_4 t_5 t_6 i_13 t_7 t_8 t_9}
theorem Ry (x:(Ab×Int)) (z:((Ab×Int)⊕Ab)) (H:Fu n p0_ r102 x.1 x.2=some z):WP (cxk 77 0) (Az Try.f6) [1,1,1,1,0,1,0,0] (AA 0 (Ma p0_ r102) (Sw p0_ r102) z) (Ma p0_ r102 x):=by
 obtain ⟨t_3,i_12⟩:=x
 refine sq (sr (ck 4 (en (cn H (λ H=>?_) (λ H=>?_)))))
 ·refine sk (qz (sj (λ (x:Ab)=>JjD p0_ r102 i_12 x) (λ (x:Ab)=>GP n i_12 x) z ?_ (λ hFR2_Made_J1=>?_)))
  ·intro t_5 H
   exact rz (ck 3 (ae (by cases H;exact og (sg [1,2,3,4,5]))))
  refine bk 1 (sr (ck 3 (bx H λ gd11 h283 H=>so (HG h283) (ck 2 (en (cn H (λ H=>?_) (λ H=>?_)))))))
  ·exact rz (ck 4 (bx H λ x91 h284 H=>sp (Ax 3 6 h284) (sp (B9 Al 3 0 (ty 48) h284) (ck 1 (bx H λ l30 h285 H=>sp (BP Al 5 6 h285) (ck 2 (ae (qN (qs (sg [1,2,3,4,5]) (hFR2_Made_J1 ({ Modes:=t_3.Modes,Accept:=t_3.Accept,Rules:=l30 }:Ab) H))))))))))
  ·exact sk (qN (qs (sg [1,2,3,4,5]) (hFR2_Made_J1 t_3 H)))
 ·exact ex 0 (qx (by cases H;exact xo rfl (sg [1,2,3,4])))
theorem Rz (x:(Ab×Int)) (z:((Ab×Int)⊕Ab)) (H:Fv n p0_ r102 x.1 x.2=some z):WP (cxk 77 0) (Az Try.f6) [1,1,1,1,1,0,1,0,0] (AA 0 (Mb p0_ r102) (Sx r102) z) (Mb p0_ r102 x):=by
 obtain ⟨t_6,i_13⟩:=x
 refine sq (sr (ck 3 (sp (AL FA p0_.More) (ck 3 (gc 1 (decide (i_13<((p0_.More.length:Nat):Int))) (pA (en (cn H (λ H=>?_) (λ H=>?_)))))))))
 ·refine sk (qz (sj (λ (x:Ab)=>JjG p0_ r102 i_13 x) (λ (x:Ab)=>GQ n i_13 x) z ?_ (λ hFR2_Made_J2=>?_)))
  ·intro t_8 H
   exact rz (ck 3 (ae (by cases H;exact og (sg [1,2,3,4,6]))))
  refine bk 3 (sr (ck 5 (bx H λ x92 h287 H=>sp (Ar FA h287) (ck 3 (bx H λ r103 h288 H=>ca false (V4 h288) (ck 1 (bx H λ l31 h289 H=>sp (BP Al 5 6 h289) (ck 2 (en (sr (ck 1 (bx H λ r104 h290 H=>cb (ks:=[7]) (obl:=[(0+List.length l31,List.length (l31.map Al))]) false (leK leM (leZ)) (EI (JjX (EI rfl (EI rfl (EI X4 rfl)))) rfl) (Uk h290) (Or.inr trivial) rfl (ck 1 (en (cn H (λ H=>?_) (λ H=>?_))))))))))))))))
  ·exact rz (ck 6 (bx H λ l32 h291 H=>sp (Jfm 7 6 h291) (ck 2 (ae (qN (qs (tr (Jdm (k:=7) (sz:=6) 2 2 (l32.map Al) (l32.length) (by kernel_rfl) (Jdr h291) (Jfe (enc:=Al) h291) (Jds h291)) (sg [1,2,3,4,6])) (hFR2_Made_J2 ({ Modes:=t_6.Modes,Accept:=t_6.Accept,Rules:=l32 }:Ab) H)))))))
  ·exact sk (qN (qs (sg [1,2,3,4,6]) (hFR2_Made_J2 ({ Modes:=t_6.Modes,Accept:=t_6.Accept,Rules:=l31 }:Ab) H)))
 ·exact ex 2 (qx (by cases H;exact xo rfl (sg [2,3,4])))
theorem V5 {z} (H:I3 n p0_=some z):AG Try.prog 6 [.agg (Xp p0_)] (.agg [.d (.int .i64 z.Modes),.d (.int .u8 z.Accept),.own 6 (z.Rules.map Al)]):=by
 refine fO 77 (JjA p0_) Try.func6 (sr (ck 2 (en (sr (ck 2 (bx H λ r102 h282 H=>cl [List.length r102.Rules] (V3 h282) (ck 2 (en (sr (ck 3 (en (sr (ck 3 (en (sq (sr (ck 1 (en (bk 0 (bx H λ y71 h286 H=>lX Ry h286 (tr (B8 1 2 6 (by kernel_rfl)) (sg [1,2,3,4,5])) rfl λ s hE55=>qH (qs (hE55) (sq (sr (ck 1 (en (bk 2 (bx H λ y72 h292 H=>lX Rz h292 (sg [1,2,3,4,6]) rfl λ s hE56=>qH (qs (hE56) (sj (λ (x:Ab)=>JjH x) (λ (x:Ab)=>GS n x) z ?_ (λ hFR2_Made_J3=>?_))))))))))))))))))))))))))))))
 ·intro t_9 H
  exact sr (ck 2 (en (re (by cases H;exact pr (rO (v:=.agg [.d (.int .i64 z.Modes),.d (.int .u8 z.Accept),.osl 3 6 0 (z.Rules.length)]) [3] (a1 (c1 vd (c1 vd (c1 vo (c0))))))))))
 refine sr (ck 4 (en (cn H (λ H=>?_) (λ H=>?_))))
 ·exact rz (ck 3 (ae (qs (sg [2,3]) (hFR2_Made_J3 ({ Modes:=y72.Modes,Accept:=y72.Accept,Rules:=r102.Rules }:Ab) H))))
 ·exact sk (qs (sg [2,3]) (hFR2_Made_J3 y72 H))
end
def Jhc:St:=⟨[],[]⟩
theorem Ho {z} (H:I4 n=some z):AG Try.prog 25 [] (.agg [.d (.int .i64 z.Mode),.d (.int .i64 z.Last),.d (.int .u8 z.Need)]):=by
 exact fO 2 Jhc Try.func25 (sr (ck 1 (en (sr (ck 2 (en (re (by cases H;exact pr rd))))))))
section
variable (p0_:Int) (p1_:Int)
def Jhd:St:=⟨(0,.d (.int .u8 p0_))::(1,.d (.int .i64 p1_))::[],[]⟩
variable {p0_ p1_}
theorem HT {z} (H:Ii n p0_ p1_=some z):AG Try.prog 48 [.d (.int .u8 p0_),.d (.int .i64 p1_)] (.d (.bool z)):=by
 exact fO 18 (Jhd p0_ p1_) Try.func48 (sr (ck 1 (en (sr (ck 4 (gc 1 (decide (p1_>=0)) (pA (ck 3 (bx H λ gd13 h298 H=>soG (λ hg=>HG (Bu h298 hg)) (CM (λ hh=>hh) (CM (λ hh=>hh) (FZ))) (gc 2 ((decide (p1_>=0))&&(decide (p1_<8))) (pA (ck 1 (en (re (by cases H;exact pr rd)))))))))))))))
end
section
variable (p0_:Int)
def Jhe:St:=⟨(0,.d (.int .u8 p0_))::[],[]⟩
variable {p0_}
theorem JY {z} (H:Hz n p0_=some z):AG Try.prog 47 [.d (.int .u8 p0_)] (.d (.int .i64 z)):=by
 refine fO 26 (Jhe p0_) Try.func47 (sr (ck 1 (en (sr (ck 3 (en (sq (sr (ck 4 (gc 1 (decide (Cr .u8 p0_ 127>=97)) (pA (en (cn H (λ H=>?_) (λ H=>?_))))))))))))))
 ·exact sr (ck 1 (en (re (qr (by cases H;exact pr rd)))))
 ·refine sk (qz (sq (sr (ck 4 (gc 1 (decide (Cr .u8 p0_ 127>=65)) (pA (en (cn H (λ H=>?_) (λ H=>?_)))))))))
  ·exact sr (ck 1 (en (re (qr (by cases H;exact pr rd)))))
  ·refine sk (qz (sq (sr (ck 4 (gc 1 (decide (Cr .u8 p0_ 127>=48)) (pA (en (cn H (λ H=>?_) (λ H=>?_)))))))))
   ·exact sr (ck 1 (en (re (qr (by cases H;exact pr rd)))))
   ·refine sk (qz (sq (sr (ck 2 (en (cn H (λ H=>?_) (λ H=>?_)))))))
    ·exact sr (ck 1 (en (re (qr (by cases H;exact pr rd)))))
    ·exact sk (qz (sr (ck 1 (en (re (by cases H;exact pr rd))))))
end
section
variable (p0_:Ab) (p1_:Aa) (p2_:Int)
def Jhf:St:=⟨(0,.agg [.d (.int .i64 p0_.Modes),.d (.int .u8 p0_.Accept),.d (.sl (p0_.Rules.map Al))])::(1,.agg [.d (.int .i64 p1_.Mode),.d (.int .i64 p1_.Last),.d (.int .u8 p1_.Need)])::(2,.d (.int .i64 p2_))::[],[]⟩
variable {p0_ p1_ p2_}
theorem CJ {z} (H:Dh n p0_ p1_ p2_=some z):AG Try.prog 28 [.agg (Am p0_),.agg (FQ p1_),.d (.int .i64 p2_)] (.tup [.agg [.d (.int .i64 z.1.Mode),.d (.int .i64 z.1.Last),.d (.int .u8 z.1.Need)],.d (.bool z.2)]):=by
 refine fO 87 (Jhf p0_ p1_ p2_) Try.func28 (sr (ck 4 (en (sq (sr (ck 5 (gc 1 (!(decide (p2_<0))) (sE (g:=(!(decide (p2_<0)))) (λ hg=>AL Al p0_.Rules) (gc 1 (!(decide (p2_<0))) (pO (en (cn H (λ H=>?_) (λ H=>?_)))))))))))))
 ·exact sr (ck 3 (en (re (qr (by cases H;exact pr rdT)))))
 ·refine sk (qz (sr (ck 3 (bx H λ x95 h299 H=>sp (Ar Al h299) (ck 3 (en (sq (sr (ck 7 (gc 1 (!(x95.From != p1_.Mode)) (ck 1 (gc 1 (!(x95.From != p1_.Mode)) (bx H λ r105 h300 H=>cG false (leZ) rfl (λ hg=>HT (Bu h300 hg)) (Or.inl rfl) (CM (λ hh=>hh) (CM (λ hh=>hh) (FZ))) rfl (gc 1 (!(x95.From != p1_.Mode)) (pO (en (cn H (λ H=>?_) (λ H=>?_))))))))))))))))))
  ·exact sr (ck 3 (en (re (qr (by cases H;exact pr rdT)))))
  ·refine sk (qz (sq (sr (ck 6 (gc 1 (((x95.Print.length:Nat):Int)==0) (ck 1 (gc 3 (((x95.Print.length:Nat):Int)==0) (pA (en (cn H (λ H=>?_) (λ H=>?_)))))))))))
   ·exact sr (ck 3 (en (re (qr (by cases H;exact pr rdT)))))
   ·refine sk (qz (sq (sr (ck 4 (en (cn H (λ H=>?_) (λ H=>?_)))))))
    ·exact sr (ck 12 (en (re (qr (by cases H;exact pr rdT)))))
    ·refine sk (qz (sq (sr (ck 4 (bx H λ b8 h301 H=>sp (GE h301) (bx H λ r106 h302 H=>ca false (JY h302) (bx H λ r107 h303 H=>ca false (HT h303) (ck 1 (en (cn H (λ H=>?_) (λ H=>?_)))))))))))
     ·exact sr (ck 3 (en (re (qr (by cases H;exact pr rdT)))))
     ·exact sk (qz (sr (ck 8 (bx H λ b9 h304 H=>sp (GE h304) (bx H λ r108 h305 H=>ca false (JY h305) (ck 5 (en (re (by cases H;exact pr rdT)))))))))
end
section
variable (p0_:(List Aa)) (p1_:Aa) (i_15:Int)
def Jhg:St:=⟨(0,.d (.sl (p0_.map Ah)))::(1,.agg [.d (.int .i64 p1_.Mode),.d (.int .i64 p1_.Last),.d (.int .u8 p1_.Need)])::[],[]⟩
def Jhh:St:=⟨(0,.d (.sl (p0_.map Ah)))::(3,.ptr 0 0)::(5,.d (.int .i64 i_15))::[],[some (.box (FQ p1_))]⟩
def Jhi:St:=⟨[],[]⟩
def RB:(Unit⊕Int)->Ex->St->Prop:=xS (xX 0 0 (λ (y:Unit)=>Jhi)) (xR ty Try.f26 (λ (y:Int)=>.d (.int .i64 y)))
def Lf:Int->St:=(λ (x:Int)=>Jhh p0_ p1_ x)
variable {p0_ p1_ i_15}
theorem Ku (x:Int) (z:(Int⊕(Unit⊕Int))) (H:Dy n p0_ p1_ x=some z):WP (cxk 19 0) (Az Try.f26) [1,0,1,0,0] (AA 0 (Lf p0_ p1_) (RB) z) (Lf p0_ p1_ x):=by
 revert H
 generalize x=i_15
 intro H
 refine sq (sr (ck 2 (sp (AL Ah p0_) (ck 1 (en (cn H (λ H=>?_) (λ H=>?_)))))))
 ·refine sk (qz (sq (bk 1 (sr (ck 2 (bx H λ x96 h306 H=>sp (Ar Ah h306) (ck 3 (en (cn H (λ H=>?_) (λ H=>?_))))))))))
  ·exact sr (ck 2 (en (re (qR (qr (by cases H;exact ro rfl rd))))))
  ·exact sk (qN (qz (rz (ck 3 (ae (by cases H;exact og (sg [0,3,5])))))))
 ·exact ex 0 (qx (by cases H;exact xo rfl (sg [])))
theorem Cs {z} (H:CZ n p0_ p1_=some z):AG Try.prog 26 [.d (.sl (p0_.map Ah)),.agg (FQ p1_)] (.d (.int .i64 z)):=by
 refine fO 19 (Jhg p0_ p1_) Try.func26 (sr (ck 2 (en (sq (sr (ck 1 (en (bk 0 (bx H λ y74 h307 H=>?_)))))))))
 rcases y74 with y75|y76
 ·exact lX Ku h307 (sg [0,3,5]) rfl λ s hE58=>qH (qs (hE58) (sr (ck 1 (en (re (by cases H;exact pr rd))))))
 ·exact lR Ku h307 (sg [0,3,5]) rfl λ s hE59=>qR (qr (by cases H;exact pr hE59))
end
section
variable (p0_:Ab) (out_8:(List Aa)) (i_16:Int) (out_9:(List Aa)) (out_10:(List Aa)) (k_3:Int) (out_11:(List Aa)) (out_12:(List Aa))
def Jhj:St:=⟨(0,.agg [.d (.int .i64 p0_.Modes),.d (.int .u8 p0_.Accept),.d (.sl (p0_.Rules.map Al))])::[],[]⟩
def Jhk:St:=⟨(1,.ptr 0 0)::(3,.osl 1 3 0 (out_8.length))::(4,.d (.int .i64 i_16))::[],[some (.box (Am p0_)),some (.arr 3 (out_8.map Ah))]⟩
def Jhl:St:=⟨(3,.osl 0 3 0 (out_9.length))::[],[some (.arr 3 (out_9.map Ah))]⟩
def Jhm:St:=⟨(1,.ptr 0 0)::(3,.osl 1 3 0 (out_10.length))::(4,.d (.int .i64 i_16))::(5,.d (.int .i64 k_3))::[],[some (.box (Am p0_)),some (.arr 3 (out_10.map Ah))]⟩
def Jhn:St:=⟨(1,.ptr 0 0)::(3,.osl 1 3 0 (out_11.length))::(4,.d (.int .i64 i_16))::[],[some (.box (Am p0_)),some (.arr 3 (out_11.map Ah))]⟩
def Jho:St:=⟨(1,.ptr 0 0)::(3,.osl 1 3 0 (out_12.length))::(4,.d (.int .i64 i_16))::(5,.d (.int .i64 k_3))::[],[some (.box (Am p0_)),some (.arr 3 (out_12.map Ah))]⟩
def PN:(List Aa)->Ex->St->Prop:=xX 0 2 (λ (y:(List Aa))=>Jhn p0_ i_16 y)
def Kv:((List Aa)×Int)->St:=(λ (x:((List Aa)×Int))=>Jhm p0_ i_16 x.1 x.2)
def PO:(List Aa)->Ex->St->Prop:=xX 0 0 (λ (y:(List Aa))=>Jhl y)
def Kw:((List Aa)×Int)->St:=(λ (x:((List Aa)×Int))=>Jhk p0_ x.1 x.2)
variable {p0_ out_8 i_16 out_9 out_10 k_3 out_11 out_12}
theorem OH (x:((List Aa)×Int)) (z:(((List Aa)×Int)⊕(List Aa))) (H:DS n p0_ i_16 x.1 x.2=some z):WP (cxk 45 0) (Az Try.f24) [1,1,0,1,0,0,1,0,0,1,0,0] (AA 0 (Kv p0_ i_16) (PN p0_ i_16) z) (Kv p0_ i_16 x):=by
 obtain ⟨out_10,k_3⟩:=x
 refine sq (sr (ck 3 (sp (AL Al p0_.Rules) (ck 1 (en (cn H (λ H=>?_) (λ H=>?_)))))))
 ·refine sk (qz (sj (λ (x:(List Aa))=>Jho p0_ i_16 k_3 x) (λ (x:(List Aa))=>EV n k_3 x) z ?_ (λ hFR3_States_J1=>?_)))
  ·intro out_12 H
   exact rz (ck 3 (ae (by cases H;exact og (sg [1,3,4,5]))))
  refine bk 3 (sr (ck 3 (bx H λ x97 h309 H=>sp (Ax 1 3 h309) (sp (B9 Ah 1 0 (ty 80) h309) (ck 1 (bx H λ r110 h310 H=>ca false (CJ h310) (ck 6 (en (sr (ck 4 (bx H λ r111 h311 H=>cG (ks:=[1]) (obl:=[(0+List.length out_10,List.length (out_10.map Ah))]) false (leK leM (leZ)) (EI X4 (EI rfl rfl)) (λ hg=>Cs (Bu h311 hg)) (Or.inr trivial) (CM (λ hh=>hh) (CM (λ hh=>hh) (FZ))) rfl (gc 1 r110.2 (pA (en (cn H (λ H=>?_) (λ H=>?_))))))))))))))))
  ·exact rz (ck 3 (bx H λ l33 h312 H=>sp (BP Ah 1 3 h312) (ck 1 (ae (qN (qs (sg [1,3,4,5]) (hFR3_States_J1 l33 H)))))))
  ·exact sk (qN (qs (sg [1,3,4,5]) (hFR3_States_J1 out_10 H)))
 ·exact ex 2 (qx (by cases H;exact xo rfl (sg [1,3,4])))
theorem OI (x:((List Aa)×Int)) (z:(((List Aa)×Int)⊕(List Aa))) (H:EW n p0_ x.1 x.2=some z):WP (cxk 45 0) (Az Try.f24) [1,1,0,1,0,0] (AA 0 (Kw p0_) (PO) z) (Kw p0_ x):=by
 obtain ⟨out_8,i_16⟩:=x
 refine sq (sr (ck 4 (en (cn H (λ H=>?_) (λ H=>?_)))))
 ·exact sk (qz (sq (bk 1 (sr (ck 1 (en (bk 2 (bx H λ y77 h313 H=>lX OH h313 (sg [1,3,4,5]) rfl λ s hE60=>qH (qN (qs (hE60) (rz (ck 3 (ae (by cases H;exact og (sg [1,3,4])))))))))))))))
 ·exact ex 0 (qx (by cases H;exact xo rfl (sg [3])))
theorem DT {z} (H:Dz n p0_=some z):AG Try.prog 24 [.agg (Am p0_)] (.own 3 (z.map Ah)):=by
 exact fO 45 (Jhj p0_) Try.func24 (sr (ck 2 (en (sr (bx H λ r109 h308 H=>ca false (Ho h308) (ck 2 (en (sq (sr (ck 1 (en (bk 0 (bx H λ y78 h314 H=>lX OI h314 (sg [1,3,4]) rfl λ s hE61=>qH (qs (hE61) (sr (ck 2 (en (re (by cases H;exact pr (rO (v:=.osl 0 3 0 (z.length)) [0] (ao vo)))))))))))))))))))))
end
section
variable (p0_:Ab) (p1_:Aa)
def Jhp:St:=⟨(0,.agg [.d (.int .i64 p0_.Modes),.d (.int .u8 p0_.Accept),.d (.sl (p0_.Rules.map Al))])::(1,.agg [.d (.int .i64 p1_.Mode),.d (.int .i64 p1_.Last),.d (.int .u8 p1_.Need)])::[],[]⟩
variable {p0_ p1_}
theorem Ek {z} (H:Dp n p0_ p1_=some z):AG Try.prog 43 [.agg (Am p0_),.agg (FQ p1_)] (.d (.bool z)):=by
 exact fO 27 (Jhp p0_ p1_) Try.func43 (sr (ck 3 (en (sr (ck 5 (gc 1 (decide (p1_.Mode>=0)) (ck 1 (gc 2 (decide (p1_.Mode>=0)) (pA (ck 2 (gc 1 ((decide (p1_.Mode>=0))&&(decide (p1_.Mode<p0_.Modes))) (ck 1 (gc 1 ((decide (p1_.Mode>=0))&&(decide (p1_.Mode<p0_.Modes))) (bx H λ r112 h315 H=>cG false (leZ) rfl (λ hg=>HT (Bu h315 hg)) (Or.inl rfl) (CM (λ hh=>hh) (CM (λ hh=>hh) (FZ))) rfl (pA (ck 2 (gc 1 (((decide (p1_.Mode>=0))&&(decide (p1_.Mode<p0_.Modes)))&&r112) (bx H λ r113 h316 H=>cG false (leZ) rfl (λ hg=>HT (Bu h316 hg)) (Or.inl rfl) (CM (λ hh=>hh) (FZ)) rfl (pA (ck 1 (en (re (by cases H;exact pr rd)))))))))))))))))))))))
end
section
variable (p0_:(List UInt8)) (p1_:Int) (p2_:(List UInt8))
def Jhq:St:=⟨(0,.d (.str p0_))::(1,.d (.int .i64 p1_))::(2,.d (.str p2_))::[],[]⟩
variable {p0_ p1_ p2_}
theorem Mc {z} (H:HM n p0_ p1_ p2_=some z):AG Try.prog 46 [.d (.str p0_),.d (.int .i64 p1_),.d (.str p2_)] (.d (.bool z)):=by
 exact fO 25 (Jhq p0_ p1_ p2_) Try.func46 (sr (ck 1 (en (sr (ck 12 (gc 2 (decide (Ay .i64 p1_ ((p2_.length:Nat):Int)<=((p0_.length:Nat):Int))) (bx H λ s7 h317 H=>sE (λ hg=>P8 (Bu h317 hg)) (ck 1 (gc 1 (decide (Ay .i64 p1_ ((p2_.length:Nat):Int)<=((p0_.length:Nat):Int))) (pA (ck 1 (en (re (by cases H;exact pr rd))))))))))))))
end
section
variable (p0_:Ab) (p1_:AO) (p2_:Int) (p3_:(List (List Int)))
def Jhr:St:=⟨(0,.agg [.d (.int .i64 p0_.Modes),.d (.int .u8 p0_.Accept),.d (.sl (p0_.Rules.map Al))])::(1,.agg [.d (.str p1_.S),.d (.int .i64 p1_.I),.d (.int .i64 p1_.State.Mode),.d (.int .i64 p1_.State.Last),.d (.int .u8 p1_.State.Need),.d (.sl (p1_.L.map Ah))])::(2,.d (.int .i64 p2_))::(3,.d (.sl (p3_.map (eL Af))))::[],[]⟩
variable {p0_ p1_ p2_ p3_}
theorem NA {z} (H:Gu n p0_ p1_ p2_ p3_=some z):AG Try.prog 27 [.agg (Am p0_),.agg (D7 p1_),.d (.int .i64 p2_),.d (.sl (p3_.map (eL Af)))] (.d (.int .i64 z)):=by
 refine fO 66 (Jhr p0_ p1_ p2_ p3_) Try.func27 (sr (ck 3 (en (sr (ck 4 (bx H λ r114 h318 H=>ca false (CJ h318) (ck 6 (en (sq (sr (ck 4 (gc 1 (!(!r114.2)) (ck 1 (gc 1 (!(!r114.2)) (ck 1 (gc 1 (!(!r114.2)) (ck 1 (bx H λ x98 h319 H=>sE (λ hg=>Ar Al (Bu h319 hg)) (gc 2 (!(!r114.2)) (bx H λ r115 h320 H=>cG false (leZ) rfl (λ hg=>Mc (Bu h320 hg)) (Or.inl rfl) (CM (λ hh=>hh) (CM (λ hh=>hh) (CM (λ hh=>hh) (FZ)))) rfl (gc 1 (!(!r114.2)) (pO (en (cn H (λ H=>?_) (λ H=>?_)))))))))))))))))))))))))
 ·exact sr (ck 1 (en (re (qr (by cases H;exact pr rd)))))
 ·refine sk (qz (sr (ck 6 (bx H λ x99 h321 H=>sp (Ar Al h321) (ck 4 (bx H λ x100 h322 H=>sp (Ar (eL Af) h322) (ck 4 (bx H λ r116 h323 H=>ca false (Cs h323) (bx H λ x101 h324 H=>sp (Ar Af h324) (ck 2 (en (sq (sr (ck 2 (en (cn H (λ H=>?_) (λ H=>?_)))))))))))))))))
  ·exact sr (ck 1 (en (re (qr (by cases H;exact pr rd)))))
  ·exact sk (qz (sr (ck 4 (bx H λ x102 h325 H=>sp (Ar Al h325) (ck 2 (sp (AL eU8 x102.Cells) (ck 2 (en (re (by cases H;exact pr rd))))))))))
end
section
variable (p0_:Int) (p1_:Int)
def Jhs:St:=⟨(0,.d (.int .i64 p0_))::(1,.d (.int .i64 p1_))::[],[]⟩
variable {p0_ p1_}
theorem Ul {z} (H:LD n p0_ p1_=some z):AG Try.prog 45 [.d (.int .i64 p0_),.d (.int .i64 p1_)] (.d (.int .i64 z)):=by
 refine fO 18 (Jhs p0_ p1_) Try.func45 (sr (ck 1 (en (sq (sr (ck 4 (gc 2 (!(decide (p0_<0))) (ck 2 (gc 1 ((!(decide (p0_<0)))&&(decide (p1_>=0))) (pG (g:=(!(decide (p0_<0)))) (v:=.d (.bool ((decide (p1_>=0))&&(decide (p1_<p0_))))) (λ hg=>IY (c:=.gv (!(decide (p0_<0))) (.d (.bool (decide (p1_>=0))))) (a:=.gv ((!(decide (p0_<0)))&&(decide (p1_>=0))) (.d (.bool (decide (p1_<p0_))))) (b:=.d (.bool false)) rfl rfl rfl ((λ hh=>hh) hg) (λ ht=>by rw [(λ hh=>hh) hg,ht];rfl) trivial) (pO (en (cn H (λ H=>?_) (λ H=>?_))))))))))))))
 ·exact sr (ck 2 (en (re (qr (by cases H;exact pr rd)))))
 ·exact sk (qz (sr (ck 2 (en (re (by cases H;exact pr rd))))))
end
section
variable (p0_:Ab) (p1_:(List UInt8)) (r117:(List Aa)) (out_13:(List (List Int))) (i_17:Int) (out_14:(List (List Int))) (out_15:(List (List Int))) (k_4:Int) (out_16:(List (List Int))) (out_17:(List (List Int))) (out_18:(List (List Int))) (changed_1:Bool) (out_19:(List (List Int))) (out_20:(List (List Int))) (changed_2:Bool) (k_5:Int) (out_21:(List (List Int))) (changed_3:Bool) (out_22:(List (List Int))) (changed_4:Bool) (r_3:Int) (out_23:(List (List Int))) (changed_5:Bool) (out_24:(List (List Int))) (changed_6:Bool)
def Jht:St:=⟨(0,.agg [.d (.int .i64 p0_.Modes),.d (.int .u8 p0_.Accept),.d (.sl (p0_.Rules.map Al))])::(1,.d (.str p1_))::[],[]⟩
def Jhu:St:=⟨(1,.d (.str p1_))::(2,.ptr 0 0)::(5,.d (.sl (r117.map Ah)))::(6,.osl 1 1 0 (out_13.length))::(7,.d (.int .i64 i_17))::[],[some (.box (Am p0_)),some (.narr 1 (out_13.map (nL 1 Af)))]⟩
def Jhv:St:=⟨(6,.osl 0 1 0 (out_14.length))::[],[some (.narr 1 (out_14.map (nL 1 Af)))]⟩
def Jhw:St:=⟨(1,.d (.str p1_))::(2,.ptr 0 0)::(5,.d (.sl (r117.map Ah)))::(6,.osl 1 1 0 (out_15.length))::(7,.d (.int .i64 i_17))::(8,.d (.int .i64 k_4))::[],[some (.box (Am p0_)),some (.narr 1 (out_15.map (nL 1 Af)))]⟩
def Jhx:St:=⟨(1,.d (.str p1_))::(2,.ptr 0 0)::(5,.d (.sl (r117.map Ah)))::(6,.osl 1 1 0 (out_16.length))::(7,.d (.int .i64 i_17))::[],[some (.box (Am p0_)),some (.narr 1 (out_16.map (nL 1 Af)))]⟩
def Jhy:St:=⟨(1,.d (.str p1_))::(2,.ptr 0 0)::(5,.d (.sl (r117.map Ah)))::(6,.osl 1 1 0 (out_17.length))::(7,.d (.int .i64 i_17))::(8,.d (.int .i64 k_4))::[],[some (.box (Am p0_)),some (.narr 1 (out_17.map (nL 1 Af)))]⟩
def NB:(List (List Int))->Ex->St->Prop:=xX 0 2 (λ (y:(List (List Int)))=>Jhx p0_ p1_ r117 i_17 y)
def Iu:((List (List Int))×Int)->St:=(λ (x:((List (List Int))×Int))=>Jhw p0_ p1_ r117 i_17 x.1 x.2)
def Jhz:St:=⟨(1,.d (.str p1_))::(2,.ptr 0 0)::(5,.d (.sl (r117.map Ah)))::(6,.osl 1 1 0 (out_18.length))::(7,.d (.int .i64 i_17))::(9,.d (.bool changed_1))::[],[some (.box (Am p0_)),some (.narr 1 (out_18.map (nL 1 Af)))]⟩
def JhA:St:=⟨(1,.d (.str p1_))::(2,.ptr 0 0)::(5,.d (.sl (r117.map Ah)))::(6,.osl 1 1 0 (out_19.length))::(7,.d (.int .i64 i_17))::[],[some (.box (Am p0_)),some (.narr 1 (out_19.map (nL 1 Af)))]⟩
def JhB:St:=⟨(1,.d (.str p1_))::(2,.ptr 0 0)::(5,.d (.sl (r117.map Ah)))::(6,.osl 1 1 0 (out_20.length))::(7,.d (.int .i64 i_17))::(9,.d (.bool changed_2))::(10,.d (.int .i64 k_5))::[],[some (.box (Am p0_)),some (.narr 1 (out_20.map (nL 1 Af)))]⟩
def JdN:St:=⟨(1,.d (.str p1_))::(2,.ptr 0 0)::(5,.d (.sl (r117.map Ah)))::(6,.osl 1 1 0 (out_21.length))::(7,.d (.int .i64 i_17))::(9,.d (.bool changed_3))::[],[some (.box (Am p0_)),some (.narr 1 (out_21.map (nL 1 Af)))]⟩
def JdO:St:=⟨(1,.d (.str p1_))::(2,.ptr 0 0)::(5,.d (.sl (r117.map Ah)))::(6,.osl 1 1 0 (out_22.length))::(7,.d (.int .i64 i_17))::(9,.d (.bool changed_4))::(10,.d (.int .i64 k_5))::(11,.d (.int .i64 r_3))::[],[some (.box (Am p0_)),some (.narr 1 (out_22.map (nL 1 Af)))]⟩
def JdP:St:=⟨(1,.d (.str p1_))::(2,.ptr 0 0)::(5,.d (.sl (r117.map Ah)))::(6,.osl 1 1 0 (out_23.length))::(7,.d (.int .i64 i_17))::(9,.d (.bool changed_5))::(10,.d (.int .i64 k_5))::[],[some (.box (Am p0_)),some (.narr 1 (out_23.map (nL 1 Af)))]⟩
def JdQ:St:=⟨(1,.d (.str p1_))::(2,.ptr 0 0)::(5,.d (.sl (r117.map Ah)))::(6,.osl 1 1 0 (out_24.length))::(7,.d (.int .i64 i_17))::(9,.d (.bool changed_6))::(10,.d (.int .i64 k_5))::(11,.d (.int .i64 r_3))::[],[some (.box (Am p0_)),some (.narr 1 (out_24.map (nL 1 Af)))]⟩
def NC:((List (List Int))×Bool)->Ex->St->Prop:=xX 0 8 (λ (y:((List (List Int))×Bool))=>JdP p0_ p1_ r117 i_17 k_5 y.1 y.2)
def Iv:((List (List Int))×Bool×Int)->St:=(λ (x:((List (List Int))×Bool×Int))=>JdO p0_ p1_ r117 i_17 k_5 x.1 x.2.1 x.2.2)
def ND:((List (List Int))×Bool)->Ex->St->Prop:=xX 0 6 (λ (y:((List (List Int))×Bool))=>JdN p0_ p1_ r117 i_17 y.1 y.2)
def Iw:((List (List Int))×Bool×Int)->St:=(λ (x:((List (List Int))×Bool×Int))=>JhB p0_ p1_ r117 i_17 x.1 x.2.1 x.2.2)
def NE:(List (List Int))->Ex->St->Prop:=xX 0 4 (λ (y:(List (List Int)))=>JhA p0_ p1_ r117 i_17 y)
def Ix:((List (List Int))×Bool)->St:=(λ (x:((List (List Int))×Bool))=>Jhz p0_ p1_ r117 i_17 x.1 x.2)
def NF:(List (List Int))->Ex->St->Prop:=xX 0 0 (λ (y:(List (List Int)))=>Jhv y)
def Iy:((List (List Int))×Int)->St:=(λ (x:((List (List Int))×Int))=>Jhu p0_ p1_ r117 x.1 x.2)
variable {p0_ p1_ r117 out_13 i_17 out_14 out_15 k_4 out_16 out_17 out_18 changed_1 out_19 out_20 changed_2 k_5 out_21 changed_3 out_22 changed_4 r_3 out_23 changed_5 out_24 changed_6}
theorem ME (x:((List (List Int))×Int)) (z:(((List (List Int))×Int)⊕(List (List Int)))) (H:C0 n p0_ p1_ r117 i_17 x.1 x.2=some z):WP (cxk 116 0) (Az Try.f22) [1,1,1,0,1,0,0,1,0,0,1,0,1,0,0] (AA 0 (Iu p0_ p1_ r117 i_17) (NB p0_ p1_ r117 i_17) z) (Iu p0_ p1_ r117 i_17 x):=by
 obtain ⟨out_15,k_4⟩:=x
 refine sq (sr (ck 2 (sp (AL Ah r117) (ck 1 (en (cn H (λ H=>?_) (λ H=>?_)))))))
 ·refine sk (qz (sj (λ (x:(List (List Int)))=>Jhy p0_ p1_ r117 i_17 k_4 x) (λ (x:(List (List Int)))=>DF n k_4 x) z ?_ (λ hFR6_Suffixes_J1=>?_)))
  ·intro out_17 H
   exact rz (ck 3 (ae (by cases H;exact og (gP [1,2,5,6,7,8] [0,1] (po1 (pn1 (nL 1 Af) out_17 (Pl.z)))))))
  refine bk 3 (sq (bx H λ x104 h330 H=>rg (tr (so1 (encN:=(nL 1 Af)) 1 1 h330) (sno (encN:=(nL 1 Af)) (enc:=Af) h330 [.own 1 (x104.map Af)] x104 1 1 0 1)) (ck 2 (sp (Ax 1 1 h330) (sp (Ca (encN:=(nL 1 Af)) (row:=[.osl 2 1 0 (x104.length)]) (k:=1) (sz:=1) (off:=0) (t:=ty 40) (v:=.osl 2 1 0 (x104.length)) h330) (ck 1 (bx H λ x105 h331 H=>sp (Ax 2 1 h331) (bx H λ l36 h332 H=>stA Af 2 0 (ty 3) h331 h332 (en (sq (rg (tr (tr (tr (tr (tr (sn 40 2 1 (Bp h332)) (snr (encN:=(nL 1 Af)) (xs:=out_15) (n:=i_17) [.osl 2 1 0 (x104.length)] 1 1 0 2 1 (Bp h332))) (sni (encN:=(nL 1 Af)) (xs:=out_15) (n:=i_17) (enc:=Af) [.osl 2 1 0 (l36.length)] l36 1 1 0 2 1)) (scl (encN:=(nL 1 Af)) (xss:=out_15) i_17 [.own 1 (l36.map Af)] 1 1 l36)) (sn 6 1 1 (lsS out_15 i_17.toNat l36))) (sn 37 1 1 (lsS out_15 i_17.toNat l36))) (ck 8 (bx H λ x106 h333 H=>sE (λ hg=>Ar Ah (Bu h333 hg)) (gc 1 (i_17==((p1_.length:Nat):Int)) (bx H λ r118 h334 H=>cG false (leZ) rfl (λ hg=>Ek (Bu h334 hg)) (Or.inl rfl) (CM (λ hh=>hh) (CM (λ hh=>hh) (FZ))) rfl (pA (en (cn H (λ H=>?_) (λ H=>?_)))))))))))))))))))
  ·exact bx H λ x107 h335 H=>rg (tr (so1 (encN:=(nL 1 Af)) 1 1 h335) (sno (encN:=(nL 1 Af)) (enc:=Af) h335 [.own 1 (x107.map Af)] x107 1 1 0 1)) (ck 2 (sp (Ax 1 1 h335) (sp (Ca (encN:=(nL 1 Af)) (row:=[.osl 3 1 0 (x107.length)]) (k:=1) (sz:=1) (off:=0) (t:=ty 40) (v:=.osl 3 1 0 (x107.length)) h335) (ck 1 (bx H λ x108 h336 H=>sp (Ax 3 1 h336) (bx H λ l37 h337 H=>stA Af 3 0 (ty 3) h336 h337 (ae (qN (qs (tr (tr (tr (tr (tr (tr (tr (sn 58 3 1 (Bp h337)) (snr (encN:=(nL 1 Af)) (xs:=List.set out_15 i_17.toNat l36) (n:=i_17) [.osl 3 1 0 (x107.length)] 1 1 0 3 1 (Bp h337))) (sni (encN:=(nL 1 Af)) (xs:=List.set out_15 i_17.toNat l36) (n:=i_17) (enc:=Af) [.osl 3 1 0 (l37.length)] l37 1 1 0 3 1)) (scl (encN:=(nL 1 Af)) (xss:=List.set out_15 i_17.toNat l36) i_17 [.own 1 (l37.map Af)] 1 1 l37)) (sn 6 1 1 (lsS (List.set out_15 i_17.toNat l36) i_17.toNat l37))) (sn 37 1 1 (lsS (List.set out_15 i_17.toNat l36) i_17.toNat l37))) (sn 55 1 1 (lsS (List.set out_15 i_17.toNat l36) i_17.toNat l37))) (gP [1,2,5,6,7,8] [0,1] (po1 (pn1 (nL 1 Af) (List.set (List.set out_15 i_17.toNat l36) i_17.toNat l37) (Pl.z))))) (hFR6_Suffixes_J1 (List.set (List.set out_15 i_17.toNat l36) i_17.toNat l37) H))))))))))
  ·exact sk (qN (qs (gP [1,2,5,6,7,8] [0,1] (po1 (pn1 (nL 1 Af) (List.set out_15 i_17.toNat l36) (Pl.z)))) (hFR6_Suffixes_J1 (List.set out_15 i_17.toNat l36) H)))
 ·exact ex 2 (qx (by cases H;exact xo rfl (gP [1,2,5,6,7] [0,1] (po1 (pn1 (nL 1 Af) out_15 (Pl.z))))))
theorem MF (x:((List (List Int))×Bool×Int)) (z:(((List (List Int))×Bool×Int)⊕((List (List Int))×Bool))) (H:C1 n p0_ p1_ r117 i_17 k_5 x.1 x.2.1 x.2.2=some z):WP (cxk 116 0) (Az Try.f22) [1,1,1,0,1,0,0,1,0,0,1,1,1,0,0,1,0,1,1,0,0,1,0,0,1,0,0] (AA 0 (Iv p0_ p1_ r117 i_17 k_5) (NC p0_ p1_ r117 i_17 k_5) z) (Iv p0_ p1_ r117 i_17 k_5 x):=by
 obtain ⟨out_22,changed_4,r_3⟩:=x
 refine sq (sr (ck 3 (sp (AL Al p0_.Rules) (ck 1 (en (cn H (λ H=>?_) (λ H=>?_)))))))
 ·refine sk (qz (sj (λ (x:((List (List Int))×Bool))=>JdQ p0_ p1_ r117 i_17 k_5 r_3 x.1 x.2) (λ (x:((List (List Int))×Bool))=>DG n r_3 x.1 x.2) z ?_ (λ hFR6_Suffixes_J2=>?_)))
  ·rintro ⟨out_24,changed_6⟩ H
   exact rz (ck 3 (ae (by cases H;exact og (gP [1,2,5,6,7,9,10,11] [0,1] (po1 (pn1 (nL 1 Af) out_24 (Pl.z)))))))
  refine bk 9 (sr (ck 5 (bx H λ x109 h339 H=>sp (Ar Ah h339) (ck 5 (bx H λ r119 h340 H=>cb (ks:=[1]) (obl:=[(0+List.length out_22,List.length (out_22.map (nL 1 Af))),(MS (out_22.map (nL 1 Af)),0)]) false (leK leN (leK (JdH λ _=>rfl) (leZ))) (EI rfl (EI rfl (EI rfl (EI (JiT (encN:=(nL 1 Af)) (encD:=(eL Af)) λ _=>rfl) rfl)))) (NA h340) (Or.inr trivial) rfl (ck 1 (en (sq (rg (tr (so0 (encN:=(nL 1 Af)) (xss:=out_22) 1 1 i_17 ([]:(List Int))) (snT (encN:=(nL 1 Af)) (xss:=out_22) (n:=i_17) (d:=([]:(List Int))) (enc:=Af) (λ x=>x) [.own 1 (List.map Af (List.getD out_22 i_17.toNat []))] 1 1 0 1)) (ck 5 (bx H λ x110 h341 H=>sE (λ hg=>Ax 1 1 (Bu h341 hg)) (sE (g:=decide (r119>=0)) (λ hg=>Ca (encN:=(nL 1 Af)) (row:=[.osl 2 1 0 (List.length (List.getD out_22 i_17.toNat []))]) (k:=1) (sz:=1) (off:=0) (t:=ty 40) (v:=.osl 2 1 0 (List.length (List.getD out_22 i_17.toNat []))) (Bu h341 hg)) (ck 1 (bx H λ x111 h342 H=>sE (λ hg=>Ax 2 1 (Bu h342 hg)) (sE (g:=decide (r119>=0)) (λ hg=>B9 Af 2 0 (ty 3) (Bu h342 hg)) (ck 1 (bx H λ r120 h343 H=>cG false (leZ) rfl (λ hg=>Ul (Bu h343 hg)) (Or.inl rfl) (CM (λ hh=>hh) (CM (λ hh=>hh) (FZ))) rfl (ck 2 (bx H λ x112 h344 H=>sE (λ hg=>Ax 1 1 (Bu h344 hg)) (sE (g:=decide (r119>=0)) (λ hg=>Ca (encN:=(nL 1 Af)) (row:=[.osl 2 1 0 (List.length (List.getD out_22 i_17.toNat []))]) (k:=1) (sz:=1) (off:=0) (t:=ty 40) (v:=.osl 2 1 0 (List.length (List.getD out_22 i_17.toNat []))) (Bu h344 hg)) (ck 1 (bx H λ x113 h345 H=>sE (λ hg=>Ax 2 1 (Bu h345 hg)) (sE (g:=decide (r119>=0)) (λ hg=>B9 Af 2 0 (ty 3) (Bu h345 hg)) (gc 1 (decide (r119>=0)) (pA (en (cn H (λ H=>?_) (λ H=>?_))))))))))))))))))))))))))))
  ·exact sq (bx H λ x114 h346 H=>rg (tr (tr (tr (tr (tr (sni (encN:=(nL 1 Af)) (xs:=out_22) (n:=i_17) (enc:=Af) [.osl 2 1 0 (List.length (List.getD out_22 i_17.toNat []))] (List.getD out_22 i_17.toNat []) 1 1 0 2 1) (scl (encN:=(nL 1 Af)) (xss:=out_22) i_17 [.own 1 (List.map Af (List.getD out_22 i_17.toNat []))] 1 1 (List.getD out_22 i_17.toNat []))) (sn 6 1 1 (lsS out_22 i_17.toNat (List.getD out_22 i_17.toNat [])))) (sn 85 1 1 (lsS out_22 i_17.toNat (List.getD out_22 i_17.toNat [])))) (so1 (encN:=(nL 1 Af)) 1 1 h346)) (sno (encN:=(nL 1 Af)) (enc:=Af) h346 [.own 1 (x114.map Af)] x114 1 1 0 1)) (ck 2 (sp (Ax 1 1 h346) (sp (Ca (encN:=(nL 1 Af)) (row:=[.osl 3 1 0 (x114.length)]) (k:=1) (sz:=1) (off:=0) (t:=ty 40) (v:=.osl 3 1 0 (x114.length)) h346) (ck 2 (bx H λ x115 h347 H=>sp (Ax 3 1 h347) (bx H λ l38 h348 H=>stA Af 3 0 (ty 3) h347 h348 (en (rg (tr (tr (tr (tr (tr (tr (sn 111 3 1 (Bp h348)) (snr (encN:=(nL 1 Af)) (xs:=List.set out_22 i_17.toNat (List.getD out_22 i_17.toNat [])) (n:=i_17) [.osl 3 1 0 (x114.length)] 1 1 0 3 1 (Bp h348))) (sni (encN:=(nL 1 Af)) (xs:=List.set out_22 i_17.toNat (List.getD out_22 i_17.toNat [])) (n:=i_17) (enc:=Af) [.osl 3 1 0 (l38.length)] l38 1 1 0 3 1)) (scl (encN:=(nL 1 Af)) (xss:=List.set out_22 i_17.toNat (List.getD out_22 i_17.toNat [])) i_17 [.own 1 (l38.map Af)] 1 1 l38)) (sn 6 1 1 (lsS (List.set out_22 i_17.toNat (List.getD out_22 i_17.toNat [])) i_17.toNat l38))) (sn 85 1 1 (lsS (List.set out_22 i_17.toNat (List.getD out_22 i_17.toNat [])) i_17.toNat l38))) (sn 108 1 1 (lsS (List.set out_22 i_17.toNat (List.getD out_22 i_17.toNat [])) i_17.toNat l38))) (ck 1 (ae (qN (qs (gP [1,2,5,6,7,9,10,11] [0,1] (po1 (pn1 (nL 1 Af) (List.set (List.set out_22 i_17.toNat (List.getD out_22 i_17.toNat [])) i_17.toNat l38) (Pl.z)))) (hFR6_Suffixes_J2 ((List.set (List.set out_22 i_17.toNat (List.getD out_22 i_17.toNat [])) i_17.toNat l38),true) H))))))))))))))
  ·exact sk (qN (qs (tr (tr (tr (tr (sni (encN:=(nL 1 Af)) (xs:=out_22) (n:=i_17) (enc:=Af) [.osl 2 1 0 (List.length (List.getD out_22 i_17.toNat []))] (List.getD out_22 i_17.toNat []) 1 1 0 2 1) (scl (encN:=(nL 1 Af)) (xss:=out_22) i_17 [.own 1 (List.map Af (List.getD out_22 i_17.toNat []))] 1 1 (List.getD out_22 i_17.toNat []))) (sn 6 1 1 (lsS out_22 i_17.toNat (List.getD out_22 i_17.toNat [])))) (sn 85 1 1 (lsS out_22 i_17.toNat (List.getD out_22 i_17.toNat [])))) (gP [1,2,5,6,7,9,10,11] [0,1] (po1 (pn1 (nL 1 Af) (List.set out_22 i_17.toNat (List.getD out_22 i_17.toNat [])) (Pl.z))))) (hFR6_Suffixes_J2 ((List.set out_22 i_17.toNat (List.getD out_22 i_17.toNat [])),changed_4) H)))
 ·exact ex 8 (qx (by cases H;exact xo rfl (gP [1,2,5,6,7,9,10] [0,1] (po1 (pn1 (nL 1 Af) out_22 (Pl.z))))))
theorem MG (x:((List (List Int))×Bool×Int)) (z:(((List (List Int))×Bool×Int)⊕((List (List Int))×Bool))) (H:C2 n p0_ p1_ r117 i_17 x.1 x.2.1 x.2.2=some z):WP (cxk 116 0) (Az Try.f22) [1,1,1,0,1,0,0,1,0,0,1,1,1,0,0,1,0,1,1,0,0] (AA 0 (Iw p0_ p1_ r117 i_17) (ND p0_ p1_ r117 i_17) z) (Iw p0_ p1_ r117 i_17 x):=by
 obtain ⟨out_20,changed_2,k_5⟩:=x
 refine sq (sr (ck 2 (sp (AL Ah r117) (ck 1 (en (cn H (λ H=>?_) (λ H=>?_)))))))
 ·exact sk (qz (sq (bk 7 (sr (ck 1 (en (bk 8 (bx H λ y80 h349 H=>lX MF h349 (gP [1,2,5,6,7,9,10,11] [0,1] (po1 (pn1 (nL 1 Af) out_20 (Pl.z)))) rfl λ s hE63=>qH (qN (qs (hE63) (rz (ck 3 (ae (by cases H;exact og (gP [1,2,5,6,7,9,10] [0,1] (po1 (pn1 (nL 1 Af) y80.1 (Pl.z))))))))))))))))))
 ·exact ex 6 (qx (by cases H;exact xo rfl (gP [1,2,5,6,7,9] [0,1] (po1 (pn1 (nL 1 Af) out_20 (Pl.z))))))
theorem MH (x:((List (List Int))×Bool)) (z:(((List (List Int))×Bool)⊕(List (List Int)))) (H:DH n p0_ p1_ r117 i_17 x.1 x.2=some z):WP (cxk 116 0) (Az Try.f22) [1,1,1,0,1,0,0,1,0,0,1,1,1,0,0] (AA 0 (Ix p0_ p1_ r117 i_17) (NE p0_ p1_ r117 i_17) z) (Ix p0_ p1_ r117 i_17 x):=by
 obtain ⟨out_18,changed_1⟩:=x
 refine sq (sr (ck 1 (en (cn H (λ H=>?_) (λ H=>?_)))))
 ·exact sk (qz (bk 5 (sr (ck 1 (en (sr (ck 1 (en (bk 6 (bx H λ y81 h350 H=>lX MG h350 (gP [1,2,5,6,7,9,10] [0,1] (po1 (pn1 (nL 1 Af) out_18 (Pl.z)))) rfl λ s hE64=>qH (qN (by cases H;exact og (tr (hE64) (gP [1,2,5,6,7,9] [0,1] (po1 (pn1 (nL 1 Af) y81.1 (Pl.z)))))))))))))))))
 ·exact ex 4 (qx (by cases H;exact xo rfl (gP [1,2,5,6,7] [0,1] (po1 (pn1 (nL 1 Af) out_18 (Pl.z))))))
theorem MI (x:((List (List Int))×Int)) (z:(((List (List Int))×Int)⊕(List (List Int)))) (H:E6 n p0_ p1_ r117 x.1 x.2=some z):WP (cxk 116 0) (Az Try.f22) [1,1,1,0,1,0,0] (AA 0 (Iy p0_ p1_ r117) (NF) z) (Iy p0_ p1_ r117 x):=by
 obtain ⟨out_13,i_17⟩:=x
 refine sq (sr (ck 2 (en (cn H (λ H=>?_) (λ H=>?_)))))
 ·exact sk (qz (sq (bk 1 (sq (bx H λ x103 h328 H=>rg (so1 (encN:=(nL 1 Af)) 1 1 h328) (ck 3 (sp (AL Ah r117) (bx H λ l35 h329 H=>sp (VR Af 1 h329) (sp (Ax 1 1 h328) (sp (Mw (encN:=(nL 1 Af)) (row:=[.own 1 (x103.map Af)]) (row':=[.osl 2 1 0 (l35.length)]) (k:=1) (sz:=1) (off:=0) (t:=ty 40) (v:=.osl 2 1 0 (l35.length)) h328) (en (sq (sq (rg (tr (tr (tr (sni (encN:=(nL 1 Af)) (xs:=out_13) (n:=i_17) (enc:=Af) [.osl 2 1 0 (l35.length)] l35 1 1 0 2 1) (scl (encN:=(nL 1 Af)) (xss:=out_13) i_17 [.own 1 (l35.map Af)] 1 1 l35)) (sn 6 1 1 (lsS out_13 i_17.toNat l35))) (sn 25 1 1 (lsS out_13 i_17.toNat l35))) (ck 1 (en (bk 2 (bx H λ y79 h338 H=>lX ME h338 (gP [1,2,5,6,7,8] [0,1] (po1 (pn1 (nL 1 Af) (List.set out_13 i_17.toNat l35) (Pl.z)))) rfl λ s hE62=>qH (qs (hE62) (sr (ck 1 (en (bk 4 (bx H λ y82 h351 H=>lX MH h351 (gP [1,2,5,6,7,9] [0,1] (po1 (pn1 (nL 1 Af) y79 (Pl.z)))) rfl λ s hE65=>qH (qN (qs (hE65) (rz (ck 3 (ae (by cases H;exact og (gP [1,2,5,6,7] [0,1] (po1 (pn1 (nL 1 Af) y82 (Pl.z))))))))))))))))))))))))))))))))))
 ·exact ex 0 (qx (by cases H;exact xo rfl (gP [6] [1] (pn1 (nL 1 Af) out_13 (Pl.z)))))
theorem PP {z} (H:Hj n p0_ p1_=some z):AG Try.prog 22 [.agg (Am p0_),.d (.str p1_)] (.d (.sl (z.map (eL Af)))):=by
 exact fO 116 (Jht p0_ p1_) Try.func22 (sr (ck 2 (en (sr (ck 1 (bx H λ r117 h326 H=>ca false (DT h326) (ck 1 (en (sr (ck 3 (bx H λ l34 h327 H=>sp (T3 1 (ez:=[.nil]) h327) (ck 1 (en (sq (sq (rg (tr (tr (T0 (encN:=(nL 1 Af)) (sz:=1) (z:=[.nil]) (n:=(Ay .i64 ((p1_.length:Nat):Int) 1)) 1 (Nk h327) (by kernel_rfl) (by kernel_rfl)) (sn 18 1 1 (Id h327))) (sn 6 1 1 (Id h327))) (ck 3 (en (bk 0 (bx H λ y83 h352 H=>lX MI h352 (gP [1,2,5,6,7] [0,1] (po1 (pn1 (nL 1 Af) l34 (Pl.z)))) rfl λ s hE66=>qH (qs (hE66) (sr (ck 2 (ae (qs (X7 (encN:=(nL 1 Af)) (encD:=(eL Af)) (xss:=y83) (k:=0) (sz:=1) 4 (by kernel_rfl) (λ _=>rfl) (λ _=>rfl)) (re (by cases H;exact pr rd)))))))))))))))))))))))))))
end
section
variable (p0_:Ab) (p1_:(List UInt8)) (r121:(List Aa)) (at_2:(List (List Bool))) (i_18:Int) (at_3:(List (List Bool))) (at_4:(List (List Bool))) (out_25:Int) (i_19:Int) (out_26:Int) (at_5:(List (List Bool))) (changed_7:Bool) (at_6:(List (List Bool))) (at_7:(List (List Bool))) (changed_8:Bool) (k_6:Int) (at_8:(List (List Bool))) (changed_9:Bool) (at_9:(List (List Bool))) (changed_10:Bool) (r_4:Int) (at_10:(List (List Bool))) (changed_11:Bool) (at_11:(List (List Bool))) (changed_12:Bool) (y87:(List (List Bool))) (class_2:Int) (at_12:(List (List Bool))) (out_27:Int) (k_7:Int) (at_13:(List (List Bool))) (out_28:Int) (at_14:(List (List Bool))) (out_29:Int)
def JhC:St:=⟨(0,.agg [.d (.int .i64 p0_.Modes),.d (.int .u8 p0_.Accept),.d (.sl (p0_.Rules.map Al))])::(1,.d (.str p1_))::[],[]⟩
def JhD:St:=⟨(1,.d (.str p1_))::(2,.ptr 0 0)::(5,.d (.sl (r121.map Ah)))::(6,.osl 1 1 0 (at_2.length))::(7,.d (.int .i64 0))::(8,.d (.int .i64 i_18))::[],[some (.box (Am p0_)),some (.narr 1 (at_2.map (nL 1 eB)))]⟩
def JhE:St:=⟨(1,.d (.str p1_))::(2,.ptr 0 0)::(5,.d (.sl (r121.map Ah)))::(6,.osl 1 1 0 (at_3.length))::(7,.d (.int .i64 0))::[],[some (.box (Am p0_)),some (.narr 1 (at_3.map (nL 1 eB)))]⟩
def OJ:(List (List Bool))->Ex->St->Prop:=xX 0 0 (λ (y:(List (List Bool)))=>JhE p0_ p1_ r121 y)
def Jc:((List (List Bool))×Int)->St:=(λ (x:((List (List Bool))×Int))=>JhD p0_ p1_ r121 x.1 x.2)
def JhF:St:=⟨(1,.d (.str p1_))::(2,.ptr 0 0)::(5,.d (.sl (r121.map Ah)))::(6,.osl 1 1 0 (at_4.length))::(7,.d (.int .i64 out_25))::(9,.d (.int .i64 i_19))::[],[some (.box (Am p0_)),some (.narr 1 (at_4.map (nL 1 eB)))]⟩
def JhG:St:=⟨(7,.d (.int .i64 out_26))::[],[]⟩
def JhH:St:=⟨(1,.d (.str p1_))::(2,.ptr 0 0)::(5,.d (.sl (r121.map Ah)))::(6,.osl 1 1 0 (at_5.length))::(7,.d (.int .i64 out_25))::(9,.d (.int .i64 i_19))::(10,.d (.bool changed_7))::[],[some (.box (Am p0_)),some (.narr 1 (at_5.map (nL 1 eB)))]⟩
def JhI:St:=⟨(1,.d (.str p1_))::(2,.ptr 0 0)::(5,.d (.sl (r121.map Ah)))::(6,.osl 1 1 0 (at_6.length))::(7,.d (.int .i64 out_25))::(9,.d (.int .i64 i_19))::[],[some (.box (Am p0_)),some (.narr 1 (at_6.map (nL 1 eB)))]⟩
def JhJ:St:=⟨(1,.d (.str p1_))::(2,.ptr 0 0)::(5,.d (.sl (r121.map Ah)))::(6,.osl 1 1 0 (at_7.length))::(7,.d (.int .i64 out_25))::(9,.d (.int .i64 i_19))::(10,.d (.bool changed_8))::(11,.d (.int .i64 k_6))::[],[some (.box (Am p0_)),some (.narr 1 (at_7.map (nL 1 eB)))]⟩
def JhK:St:=⟨(1,.d (.str p1_))::(2,.ptr 0 0)::(5,.d (.sl (r121.map Ah)))::(6,.osl 1 1 0 (at_8.length))::(7,.d (.int .i64 out_25))::(9,.d (.int .i64 i_19))::(10,.d (.bool changed_9))::[],[some (.box (Am p0_)),some (.narr 1 (at_8.map (nL 1 eB)))]⟩
def JdR:St:=⟨(1,.d (.str p1_))::(2,.ptr 0 0)::(5,.d (.sl (r121.map Ah)))::(6,.osl 1 1 0 (at_9.length))::(7,.d (.int .i64 out_25))::(9,.d (.int .i64 i_19))::(10,.d (.bool changed_10))::(11,.d (.int .i64 k_6))::(12,.d (.int .i64 r_4))::[],[some (.box (Am p0_)),some (.narr 1 (at_9.map (nL 1 eB)))]⟩
def JdS:St:=⟨(1,.d (.str p1_))::(2,.ptr 0 0)::(5,.d (.sl (r121.map Ah)))::(6,.osl 1 1 0 (at_10.length))::(7,.d (.int .i64 out_25))::(9,.d (.int .i64 i_19))::(10,.d (.bool changed_11))::(11,.d (.int .i64 k_6))::[],[some (.box (Am p0_)),some (.narr 1 (at_10.map (nL 1 eB)))]⟩
def JdT:St:=⟨(1,.d (.str p1_))::(2,.ptr 0 0)::(5,.d (.sl (r121.map Ah)))::(6,.osl 1 1 0 (at_11.length))::(7,.d (.int .i64 out_25))::(9,.d (.int .i64 i_19))::(10,.d (.bool changed_12))::(11,.d (.int .i64 k_6))::(12,.d (.int .i64 r_4))::[],[some (.box (Am p0_)),some (.narr 1 (at_11.map (nL 1 eB)))]⟩
def OK:((List (List Bool))×Bool)->Ex->St->Prop:=xX 0 8 (λ (y:((List (List Bool))×Bool))=>JdS p0_ p1_ r121 out_25 i_19 k_6 y.1 y.2)
def Jd:((List (List Bool))×Bool×Int)->St:=(λ (x:((List (List Bool))×Bool×Int))=>JdR p0_ p1_ r121 out_25 i_19 k_6 x.1 x.2.1 x.2.2)
def OL:((List (List Bool))×Bool)->Ex->St->Prop:=xX 0 6 (λ (y:((List (List Bool))×Bool))=>JhK p0_ p1_ r121 out_25 i_19 y.1 y.2)
def Je:((List (List Bool))×Bool×Int)->St:=(λ (x:((List (List Bool))×Bool×Int))=>JhJ p0_ p1_ r121 out_25 i_19 x.1 x.2.1 x.2.2)
def OM:(List (List Bool))->Ex->St->Prop:=xX 0 4 (λ (y:(List (List Bool)))=>JhI p0_ p1_ r121 out_25 i_19 y)
def Jf:((List (List Bool))×Bool)->St:=(λ (x:((List (List Bool))×Bool))=>JhH p0_ p1_ r121 out_25 i_19 x.1 x.2)
def JdU:St:=⟨(1,.d (.str p1_))::(2,.ptr 0 0)::(5,.d (.sl (r121.map Ah)))::(6,.osl 1 1 0 (y87.length))::(7,.d (.int .i64 out_25))::(9,.d (.int .i64 i_19))::(16,.d (.int .i64 class_2))::[],[some (.box (Am p0_)),some (.narr 1 (y87.map (nL 1 eB)))]⟩
def JdV:St:=⟨(1,.d (.str p1_))::(2,.ptr 0 0)::(5,.d (.sl (r121.map Ah)))::(6,.osl 1 1 0 (at_12.length))::(7,.d (.int .i64 out_27))::(9,.d (.int .i64 i_19))::(16,.d (.int .i64 class_2))::(17,.d (.int .i64 k_7))::[],[some (.box (Am p0_)),some (.narr 1 (at_12.map (nL 1 eB)))]⟩
def JdW:St:=⟨(1,.d (.str p1_))::(2,.ptr 0 0)::(5,.d (.sl (r121.map Ah)))::(6,.osl 1 1 0 (at_13.length))::(7,.d (.int .i64 out_28))::(9,.d (.int .i64 i_19))::[],[some (.box (Am p0_)),some (.narr 1 (at_13.map (nL 1 eB)))]⟩
def JdX:St:=⟨(1,.d (.str p1_))::(2,.ptr 0 0)::(5,.d (.sl (r121.map Ah)))::(6,.osl 1 1 0 (at_14.length))::(7,.d (.int .i64 out_29))::(9,.d (.int .i64 i_19))::(16,.d (.int .i64 class_2))::(17,.d (.int .i64 k_7))::[],[some (.box (Am p0_)),some (.narr 1 (at_14.map (nL 1 eB)))]⟩
def ON:((List (List Bool))×Int)->Ex->St->Prop:=xX 0 10 (λ (y:((List (List Bool))×Int))=>JdW p0_ p1_ r121 i_19 y.1 y.2)
def Jg:((List (List Bool))×Int×Int)->St:=(λ (x:((List (List Bool))×Int×Int))=>JdV p0_ p1_ r121 i_19 class_2 x.1 x.2.1 x.2.2)
def OO:Int->Ex->St->Prop:=xX 0 2 (λ (y:Int)=>JhG y)
def Jh:((List (List Bool))×Int×Int)->St:=(λ (x:((List (List Bool))×Int×Int))=>JhF p0_ p1_ r121 x.1 x.2.1 x.2.2)
variable {p0_ p1_ r121 at_2 i_18 at_3 at_4 out_25 i_19 out_26 at_5 changed_7 at_6 at_7 changed_8 k_6 at_8 changed_9 at_9 changed_10 r_4 at_10 changed_11 at_11 changed_12 y87 class_2 at_12 out_27 k_7 at_13 out_28 at_14 out_29}
theorem NG (x:((List (List Bool))×Int)) (z:(((List (List Bool))×Int)⊕(List (List Bool)))) (H:Ee n p0_ p1_ r121 x.1 x.2=some z):WP (cxk 152 0) (Az Try.f23) [1,1,1,0,1,0,0] (AA 0 (Jc p0_ p1_ r121) (OJ p0_ p1_ r121) z) (Jc p0_ p1_ r121 x):=by
 obtain ⟨at_2,i_18⟩:=x
 refine sq (sr (ck 4 (en (cn H (λ H=>?_) (λ H=>?_)))))
 ·exact sk (qz (sq (bk 1 (bx H λ x116 h355 H=>rg (so1 (encN:=(nL 1 eB)) 1 1 h355) (ck 3 (sp (AL Ah r121) (bx H λ l40 h356 H=>sp (VR eB 1 h356) (sp (Ax 1 1 h355) (sp (Mw (encN:=(nL 1 eB)) (row:=[.own 1 (x116.map eB)]) (row':=[.osl 2 1 0 (l40.length)]) (k:=1) (sz:=1) (off:=0) (t:=ty 46) (v:=.osl 2 1 0 (l40.length)) h355) (ae (qN (qz (rg (tr (tr (tr (sni (encN:=(nL 1 eB)) (xs:=at_2) (n:=i_18) (enc:=eB) [.osl 2 1 0 (l40.length)] l40 1 1 0 2 1) (scl (encN:=(nL 1 eB)) (xss:=at_2) i_18 [.own 1 (l40.map eB)] 1 1 l40)) (sn 6 1 1 (lsS at_2 i_18.toNat l40))) (sn 30 1 1 (lsS at_2 i_18.toNat l40))) (ck 3 (ae (by cases H;exact og (gP [1,2,5,6,7,8] [0,1] (po1 (pn1 (nL 1 eB) (List.set at_2 i_18.toNat l40) (Pl.z))))))))))))))))))))
 ·exact ex 0 (qx (by cases H;exact xo rfl (gP [1,2,5,6,7] [0,1] (po1 (pn1 (nL 1 eB) at_2 (Pl.z))))))
theorem NH (x:((List (List Bool))×Bool×Int)) (z:(((List (List Bool))×Bool×Int)⊕((List (List Bool))×Bool))) (H:Di n p0_ p1_ r121 out_25 i_19 k_6 x.1 x.2.1 x.2.2=some z):WP (cxk 152 0) (Az Try.f23) [1,1,1,1,1,0,1,0,0,1,0,0,0,1,0,0,1,0,1,1,0,0,1,0,0,1,0,0] (AA 0 (Jd p0_ p1_ r121 out_25 i_19 k_6) (OK p0_ p1_ r121 out_25 i_19 k_6) z) (Jd p0_ p1_ r121 out_25 i_19 k_6 x):=by
 obtain ⟨at_9,changed_10,r_4⟩:=x
 refine sq (sq (rg (tr (so0 (encN:=(nL 1 eB)) (xss:=at_9) 1 1 i_19 ([]:(List Bool))) (snT (encN:=(nL 1 eB)) (xss:=at_9) (n:=i_19) (d:=([]:(List Bool))) (enc:=eB) (λ x=>x) [.own 1 (List.map eB (List.getD at_9 i_19.toNat []))] 1 1 0 1)) (ck 3 (sp (AL Al p0_.Rules) (ck 4 (bx H λ x119 h361 H=>sE (λ hg=>Ax 1 1 (Bu h361 hg)) (sE (g:=decide (r_4<((p0_.Rules.length:Nat):Int))) (λ hg=>Ca (encN:=(nL 1 eB)) (row:=[.osl 2 1 0 (List.length (List.getD at_9 i_19.toNat []))]) (k:=1) (sz:=1) (off:=0) (t:=ty 46) (v:=.osl 2 1 0 (List.length (List.getD at_9 i_19.toNat []))) (Bu h361 hg)) (ck 1 (bx H λ x120 h362 H=>sE (λ hg=>Ax 2 1 (Bu h362 hg)) (sE (g:=decide (r_4<((p0_.Rules.length:Nat):Int))) (λ hg=>B9 eB 2 0 (ty 4) (Bu h362 hg)) (pA (en (cn H (λ H=>?_) (λ H=>?_))))))))))))))
 ·refine sk (qz (sj (λ (x:((List (List Bool))×Bool))=>JdT p0_ p1_ r121 out_25 i_19 k_6 r_4 x.1 x.2) (λ (x:((List (List Bool))×Bool))=>Ef n r_4 x.1 x.2) z ?_ (λ hFR6_Reached_J1=>?_)))
  ·rintro ⟨at_11,changed_12⟩ H
   exact rz (ck 3 (ae (by cases H;exact og (gP [1,2,5,6,7,9,10,11,12] [0,1] (po1 (pn1 (nL 1 eB) at_11 (Pl.z)))))))
  refine bk 9 (sq (rg (tr (tr (sni (encN:=(nL 1 eB)) (xs:=at_9) (n:=i_19) (enc:=eB) [.osl 2 1 0 (List.length (List.getD at_9 i_19.toNat []))] (List.getD at_9 i_19.toNat []) 1 1 0 2 1) (scl (encN:=(nL 1 eB)) (xss:=at_9) i_19 [.own 1 (List.map eB (List.getD at_9 i_19.toNat []))] 1 1 (List.getD at_9 i_19.toNat []))) (sn 6 1 1 (lsS at_9 i_19.toNat (List.getD at_9 i_19.toNat [])))) (ck 3 (bx H λ x121 h363 H=>sp (Ar Ah h363) (ck 2 (bx H λ r122 h364 H=>ca false (CJ h364) (ck 6 (en (sr (ck 4 (bx H λ x122 h365 H=>sp (Ar Al h365) (ck 5 (en (sq (rg (tr (so0 (encN:=(nL 1 eB)) (xss:=List.set at_9 i_19.toNat (List.getD at_9 i_19.toNat [])) 1 1 (Ay .i64 i_19 ((x122.Print.length:Nat):Int)) ([]:(List Bool))) (snT (encN:=(nL 1 eB)) (xss:=List.set at_9 i_19.toNat (List.getD at_9 i_19.toNat [])) (n:=Ay .i64 i_19 ((x122.Print.length:Nat):Int)) (d:=([]:(List Bool))) (enc:=eB) (λ x=>x) [.own 1 (List.map eB (List.getD (List.set at_9 i_19.toNat (List.getD at_9 i_19.toNat [])) (Int.toNat (Ay .i64 i_19 ((x122.Print.length:Nat):Int))) []))] 1 1 0 1)) (ck 5 (gc 1 r122.2 (ck 1 (bx H λ x123 h366 H=>sE (λ hg=>Ar Al (Bu h366 hg)) (gc 2 r122.2 (bx H λ r123 h367 H=>cG false (leZ) rfl (λ hg=>Mc (Bu h367 hg)) (Or.inl rfl) (CM (λ hh=>hh) (CM (λ hh=>hh) (CM (λ hh=>hh) (FZ)))) rfl (pA (ck 3 (bx H λ x124 h368 H=>sE (λ hg=>Ax 1 1 (Bu h368 hg)) (sE (g:=(r122.2&&r123)) (λ hg=>Ca (encN:=(nL 1 eB)) (row:=[.osl 4 1 0 (List.length (List.getD (List.set at_9 i_19.toNat (List.getD at_9 i_19.toNat [])) (Int.toNat (Ay .i64 i_19 ((x122.Print.length:Nat):Int))) []))]) (k:=1) (sz:=1) (off:=0) (t:=ty 46) (v:=.osl 4 1 0 (List.length (List.getD (List.set at_9 i_19.toNat (List.getD at_9 i_19.toNat [])) (Int.toNat (Ay .i64 i_19 ((x122.Print.length:Nat):Int))) []))) (Bu h368 hg)) (ck 2 (bx H λ r124 h369 H=>cG false (leZ) rfl (λ hg=>Cs (Bu h369 hg)) (Or.inl rfl) (CM (λ hh=>hh) (CM (λ hh=>hh) (FZ))) rfl (bx H λ x125 h370 H=>sE (λ hg=>Ax 4 1 (Bu h370 hg)) (sE (g:=(r122.2&&r123)) (λ hg=>B9 eB 4 0 (ty 4) (Bu h370 hg)) (gc 1 (r122.2&&r123) (pA (en (cn H (λ H=>?_) (λ H=>?_))))))))))))))))))))))))))))))))))
  ·exact sq (bx H λ x126 h371 H=>rg (tr (tr (tr (tr (sni (encN:=(nL 1 eB)) (xs:=List.set at_9 i_19.toNat (List.getD at_9 i_19.toNat [])) (n:=Ay .i64 i_19 ((x122.Print.length:Nat):Int)) (enc:=eB) [.osl 4 1 0 (List.length (List.getD (List.set at_9 i_19.toNat (List.getD at_9 i_19.toNat [])) (Int.toNat (Ay .i64 i_19 ((x122.Print.length:Nat):Int))) []))] (List.getD (List.set at_9 i_19.toNat (List.getD at_9 i_19.toNat [])) (Int.toNat (Ay .i64 i_19 ((x122.Print.length:Nat):Int))) []) 1 1 0 4 1) (scl (encN:=(nL 1 eB)) (xss:=List.set at_9 i_19.toNat (List.getD at_9 i_19.toNat [])) (Ay .i64 i_19 ((x122.Print.length:Nat):Int)) [.own 1 (List.map eB (List.getD (List.set at_9 i_19.toNat (List.getD at_9 i_19.toNat [])) (Int.toNat (Ay .i64 i_19 ((x122.Print.length:Nat):Int))) []))] 1 1 (List.getD (List.set at_9 i_19.toNat (List.getD at_9 i_19.toNat [])) (Int.toNat (Ay .i64 i_19 ((x122.Print.length:Nat):Int))) []))) (sn 6 1 1 (lsS (List.set at_9 i_19.toNat (List.getD at_9 i_19.toNat [])) (Int.toNat (Ay .i64 i_19 ((x122.Print.length:Nat):Int))) (List.getD (List.set at_9 i_19.toNat (List.getD at_9 i_19.toNat [])) (Int.toNat (Ay .i64 i_19 ((x122.Print.length:Nat):Int))) [])))) (so1 (encN:=(nL 1 eB)) 1 1 h371)) (sno (encN:=(nL 1 eB)) (enc:=eB) h371 [.own 1 (x126.map eB)] x126 1 1 0 1)) (ck 2 (sp (Ax 1 1 h371) (sp (Ca (encN:=(nL 1 eB)) (row:=[.osl 5 1 0 (x126.length)]) (k:=1) (sz:=1) (off:=0) (t:=ty 46) (v:=.osl 5 1 0 (x126.length)) h371) (ck 2 (bx H λ r125 h372 H=>ca false (Cs h372) (bx H λ x127 h373 H=>sp (Ax 5 1 h373) (bx H λ l42 h374 H=>stA eB 5 0 (ty 4) h373 h374 (en (rg (tr (tr (tr (tr (tr (sn 115 5 1 (Bp h374)) (snr (encN:=(nL 1 eB)) (xs:=List.set (List.set at_9 i_19.toNat (List.getD at_9 i_19.toNat [])) (Int.toNat (Ay .i64 i_19 ((x122.Print.length:Nat):Int))) (List.getD (List.set at_9 i_19.toNat (List.getD at_9 i_19.toNat [])) (Int.toNat (Ay .i64 i_19 ((x122.Print.length:Nat):Int))) [])) (n:=Ay .i64 i_19 ((x122.Print.length:Nat):Int)) [.osl 5 1 0 (x126.length)] 1 1 0 5 1 (Bp h374))) (sni (encN:=(nL 1 eB)) (xs:=List.set (List.set at_9 i_19.toNat (List.getD at_9 i_19.toNat [])) (Int.toNat (Ay .i64 i_19 ((x122.Print.length:Nat):Int))) (List.getD (List.set at_9 i_19.toNat (List.getD at_9 i_19.toNat [])) (Int.toNat (Ay .i64 i_19 ((x122.Print.length:Nat):Int))) [])) (n:=Ay .i64 i_19 ((x122.Print.length:Nat):Int)) (enc:=eB) [.osl 5 1 0 (l42.length)] l42 1 1 0 5 1)) (scl (encN:=(nL 1 eB)) (xss:=List.set (List.set at_9 i_19.toNat (List.getD at_9 i_19.toNat [])) (Int.toNat (Ay .i64 i_19 ((x122.Print.length:Nat):Int))) (List.getD (List.set at_9 i_19.toNat (List.getD at_9 i_19.toNat [])) (Int.toNat (Ay .i64 i_19 ((x122.Print.length:Nat):Int))) [])) (Ay .i64 i_19 ((x122.Print.length:Nat):Int)) [.own 1 (l42.map eB)] 1 1 l42)) (sn 6 1 1 (lsS (List.set (List.set at_9 i_19.toNat (List.getD at_9 i_19.toNat [])) (Int.toNat (Ay .i64 i_19 ((x122.Print.length:Nat):Int))) (List.getD (List.set at_9 i_19.toNat (List.getD at_9 i_19.toNat [])) (Int.toNat (Ay .i64 i_19 ((x122.Print.length:Nat):Int))) [])) (Int.toNat (Ay .i64 i_19 ((x122.Print.length:Nat):Int))) l42))) (sn 112 1 1 (lsS (List.set (List.set at_9 i_19.toNat (List.getD at_9 i_19.toNat [])) (Int.toNat (Ay .i64 i_19 ((x122.Print.length:Nat):Int))) (List.getD (List.set at_9 i_19.toNat (List.getD at_9 i_19.toNat [])) (Int.toNat (Ay .i64 i_19 ((x122.Print.length:Nat):Int))) [])) (Int.toNat (Ay .i64 i_19 ((x122.Print.length:Nat):Int))) l42))) (ck 1 (ae (qN (qs (gP [1,2,5,6,7,9,10,11,12] [0,1] (po1 (pn1 (nL 1 eB) (List.set (List.set (List.set at_9 i_19.toNat (List.getD at_9 i_19.toNat [])) (Int.toNat (Ay .i64 i_19 ((x122.Print.length:Nat):Int))) (List.getD (List.set at_9 i_19.toNat (List.getD at_9 i_19.toNat [])) (Int.toNat (Ay .i64 i_19 ((x122.Print.length:Nat):Int))) [])) (Int.toNat (Ay .i64 i_19 ((x122.Print.length:Nat):Int))) l42) (Pl.z)))) (hFR6_Reached_J1 ((List.set (List.set (List.set at_9 i_19.toNat (List.getD at_9 i_19.toNat [])) (Int.toNat (Ay .i64 i_19 ((x122.Print.length:Nat):Int))) (List.getD (List.set at_9 i_19.toNat (List.getD at_9 i_19.toNat [])) (Int.toNat (Ay .i64 i_19 ((x122.Print.length:Nat):Int))) [])) (Int.toNat (Ay .i64 i_19 ((x122.Print.length:Nat):Int))) l42),true) H)))))))))))))))
  ·exact sk (qN (qs (tr (tr (tr (sni (encN:=(nL 1 eB)) (xs:=List.set at_9 i_19.toNat (List.getD at_9 i_19.toNat [])) (n:=Ay .i64 i_19 ((x122.Print.length:Nat):Int)) (enc:=eB) [.osl 4 1 0 (List.length (List.getD (List.set at_9 i_19.toNat (List.getD at_9 i_19.toNat [])) (Int.toNat (Ay .i64 i_19 ((x122.Print.length:Nat):Int))) []))] (List.getD (List.set at_9 i_19.toNat (List.getD at_9 i_19.toNat [])) (Int.toNat (Ay .i64 i_19 ((x122.Print.length:Nat):Int))) []) 1 1 0 4 1) (scl (encN:=(nL 1 eB)) (xss:=List.set at_9 i_19.toNat (List.getD at_9 i_19.toNat [])) (Ay .i64 i_19 ((x122.Print.length:Nat):Int)) [.own 1 (List.map eB (List.getD (List.set at_9 i_19.toNat (List.getD at_9 i_19.toNat [])) (Int.toNat (Ay .i64 i_19 ((x122.Print.length:Nat):Int))) []))] 1 1 (List.getD (List.set at_9 i_19.toNat (List.getD at_9 i_19.toNat [])) (Int.toNat (Ay .i64 i_19 ((x122.Print.length:Nat):Int))) []))) (sn 6 1 1 (lsS (List.set at_9 i_19.toNat (List.getD at_9 i_19.toNat [])) (Int.toNat (Ay .i64 i_19 ((x122.Print.length:Nat):Int))) (List.getD (List.set at_9 i_19.toNat (List.getD at_9 i_19.toNat [])) (Int.toNat (Ay .i64 i_19 ((x122.Print.length:Nat):Int))) [])))) (gP [1,2,5,6,7,9,10,11,12] [0,1] (po1 (pn1 (nL 1 eB) (List.set (List.set at_9 i_19.toNat (List.getD at_9 i_19.toNat [])) (Int.toNat (Ay .i64 i_19 ((x122.Print.length:Nat):Int))) (List.getD (List.set at_9 i_19.toNat (List.getD at_9 i_19.toNat [])) (Int.toNat (Ay .i64 i_19 ((x122.Print.length:Nat):Int))) [])) (Pl.z))))) (hFR6_Reached_J1 ((List.set (List.set at_9 i_19.toNat (List.getD at_9 i_19.toNat [])) (Int.toNat (Ay .i64 i_19 ((x122.Print.length:Nat):Int))) (List.getD (List.set at_9 i_19.toNat (List.getD at_9 i_19.toNat [])) (Int.toNat (Ay .i64 i_19 ((x122.Print.length:Nat):Int))) [])),changed_10) H)))
 ·exact ex 8 (qx (by cases H;exact xo rfl (tr (tr (tr (sni (encN:=(nL 1 eB)) (xs:=at_9) (n:=i_19) (enc:=eB) [.osl 2 1 0 (List.length (List.getD at_9 i_19.toNat []))] (List.getD at_9 i_19.toNat []) 1 1 0 2 1) (scl (encN:=(nL 1 eB)) (xss:=at_9) i_19 [.own 1 (List.map eB (List.getD at_9 i_19.toNat []))] 1 1 (List.getD at_9 i_19.toNat []))) (sn 6 1 1 (lsS at_9 i_19.toNat (List.getD at_9 i_19.toNat [])))) (gP [1,2,5,6,7,9,10,11] [0,1] (po1 (pn1 (nL 1 eB) (List.set at_9 i_19.toNat (List.getD at_9 i_19.toNat [])) (Pl.z)))))))
theorem NI (x:((List (List Bool))×Bool×Int)) (z:(((List (List Bool))×Bool×Int)⊕((List (List Bool))×Bool))) (H:Dj n p0_ p1_ r121 out_25 i_19 x.1 x.2.1 x.2.2=some z):WP (cxk 152 0) (Az Try.f23) [1,1,1,1,1,0,1,0,0,1,0,0,0,1,0,0,1,0,1,1,0,0] (AA 0 (Je p0_ p1_ r121 out_25 i_19) (OL p0_ p1_ r121 out_25 i_19) z) (Je p0_ p1_ r121 out_25 i_19 x):=by
 obtain ⟨at_7,changed_8,k_6⟩:=x
 refine sq (sr (ck 2 (sp (AL Ah r121) (ck 1 (en (cn H (λ H=>?_) (λ H=>?_)))))))
 ·exact sk (qz (sq (bk 7 (sr (ck 1 (en (bk 8 (bx H λ y85 h375 H=>lX NH h375 (gP [1,2,5,6,7,9,10,11,12] [0,1] (po1 (pn1 (nL 1 eB) at_7 (Pl.z)))) rfl λ s hE68=>qH (qN (qs (hE68) (rz (ck 3 (ae (by cases H;exact og (gP [1,2,5,6,7,9,10,11] [0,1] (po1 (pn1 (nL 1 eB) y85.1 (Pl.z))))))))))))))))))
 ·exact ex 6 (qx (by cases H;exact xo rfl (gP [1,2,5,6,7,9,10] [0,1] (po1 (pn1 (nL 1 eB) at_7 (Pl.z))))))
theorem NJ (x:((List (List Bool))×Bool)) (z:(((List (List Bool))×Bool)⊕(List (List Bool)))) (H:Eg n p0_ p1_ r121 out_25 i_19 x.1 x.2=some z):WP (cxk 152 0) (Az Try.f23) [1,1,1,1,1,0,1,0,0,1,0,0,0,1,0,0] (AA 0 (Jf p0_ p1_ r121 out_25 i_19) (OM p0_ p1_ r121 out_25 i_19) z) (Jf p0_ p1_ r121 out_25 i_19 x):=by
 obtain ⟨at_5,changed_7⟩:=x
 refine sq (sr (ck 1 (en (cn H (λ H=>?_) (λ H=>?_)))))
 ·exact sk (qz (bk 5 (sr (ck 1 (en (sr (ck 1 (en (bk 6 (bx H λ y86 h376 H=>lX NI h376 (gP [1,2,5,6,7,9,10,11] [0,1] (po1 (pn1 (nL 1 eB) at_5 (Pl.z)))) rfl λ s hE69=>qH (qN (by cases H;exact og (tr (hE69) (gP [1,2,5,6,7,9,10] [0,1] (po1 (pn1 (nL 1 eB) y86.1 (Pl.z)))))))))))))))))
 ·exact ex 4 (qx (by cases H;exact xo rfl (gP [1,2,5,6,7,9] [0,1] (po1 (pn1 (nL 1 eB) at_5 (Pl.z))))))
theorem NK (x:((List (List Bool))×Int×Int)) (z:(((List (List Bool))×Int×Int)⊕((List (List Bool))×Int))) (H:Dk n p0_ p1_ r121 i_19 class_2 x.1 x.2.1 x.2.2=some z):WP (cxk 152 0) (Az Try.f23) [1,1,1,1,1,0,1,0,0,1,0,0,1,1,1,1,0,0] (AA 0 (Jg p0_ p1_ r121 i_19 class_2) (ON p0_ p1_ r121 i_19) z) (Jg p0_ p1_ r121 i_19 class_2 x):=by
 obtain ⟨at_12,out_27,k_7⟩:=x
 refine sq (sr (ck 2 (sp (AL Ah r121) (ck 1 (en (cn H (λ H=>?_) (λ H=>?_)))))))
 ·refine sk (qz (sj (λ (x:((List (List Bool))×Int))=>JdX p0_ p1_ r121 i_19 class_2 k_7 x.1 x.2) (λ (x:((List (List Bool))×Int))=>Eh n k_7 x.1 x.2) z ?_ (λ hFR6_Reached_J3=>?_)))
  ·rintro ⟨at_14,out_29⟩ H
   exact rz (ck 3 (ae (by cases H;exact og (gP [1,2,5,6,7,9,16,17] [0,1] (po1 (pn1 (nL 1 eB) at_14 (Pl.z)))))))
  refine bk 11 (sq (bx H λ x128 h378 H=>rg (tr (so1 (encN:=(nL 1 eB)) 1 1 h378) (sno (encN:=(nL 1 eB)) (enc:=eB) h378 [.own 1 (x128.map eB)] x128 1 1 0 1)) (ck 2 (sp (Ax 1 1 h378) (sp (Ca (encN:=(nL 1 eB)) (row:=[.osl 2 1 0 (x128.length)]) (k:=1) (sz:=1) (off:=0) (t:=ty 46) (v:=.osl 2 1 0 (x128.length)) h378) (ck 1 (bx H λ x129 h379 H=>sp (Ax 2 1 h379) (sp (B9 eB 2 0 (ty 4) h379) (ck 3 (bx H λ x130 h380 H=>sE (λ hg=>Ar Ah (Bu h380 hg)) (gc 2 x129 (ck 1 (bx H λ r126 h381 H=>cG false (leZ) rfl (λ hg=>HT (Bu h381 hg)) (Or.inl rfl) (CM (λ hh=>hh) (CM (λ hh=>hh) (FZ))) rfl (pA (en (cn H (λ H=>?_) (λ H=>?_)))))))))))))))))
  ·exact rg (tr (tr (tr (sni (encN:=(nL 1 eB)) (xs:=at_12) (n:=i_19) (enc:=eB) [.osl 2 1 0 (x128.length)] x128 1 1 0 2 1) (scl (encN:=(nL 1 eB)) (xss:=at_12) i_19 [.own 1 (x128.map eB)] 1 1 x128)) (sn 6 1 1 (lsS at_12 i_19.toNat x128))) (sn 134 1 1 (lsS at_12 i_19.toNat x128))) (ck 2 (ae (qN (qs (gP [1,2,5,6,7,9,16,17] [0,1] (po1 (pn1 (nL 1 eB) (List.set at_12 i_19.toNat x128) (Pl.z)))) (hFR6_Reached_J3 ((List.set at_12 i_19.toNat x128),i_19) H)))))
  ·exact sk (qN (qs (tr (tr (tr (tr (sni (encN:=(nL 1 eB)) (xs:=at_12) (n:=i_19) (enc:=eB) [.osl 2 1 0 (x128.length)] x128 1 1 0 2 1) (scl (encN:=(nL 1 eB)) (xss:=at_12) i_19 [.own 1 (x128.map eB)] 1 1 x128)) (sn 6 1 1 (lsS at_12 i_19.toNat x128))) (sn 134 1 1 (lsS at_12 i_19.toNat x128))) (gP [1,2,5,6,7,9,16,17] [0,1] (po1 (pn1 (nL 1 eB) (List.set at_12 i_19.toNat x128) (Pl.z))))) (hFR6_Reached_J3 ((List.set at_12 i_19.toNat x128),out_27) H)))
 ·exact ex 10 (qx (by cases H;exact xo rfl (gP [1,2,5,6,7,9] [0,1] (po1 (pn1 (nL 1 eB) at_12 (Pl.z))))))
theorem NL (x:((List (List Bool))×Int×Int)) (z:(((List (List Bool))×Int×Int)⊕Int)) (H:Ej n p0_ p1_ r121 x.1 x.2.1 x.2.2=some z):WP (cxk 152 0) (Az Try.f23) [1,1,1,1,1,0,1,0,0] (AA 0 (Jh p0_ p1_ r121) (OO) z) (Jh p0_ p1_ r121 x):=by
 obtain ⟨at_4,out_25,i_19⟩:=x
 refine sq (sr (ck 4 (en (cn H (λ H=>?_) (λ H=>?_)))))
 ·refine sk (qz (sq (bk 3 (sq (sr (ck 1 (en (bk 4 (bx H λ y87 h377 H=>lX NJ h377 (gP [1,2,5,6,7,9,10] [0,1] (po1 (pn1 (nL 1 eB) at_4 (Pl.z)))) rfl λ s hE70=>qH (qs (hE70) (sr (ck 1 (en (sj (λ (x:Int)=>JdU p0_ p1_ r121 out_25 i_19 y87 x) (λ (x:Int)=>Ei n p0_ p1_ r121 out_25 i_19 y87 x) z ?_ (λ hFR6_Reached_J2=>?_)))))))))))))))
  ·intro class_2 H
   exact sr (ck 1 (en (bk 10 (bx H λ y88 h382 H=>lX NK h382 (gP [1,2,5,6,7,9,16,17] [0,1] (po1 (pn1 (nL 1 eB) y87 (Pl.z)))) rfl λ s hE71=>qH (qN (qs (hE71) (rz (ck 3 (ae (by cases H;exact og (gP [1,2,5,6,7,9] [0,1] (po1 (pn1 (nL 1 eB) y88.1 (Pl.z))))))))))))))
  refine sr (ck 4 (en (cn H (λ H=>?_) (λ H=>?_))))
  ·exact rz (ck 2 (bx H λ b10 h383 H=>sp (GE h383) (bx H λ r127 h384 H=>ca false (JY h384) (ck 1 (ae (qs (gP [1,2,5,6,7,9,16] [0,1] (po1 (pn1 (nL 1 eB) y87 (Pl.z)))) (hFR6_Reached_J2 r127 H)))))))
  ·exact sk (qs (gP [1,2,5,6,7,9,16] [0,1] (po1 (pn1 (nL 1 eB) y87 (Pl.z)))) (hFR6_Reached_J2 0 H))
 ·exact ex 2 (qx (by cases H;exact xo rfl (sg [7])))
theorem RC {z} (H:Ij n p0_ p1_=some z):AG Try.prog 23 [.agg (Am p0_),.d (.str p1_)] (.d (.int .i64 z)):=by
 exact fO 152 (JhC p0_ p1_) Try.func23 (sr (ck 2 (en (sr (ck 1 (bx H λ r121 h353 H=>ca false (DT h353) (ck 1 (en (sr (ck 3 (bx H λ l39 h354 H=>sp (T3 1 (ez:=[.nil]) h354) (ck 2 (en (sq (sq (rg (tr (tr (T0 (encN:=(nL 1 eB)) (sz:=1) (z:=[.nil]) (n:=(Ay .i64 ((p1_.length:Nat):Int) 1)) 1 (Nk h354) (by kernel_rfl) (by kernel_rfl)) (sn 23 1 1 (Id h354))) (sn 6 1 1 (Id h354))) (ck 1 (en (bk 0 (bx H λ y84 h357 H=>lX NG h357 (gP [1,2,5,6,7,8] [0,1] (po1 (pn1 (nL 1 eB) l39 (Pl.z)))) rfl λ s hE67=>qH (qs (hE67) (sq (bx H λ x117 h358 H=>rg (tr (so1 (encN:=(nL 1 eB)) 1 1 h358) (sno (encN:=(nL 1 eB)) (enc:=eB) h358 [.own 1 (x117.map eB)] x117 1 1 0 1)) (ck 1 (sp (Ax 1 1 h358) (sp (Ca (encN:=(nL 1 eB)) (row:=[.osl 2 1 0 (x117.length)]) (k:=1) (sz:=1) (off:=0) (t:=ty 46) (v:=.osl 2 1 0 (x117.length)) h358) (bx H λ x118 h359 H=>sp (Ax 2 1 h359) (bx H λ l41 h360 H=>stA eB 2 0 (ty 4) h359 h360 (en (sq (sq (rg (tr (tr (tr (tr (tr (sn 38 2 1 (Bp h360)) (snr (encN:=(nL 1 eB)) (xs:=y84) (n:=0) [.osl 2 1 0 (x117.length)] 1 1 0 2 1 (Bp h360))) (sni (encN:=(nL 1 eB)) (xs:=y84) (n:=0) (enc:=eB) [.osl 2 1 0 (l41.length)] l41 1 1 0 2 1)) (scl (encN:=(nL 1 eB)) (xss:=y84) 0 [.own 1 (l41.map eB)] 1 1 l41)) (sn 6 1 1 (lsS y84 (Int.toNat 0) l41))) (sn 36 1 1 (lsS y84 (Int.toNat 0) l41))) (ck 1 (en (bk 2 (bx H λ y89 h385 H=>lX NL h385 (gP [1,2,5,6,7,9] [0,1] (po1 (pn1 (nL 1 eB) (List.set y84 (Int.toNat 0) l41) (Pl.z)))) rfl λ s hE72=>qH (qs (hE72) (sr (ck 2 (en (re (by cases H;exact pr rd))))))))))))))))))))))))))))))))))))))))))
end
end Go.AI
end
section
namespace Go.AI
open Go.Proofs
set_option maxRecDepth 10000
variable {n:Nat}
section
variable (p0_:Ab) (p1_:(List UInt8)) (r129:(List (List Int))) (r131:(List Aa)) (out_30:Bq) (p_1:AO) (out_31:Bq) (x136:Int) (r_5:Int) (r_6:Int)
def JhL:St:=⟨(0,.agg [.d (.int .i64 p0_.Modes),.d (.int .u8 p0_.Accept),.d (.sl (p0_.Rules.map Al))])::(1,.d (.str p1_))::[],[]⟩
def JhM:St:=⟨(2,.ptr 0 0)::(4,.ptr 1 0)::(7,.d (.sl (r129.map (eL Af))))::(8,.d (.sl (r131.map Ah)))::(9,.ptr 2 0)::(10,.ptr 3 0)::[],[some (.box (Am p0_)),some (.box [.osl 4 1 0 (List.length ([]:List Int)),.osl 5 1 0 (List.length ([]:List Int)),.d (.int .i64 0),.d (.int .i64 0)]),some (.box (Im out_30 (.osl 6 1 0 (out_30.W.Cells.length)) (.osl 7 1 0 (out_30.W.Path.length)))),some (.box (D7 p_1)),some (.arr 1 (List.map eU8 ([]:List Int))),some (.arr 1 (List.map Af ([]:List Int))),some (.arr 1 (out_30.W.Cells.map eU8)),some (.arr 1 (out_30.W.Path.map Af))]⟩
def JhN:St:=⟨(4,.ptr 0 0)::(9,.ptr 1 0)::[],[some (.box [.osl 2 1 0 (List.length ([]:List Int)),.osl 3 1 0 (List.length ([]:List Int)),.d (.int .i64 0),.d (.int .i64 0)]),some (.box (Im out_31 (.osl 4 1 0 (out_31.W.Cells.length)) (.osl 5 1 0 (out_31.W.Path.length)))),some (.arr 1 (List.map eU8 ([]:List Int))),some (.arr 1 (List.map Af ([]:List Int))),some (.arr 1 (out_31.W.Cells.map eU8)),some (.arr 1 (out_31.W.Path.map Af))]⟩
def JhO:St:=⟨(2,.ptr 0 0)::(4,.ptr 1 0)::(7,.d (.sl (r129.map (eL Af))))::(8,.d (.sl (r131.map Ah)))::(9,.ptr 2 0)::(10,.ptr 3 0)::(11,.d (.int .i64 x136))::(12,.d (.int .i64 r_5))::[],[some (.box (Am p0_)),some (.box [.osl 4 1 0 (List.length ([]:List Int)),.osl 5 1 0 (List.length ([]:List Int)),.d (.int .i64 0),.d (.int .i64 0)]),some (.box (Im out_30 (.osl 6 1 0 (out_30.W.Cells.length)) (.osl 7 1 0 (out_30.W.Path.length)))),some (.box (D7 p_1)),some (.arr 1 (List.map eU8 ([]:List Int))),some (.arr 1 (List.map Af ([]:List Int))),some (.arr 1 (out_30.W.Cells.map eU8)),some (.arr 1 (out_30.W.Path.map Af))]⟩
def JhP:St:=⟨(2,.ptr 0 0)::(4,.ptr 1 0)::(7,.d (.sl (r129.map (eL Af))))::(8,.d (.sl (r131.map Ah)))::(9,.ptr 2 0)::(10,.ptr 3 0)::(12,.d (.int .i64 r_6))::[],[some (.box (Am p0_)),some (.box [.osl 4 1 0 (List.length ([]:List Int)),.osl 5 1 0 (List.length ([]:List Int)),.d (.int .i64 0),.d (.int .i64 0)]),some (.box (Im out_30 (.osl 6 1 0 (out_30.W.Cells.length)) (.osl 7 1 0 (out_30.W.Path.length)))),some (.box (D7 p_1)),some (.arr 1 (List.map eU8 ([]:List Int))),some (.arr 1 (List.map Af ([]:List Int))),some (.arr 1 (out_30.W.Cells.map eU8)),some (.arr 1 (out_30.W.Path.map Af))]⟩
def RD:Int->Ex->St->Prop:=xX 0 2 (λ (y:Int)=>JhP p0_ r129 r131 out_30 p_1 y)
def Lg:Int->St:=(λ (x:Int)=>JhO p0_ r129 r131 out_30 p_1 x136 x)
def RE:Bq->Ex->St->Prop:=xX 0 0 (λ (y:Bq)=>JhN y)
def Lh:(Bq×AO)->St:=(λ (x:(Bq×AO))=>JhM p0_ r129 r131 x.1 x.2)
variable {p0_ p1_ r129 r131 out_30 p_1 out_31 x136 r_5 r_6}
theorem PR (x:Int) (z:(Int⊕Int)) (H:EA n p0_ r129 r131 out_30 p_1 x136 x=some z):WP (cxk 118 0) (Az Try.f11) [1,1,1,1,1,1,1,0,0,0,1,0,1,0,0,0] (AA 0 (Lg p0_ r129 r131 out_30 p_1 x136) (RD p0_ r129 r131 out_30 p_1) z) (Lg p0_ r129 r131 out_30 p_1 x136 x):=by
 revert H
 generalize x=r_5
 intro H
 refine sq (sr (ck 4 (bx H λ r135 h399 H=>ca false (NA h399) (ck 2 (en (cn H (λ H=>?_) (λ H=>?_)))))))
 ·exact sk (qz (bk 3 (rz (ck 3 (ae (qN (by cases H;exact og (sg [2,4,7,8,9,10,11,12]))))))))
 ·exact ex 2 (qx (by cases H;exact xo rfl (sg [2,4,7,8,9,10,12])))
theorem PS (x:(Bq×AO)) (z:((Bq×AO)⊕Bq)) (H:Hk n p0_ r129 r131 x.1 x.2=some z):WP (cxk 118 0) (Az Try.f11) [1,1,1,1,1,1,1,0,0,0] (AA 0 (Lh p0_ r129 r131) (RE) z) (Lh p0_ r129 r131 x):=by
 obtain ⟨out_30,p_1⟩:=x
 refine sq (sr (ck 3 (bx H λ x133 h393 H=>sp (Ar (eL Af) h393) (ck 4 (bx H λ r133 h394 H=>ca false (Cs h394) (bx H λ x134 h395 H=>sp (Ar Af h395) (ck 2 (en (cn H (λ H=>?_) (λ H=>?_))))))))))
 ·exact sk (qz (bk 1 (sr (ck 3 (bx H λ x135 h396 H=>sp (Ar (eL Af) h396) (ck 4 (bx H λ r134 h397 H=>ca false (Cs h397) (bx H λ x136 h398 H=>sp (Ar Af h398) (ck 3 (en (sq (bk 2 (bx H λ y90 h400 H=>lX PR h400 (sg [2,4,7,8,9,10,11,12]) rfl λ s hE73=>qH (qs (hE73) (sr (ck 5 (bx H λ l43 h401 H=>sp (BP Af 7 1 h401) (ck 3 (en (sr (ck 6 (bx H λ x137 h402 H=>sp (Ar Al h402) (ck 2 (bx H λ l44 h403 H=>sp (Xk eU8 6 1 h403) (ck 3 (en (sr (ck 4 (bx H λ r136 h404 H=>ca false (CJ h404) (ck 5 (en (rz (ck 5 (bx H λ x138 h405 H=>sp (Ar Al h405) (ck 6 (ae (qN (by cases H;exact og (sg [2,4,7,8,9,10])))))))))))))))))))))))))))))))))))))))
 ·exact ex 0 (qx (by cases H;exact xo rfl (sg [4,9])))
theorem Um {z} (H:LE n p0_ p1_=some z):AG Try.prog 11 [.agg (Am p0_),.d (.str p1_)] (.agg [.own 1 (z.W.Cells.map eU8),.own 1 (z.W.Path.map Af),.d (.int .i64 z.At),.d (.int .i64 z.E)]):=by
 refine fO 118 (JhL p0_ p1_) Try.func11 (sr (ck 2 (en (sr (ck 1 (bx H λ r128 h386 H=>ca false (Ps h386) (ck 5 (en (sq (sr (ck 2 (en (cn H (λ H=>?_) (λ H=>?_))))))))))))))
 ·exact sr (ck 4 (en (re (qr (by cases H;exact pr (rO (v:=.agg [.d (.nil),.d (.nil),.d (.int .i64 r128.1),.d (.int .i64 r128.2)]) [] (a1 (c1 vz (c1 vz (c1 vd (c1 vd (c0))))))))))))
 ·refine sk (qz (sr (ck 2 (bx H λ r129 h387 H=>ca false (PP h387) (ck 1 (en (sq (sr (ck 1 (bx H λ x131 h388 H=>sp (Ar (eL Af) h388) (ck 1 (bx H λ x132 h389 H=>sp (Ar Af h389) (ck 2 (en (cn H (λ H=>?_) (λ H=>?_))))))))))))))))
  ·exact sr (ck 2 (bx H λ r130 h390 H=>ca false (RC h390) (ck 2 (en (re (qr (by cases H;exact pr (rO (v:=.agg [.d (.nil),.d (.nil),.d (.int .i64 r130),.d (.int .i64 61)]) [] (a1 (c1 vz (c1 vz (c1 vd (c1 vd (c0))))))))))))))
  ·exact sk (qz (sr (ck 1 (bx H λ r131 h391 H=>ca false (DT h391) (ck 6 (en (sr (ck 1 (bx H λ r132 h392 H=>ca false (Ho h392) (ck 4 (en (sq (bk 0 (bx H λ y91 h406 H=>lX PS h406 (tr (tr (tr (tr (B8 1 0 1 (by kernel_rfl)) (B8 1 1 1 (by kernel_rfl))) (B8 2 0 1 (by kernel_rfl))) (B8 2 1 1 (by kernel_rfl))) (sg [2,4,7,8,9,10])) rfl λ s hE74=>qH (qs (hE74) (sr (ck 2 (en (re (by cases H;exact pr (rO (v:=.agg [.osl 4 1 0 (z.W.Cells.length),.osl 5 1 0 (z.W.Path.length),.d (.int .i64 z.At),.d (.int .i64 z.E)]) [4,5] (a1 (c1 vo (c1 vo (c1 vd (c1 vd (c0)))))))))))))))))))))))))))
end
section
variable (p0_:Ab) (r143:(List Aa)) (out_32:(List Bool)) (i_22:Int) (out_33:(List Bool)) (out_34:(List Bool)) (grown_1:Bool) (out_35:(List Bool)) (out_36:(List Bool)) (grown_2:Bool) (i_23:Int) (out_37:(List Bool)) (grown_3:Bool) (out_38:(List Bool)) (grown_4:Bool) (k_8:Int) (out_39:(List Bool)) (grown_5:Bool) (out_40:(List Bool)) (grown_6:Bool)
def JhQ:St:=⟨(0,.agg [.d (.int .i64 p0_.Modes),.d (.int .u8 p0_.Accept),.d (.sl (p0_.Rules.map Al))])::[],[]⟩
def JhR:St:=⟨(1,.ptr 0 0)::(3,.d (.sl (r143.map Ah)))::(4,.osl 1 1 0 (out_32.length))::(5,.d (.int .i64 i_22))::[],[some (.box (Am p0_)),some (.arr 1 (out_32.map eB))]⟩
def JhS:St:=⟨(1,.ptr 0 0)::(3,.d (.sl (r143.map Ah)))::(4,.osl 1 1 0 (out_33.length))::[],[some (.box (Am p0_)),some (.arr 1 (out_33.map eB))]⟩
def RG:(List Bool)->Ex->St->Prop:=xX 0 0 (λ (y:(List Bool))=>JhS p0_ r143 y)
def Li:((List Bool)×Int)->St:=(λ (x:((List Bool)×Int))=>JhR p0_ r143 x.1 x.2)
def JhT:St:=⟨(1,.ptr 0 0)::(3,.d (.sl (r143.map Ah)))::(4,.osl 1 1 0 (out_34.length))::(6,.d (.bool grown_1))::[],[some (.box (Am p0_)),some (.arr 1 (out_34.map eB))]⟩
def JhU:St:=⟨(4,.osl 0 1 0 (out_35.length))::[],[some (.arr 1 (out_35.map eB))]⟩
def JhV:St:=⟨(1,.ptr 0 0)::(3,.d (.sl (r143.map Ah)))::(4,.osl 1 1 0 (out_36.length))::(6,.d (.bool grown_2))::(7,.d (.int .i64 i_23))::[],[some (.box (Am p0_)),some (.arr 1 (out_36.map eB))]⟩
def JhW:St:=⟨(1,.ptr 0 0)::(3,.d (.sl (r143.map Ah)))::(4,.osl 1 1 0 (out_37.length))::(6,.d (.bool grown_3))::[],[some (.box (Am p0_)),some (.arr 1 (out_37.map eB))]⟩
def JhX:St:=⟨(1,.ptr 0 0)::(3,.d (.sl (r143.map Ah)))::(4,.osl 1 1 0 (out_38.length))::(6,.d (.bool grown_4))::(7,.d (.int .i64 i_23))::(8,.d (.int .i64 k_8))::[],[some (.box (Am p0_)),some (.arr 1 (out_38.map eB))]⟩
def JhY:St:=⟨(1,.ptr 0 0)::(3,.d (.sl (r143.map Ah)))::(4,.osl 1 1 0 (out_39.length))::(6,.d (.bool grown_5))::(7,.d (.int .i64 i_23))::[],[some (.box (Am p0_)),some (.arr 1 (out_39.map eB))]⟩
def JdY:St:=⟨(1,.ptr 0 0)::(3,.d (.sl (r143.map Ah)))::(4,.osl 1 1 0 (out_40.length))::(6,.d (.bool grown_6))::(7,.d (.int .i64 i_23))::(8,.d (.int .i64 k_8))::[],[some (.box (Am p0_)),some (.arr 1 (out_40.map eB))]⟩
def RH:((List Bool)×Bool)->Ex->St->Prop:=xX 0 6 (λ (y:((List Bool)×Bool))=>JhY p0_ r143 i_23 y.1 y.2)
def Lj:((List Bool)×Bool×Int)->St:=(λ (x:((List Bool)×Bool×Int))=>JhX p0_ r143 i_23 x.1 x.2.1 x.2.2)
def RI:((List Bool)×Bool)->Ex->St->Prop:=xX 0 4 (λ (y:((List Bool)×Bool))=>JhW p0_ r143 y.1 y.2)
def Lk:((List Bool)×Bool×Int)->St:=(λ (x:((List Bool)×Bool×Int))=>JhV p0_ r143 x.1 x.2.1 x.2.2)
def RJ:(List Bool)->Ex->St->Prop:=xX 0 2 (λ (y:(List Bool))=>JhU y)
def Ll:((List Bool)×Bool)->St:=(λ (x:((List Bool)×Bool))=>JhT p0_ r143 x.1 x.2)
variable {p0_ r143 out_32 i_22 out_33 out_34 grown_1 out_35 out_36 grown_2 i_23 out_37 grown_3 out_38 grown_4 k_8 out_39 grown_5 out_40 grown_6}
theorem PT (x:((List Bool)×Int)) (z:(((List Bool)×Int)⊕(List Bool))) (H:EB n p0_ r143 x.1 x.2=some z):WP (cxk 73 0) (Az Try.f41) [1,1,0,1,0,0] (AA 0 (Li p0_ r143) (RG p0_ r143) z) (Li p0_ r143 x):=by
 obtain ⟨out_32,i_22⟩:=x
 refine sq (sr (ck 2 (sp (AL Ah r143) (ck 1 (en (cn H (λ H=>?_) (λ H=>?_)))))))
 ·exact sk (qz (sq (bk 1 (rz (ck 4 (bx H λ x144 h423 H=>sp (Ar Ah h423) (ck 1 (bx H λ r144 h424 H=>ca false (Ek h424) (ck 1 (bx H λ l46 h425 H=>sp (BP eB 1 1 h425) (ck 1 (ae (qN (qz (rz (ck 3 (ae (by cases H;exact og (sg [1,3,4,5])))))))))))))))))))
 ·exact ex 0 (qx (by cases H;exact xo rfl (sg [1,3,4])))
theorem PU (x:((List Bool)×Bool×Int)) (z:(((List Bool)×Bool×Int)⊕((List Bool)×Bool))) (H:C7 n p0_ r143 i_23 x.1 x.2.1 x.2.2=some z):WP (cxk 73 0) (Az Try.f41) [1,1,1,0,1,0,0,1,0,1,1,0,0,1,0,0,1,0,0] (AA 0 (Lj p0_ r143 i_23) (RH p0_ r143 i_23) z) (Lj p0_ r143 i_23 x):=by
 obtain ⟨out_38,grown_4,k_8⟩:=x
 refine sq (sr (ck 3 (sp (AL Al p0_.Rules) (ck 4 (bx H λ x145 h427 H=>sE (λ hg=>Ax 1 1 (Bu h427 hg)) (sE (g:=decide (k_8<((p0_.Rules.length:Nat):Int))) (λ hg=>B9 eB 1 0 (ty 4) (Bu h427 hg)) (gc 1 (decide (k_8<((p0_.Rules.length:Nat):Int))) (pA (en (cn H (λ H=>?_) (λ H=>?_)))))))))))
 ·refine sk (qz (sj (λ (x:((List Bool)×Bool))=>JdY p0_ r143 i_23 k_8 x.1 x.2) (λ (x:((List Bool)×Bool))=>FO n k_8 x.1 x.2) z ?_ (λ hFR3_Alive_J1=>?_)))
  ·rintro ⟨out_40,grown_6⟩ H
   exact rz (ck 3 (ae (by cases H;exact og (sg [1,3,4,6,7,8]))))
  refine bk 7 (sr (ck 3 (bx H λ x146 h428 H=>sp (Ar Ah h428) (ck 2 (bx H λ r145 h429 H=>ca false (CJ h429) (ck 6 (en (sr (ck 5 (bx H λ r146 h430 H=>cG false (leZ) rfl (λ hg=>Cs (Bu h430 hg)) (Or.inl rfl) (CM (λ hh=>hh) (CM (λ hh=>hh) (FZ))) rfl (bx H λ x147 h431 H=>sE (λ hg=>Ax 1 1 (Bu h431 hg)) (sE (g:=r145.2) (λ hg=>B9 eB 1 0 (ty 4) (Bu h431 hg)) (pA (en (cn H (λ H=>?_) (λ H=>?_))))))))))))))))
  ·exact sr (ck 2 (bx H λ x148 h432 H=>sp (Ax 1 1 h432) (bx H λ l47 h433 H=>stA eB 1 0 (ty 4) h432 h433 (en (rg (tr (sn 4 1 1 (Bp h433)) (sn 69 1 1 (Bp h433))) (ck 1 (ae (qN (qs (sg [1,3,4,6,7,8]) (hFR3_Alive_J1 (l47,true) H))))))))))
  ·exact sk (qN (qs (sg [1,3,4,6,7,8]) (hFR3_Alive_J1 (out_38,grown_4) H)))
 ·exact ex 6 (qx (by cases H;exact xo rfl (sg [1,3,4,6,7])))
theorem PV (x:((List Bool)×Bool×Int)) (z:(((List Bool)×Bool×Int)⊕((List Bool)×Bool))) (H:EC n p0_ r143 x.1 x.2.1 x.2.2=some z):WP (cxk 73 0) (Az Try.f41) [1,1,1,0,1,0,0,1,0,1,1,0,0] (AA 0 (Lk p0_ r143) (RI p0_ r143) z) (Lk p0_ r143 x):=by
 obtain ⟨out_36,grown_2,i_23⟩:=x
 refine sq (sr (ck 2 (sp (AL Ah r143) (ck 1 (en (cn H (λ H=>?_) (λ H=>?_)))))))
 ·exact sk (qz (sq (bk 5 (sr (ck 1 (en (bk 6 (bx H λ y102 h434 H=>lX PU h434 (sg [1,3,4,6,7,8]) rfl λ s hE82=>qH (qN (qs (hE82) (rz (ck 3 (ae (by cases H;exact og (sg [1,3,4,6,7])))))))))))))))
 ·exact ex 4 (qx (by cases H;exact xo rfl (sg [1,3,4,6])))
theorem PW (x:((List Bool)×Bool)) (z:(((List Bool)×Bool)⊕(List Bool))) (H:Hl n p0_ r143 x.1 x.2=some z):WP (cxk 73 0) (Az Try.f41) [1,1,1,0,1,0,0] (AA 0 (Ll p0_ r143) (RJ) z) (Ll p0_ r143 x):=by
 obtain ⟨out_34,grown_1⟩:=x
 refine sq (sr (ck 1 (en (cn H (λ H=>?_) (λ H=>?_)))))
 ·exact sk (qz (bk 3 (sr (ck 1 (en (sr (ck 1 (en (bk 4 (bx H λ y103 h435 H=>lX PV h435 (sg [1,3,4,6,7]) rfl λ s hE83=>qH (qN (by cases H;exact og (tr (hE83) (sg [1,3,4,6]))))))))))))))
 ·exact ex 2 (qx (by cases H;exact xo rfl (sg [4])))
theorem Un {z} (H:LF n p0_=some z):AG Try.prog 41 [.agg (Am p0_)] (.own 1 (z.map eB)):=by
 exact fO 73 (JhQ p0_) Try.func41 (sr (ck 2 (en (sr (ck 1 (bx H λ r143 h422 H=>ca false (DT h422) (ck 3 (en (sq (sr (ck 1 (en (bk 0 (bx H λ y101 h426 H=>lX PT h426 (sg [1,3,4,5]) rfl λ s hE81=>qH (qs (hE81) (sq (sr (ck 1 (en (bk 2 (bx H λ y104 h436 H=>lX PW h436 (sg [1,3,4,6]) rfl λ s hE84=>qH (qs (hE84) (sr (ck 2 (en (re (by cases H;exact pr (rO (v:=.osl 0 1 0 (z.length)) [0] (ao vo)))))))))))))))))))))))))))))
end
section
variable (p0_:Ab) (r147:(List Aa)) (out_41:(List Int)) (near_1:(List Bool)) (i_24:Int) (out_42:(List Int)) (near_2:(List Bool)) (out_43:(List Int)) (near_3:(List Bool)) (grown_7:Bool) (out_44:(List Int)) (out_45:(List Int)) (ring_1:(List Bool)) (grown_8:Bool) (i_25:Int) (out_46:(List Int)) (ring_2:(List Bool)) (grown_9:Bool) (out_47:(List Int)) (ring_3:(List Bool)) (grown_10:Bool) (k_9:Int) (out_48:(List Int)) (ring_4:(List Bool)) (grown_11:Bool) (out_49:(List Int)) (ring_5:(List Bool)) (grown_12:Bool)
def JhZ:St:=⟨(0,.agg [.d (.int .i64 p0_.Modes),.d (.int .u8 p0_.Accept),.d (.sl (p0_.Rules.map Al))])::[],[]⟩
def Jh0:St:=⟨(1,.ptr 0 0)::(3,.d (.sl (r147.map Ah)))::(4,.osl 1 1 0 (out_41.length))::(5,.osl 2 1 0 (near_1.length))::(6,.d (.int .i64 i_24))::[],[some (.box (Am p0_)),some (.arr 1 (out_41.map Af)),some (.arr 1 (near_1.map eB))]⟩
def Jh1:St:=⟨(1,.ptr 0 0)::(3,.d (.sl (r147.map Ah)))::(4,.osl 1 1 0 (out_42.length))::(5,.osl 2 1 0 (near_2.length))::[],[some (.box (Am p0_)),some (.arr 1 (out_42.map Af)),some (.arr 1 (near_2.map eB))]⟩
def Sy:((List Int)×(List Bool))->Ex->St->Prop:=xX 0 0 (λ (y:((List Int)×(List Bool)))=>Jh1 p0_ r147 y.1 y.2)
def Md:((List Int)×(List Bool)×Int)->St:=(λ (x:((List Int)×(List Bool)×Int))=>Jh0 p0_ r147 x.1 x.2.1 x.2.2)
def Jh2:St:=⟨(1,.ptr 0 0)::(3,.d (.sl (r147.map Ah)))::(4,.osl 1 1 0 (out_43.length))::(5,.osl 2 1 0 (near_3.length))::(7,.d (.bool grown_7))::[],[some (.box (Am p0_)),some (.arr 1 (out_43.map Af)),some (.arr 1 (near_3.map eB))]⟩
def Jh3:St:=⟨(4,.osl 0 1 0 (out_44.length))::[],[some (.arr 1 (out_44.map Af))]⟩
def Jh4:St:=⟨(1,.ptr 0 0)::(3,.d (.sl (r147.map Ah)))::(4,.osl 1 1 0 (out_45.length))::(5,.osl 2 1 0 (near_3.length))::(7,.d (.bool grown_8))::(8,.osl 3 1 0 (ring_1.length))::(9,.d (.int .i64 i_25))::[],[some (.box (Am p0_)),some (.arr 1 (out_45.map Af)),some (.arr 1 (near_3.map eB)),some (.arr 1 (ring_1.map eB))]⟩
def Jh5:St:=⟨(1,.ptr 0 0)::(3,.d (.sl (r147.map Ah)))::(4,.osl 1 1 0 (out_46.length))::(7,.d (.bool grown_9))::(8,.osl 2 1 0 (ring_2.length))::[],[some (.box (Am p0_)),some (.arr 1 (out_46.map Af)),some (.arr 1 (ring_2.map eB))]⟩
def Jh6:St:=⟨(1,.ptr 0 0)::(3,.d (.sl (r147.map Ah)))::(4,.osl 1 1 0 (out_47.length))::(5,.osl 2 1 0 (near_3.length))::(7,.d (.bool grown_10))::(8,.osl 3 1 0 (ring_3.length))::(9,.d (.int .i64 i_25))::(10,.d (.int .i64 k_9))::[],[some (.box (Am p0_)),some (.arr 1 (out_47.map Af)),some (.arr 1 (near_3.map eB)),some (.arr 1 (ring_3.map eB))]⟩
def Jh7:St:=⟨(1,.ptr 0 0)::(3,.d (.sl (r147.map Ah)))::(4,.osl 1 1 0 (out_48.length))::(5,.osl 2 1 0 (near_3.length))::(7,.d (.bool grown_11))::(8,.osl 3 1 0 (ring_4.length))::(9,.d (.int .i64 i_25))::[],[some (.box (Am p0_)),some (.arr 1 (out_48.map Af)),some (.arr 1 (near_3.map eB)),some (.arr 1 (ring_4.map eB))]⟩
def JdZ:St:=⟨(1,.ptr 0 0)::(3,.d (.sl (r147.map Ah)))::(4,.osl 1 1 0 (out_49.length))::(5,.osl 2 1 0 (near_3.length))::(7,.d (.bool grown_12))::(8,.osl 3 1 0 (ring_5.length))::(9,.d (.int .i64 i_25))::(10,.d (.int .i64 k_9))::[],[some (.box (Am p0_)),some (.arr 1 (out_49.map Af)),some (.arr 1 (near_3.map eB)),some (.arr 1 (ring_5.map eB))]⟩
def Sz:((List Int)×(List Bool)×Bool)->Ex->St->Prop:=xX 0 6 (λ (y:((List Int)×(List Bool)×Bool))=>Jh7 p0_ r147 near_3 i_25 y.1 y.2.1 y.2.2)
def Me:((List Int)×(List Bool)×Bool×Int)->St:=(λ (x:((List Int)×(List Bool)×Bool×Int))=>Jh6 p0_ r147 near_3 i_25 x.1 x.2.1 x.2.2.1 x.2.2.2)
def SA:((List Int)×(List Bool)×Bool)->Ex->St->Prop:=xX 0 4 (λ (y:((List Int)×(List Bool)×Bool))=>Jh5 p0_ r147 y.1 y.2.1 y.2.2)
def Mf:((List Int)×(List Bool)×Bool×Int)->St:=(λ (x:((List Int)×(List Bool)×Bool×Int))=>Jh4 p0_ r147 near_3 x.1 x.2.1 x.2.2.1 x.2.2.2)
def SB:(List Int)->Ex->St->Prop:=xX 0 2 (λ (y:(List Int))=>Jh3 y)
def Mg:((List Int)×(List Bool)×Bool)->St:=(λ (x:((List Int)×(List Bool)×Bool))=>Jh2 p0_ r147 x.1 x.2.1 x.2.2)
variable {p0_ r147 out_41 near_1 i_24 out_42 near_2 out_43 near_3 grown_7 out_44 out_45 ring_1 grown_8 i_25 out_46 ring_2 grown_9 out_47 ring_3 grown_10 k_9 out_48 ring_4 grown_11 out_49 ring_5 grown_12}
theorem RM (x:((List Int)×(List Bool)×Int)) (z:(((List Int)×(List Bool)×Int)⊕((List Int)×(List Bool)))) (H:Fw n p0_ r147 x.1 x.2.1 x.2.2=some z):WP (cxk 87 0) (Az Try.f42) [1,1,0,1,0,0] (AA 0 (Md p0_ r147) (Sy p0_ r147) z) (Md p0_ r147 x):=by
 obtain ⟨out_41,near_1,i_24⟩:=x
 refine sq (sr (ck 2 (sp (AL Ah r147) (ck 1 (en (cn H (λ H=>?_) (λ H=>?_)))))))
 ·exact sk (qz (sq (bk 1 (sr (ck 2 (bx H λ l48 h438 H=>sp (BP Af 1 1 h438) (ck 1 (en (rz (ck 4 (bx H λ x149 h439 H=>sp (Ar Ah h439) (ck 1 (bx H λ r148 h440 H=>ca false (Ek h440) (ck 1 (bx H λ l49 h441 H=>sp (BP eB 2 1 h441) (ck 1 (ae (qN (qz (rz (ck 3 (ae (by cases H;exact og (sg [1,3,4,5,6]))))))))))))))))))))))))
 ·exact ex 0 (qx (by cases H;exact xo rfl (sg [1,3,4,5])))
theorem RN (x:((List Int)×(List Bool)×Bool×Int)) (z:(((List Int)×(List Bool)×Bool×Int)⊕((List Int)×(List Bool)×Bool))) (H:Fx n p0_ r147 near_3 i_25 x.1 x.2.1 x.2.2.1 x.2.2.2=some z):WP (cxk 87 0) (Az Try.f42) [1,1,1,0,1,0,0,1,0,1,1,0,1,0,0,1,0,0,1,0,0] (AA 0 (Me p0_ r147 near_3 i_25) (Sz p0_ r147 near_3 i_25) z) (Me p0_ r147 near_3 i_25 x):=by
 obtain ⟨out_47,ring_3,grown_10,k_9⟩:=x
 refine sq (sr (ck 3 (sp (AL Al p0_.Rules) (ck 4 (bx H λ x150 h444 H=>sE (λ hg=>Ax 3 1 (Bu h444 hg)) (sE (g:=decide (k_9<((p0_.Rules.length:Nat):Int))) (λ hg=>B9 eB 3 0 (ty 4) (Bu h444 hg)) (gc 1 (decide (k_9<((p0_.Rules.length:Nat):Int))) (pA (en (cn H (λ H=>?_) (λ H=>?_)))))))))))
 ·refine sk (qz (sj (λ (x:((List Int)×(List Bool)×Bool))=>JdZ p0_ r147 near_3 i_25 k_9 x.1 x.2.1 x.2.2) (λ (x:((List Int)×(List Bool)×Bool))=>GT n k_9 x.1 x.2.1 x.2.2) z ?_ (λ hFR3_home_J1=>?_)))
  ·rintro ⟨out_49,ring_5,grown_12⟩ H
   exact rz (ck 3 (ae (by cases H;exact og (sg [1,3,4,5,7,8,9,10]))))
  refine bk 7 (sr (ck 3 (bx H λ x151 h445 H=>sp (Ar Ah h445) (ck 2 (bx H λ r149 h446 H=>ca false (CJ h446) (ck 6 (en (sr (ck 5 (bx H λ r150 h447 H=>cG false (leZ) rfl (λ hg=>Cs (Bu h447 hg)) (Or.inl rfl) (CM (λ hh=>hh) (CM (λ hh=>hh) (FZ))) rfl (bx H λ x152 h448 H=>sE (λ hg=>Ax 2 1 (Bu h448 hg)) (sE (g:=r149.2) (λ hg=>B9 eB 2 0 (ty 4) (Bu h448 hg)) (pA (en (cn H (λ H=>?_) (λ H=>?_))))))))))))))))
  ·exact sr (ck 2 (bx H λ x153 h449 H=>sp (Ax 3 1 h449) (bx H λ l51 h450 H=>stA eB 3 0 (ty 4) h449 h450 (en (sq (rg (tr (sn 8 3 1 (Bp h450)) (sn 78 3 1 (Bp h450))) (ck 3 (bx H λ x154 h451 H=>sp (Ax 1 1 h451) (bx H λ l52 h452 H=>stA Af 1 0 (ty 3) h451 h452 (en (rg (tr (sn 4 1 1 (Bp h452)) (sn 81 1 1 (Bp h452))) (ck 1 (ae (qN (qs (sg [1,3,4,5,7,8,9,10]) (hFR3_home_J1 (l52,l51,true) H))))))))))))))))
  ·exact sk (qN (qs (sg [1,3,4,5,7,8,9,10]) (hFR3_home_J1 (out_47,ring_3,grown_10) H)))
 ·exact ex 6 (qx (by cases H;exact xo rfl (sg [1,3,4,5,7,8,9])))
theorem RO (x:((List Int)×(List Bool)×Bool×Int)) (z:(((List Int)×(List Bool)×Bool×Int)⊕((List Int)×(List Bool)×Bool))) (H:Fy n p0_ r147 near_3 x.1 x.2.1 x.2.2.1 x.2.2.2=some z):WP (cxk 87 0) (Az Try.f42) [1,1,1,0,1,0,0,1,0,1,1,0,1,0,0] (AA 0 (Mf p0_ r147 near_3) (SA p0_ r147) z) (Mf p0_ r147 near_3 x):=by
 obtain ⟨out_45,ring_1,grown_8,i_25⟩:=x
 refine sq (sr (ck 2 (sp (AL Ah r147) (ck 1 (en (cn H (λ H=>?_) (λ H=>?_)))))))
 ·exact sk (qz (sq (bk 5 (sr (ck 1 (en (bk 6 (bx H λ y106 h453 H=>lX RN h453 (sg [1,3,4,5,7,8,9,10]) rfl λ s hE86=>qH (qN (qs (hE86) (rz (ck 3 (ae (by cases H;exact og (sg [1,3,4,5,7,8,9])))))))))))))))
 ·exact ex 4 (qx (by cases H;exact xo rfl (sg [1,3,4,7,8])))
theorem RP (x:((List Int)×(List Bool)×Bool)) (z:(((List Int)×(List Bool)×Bool)⊕(List Int))) (H:Ik n p0_ r147 x.1 x.2.1 x.2.2=some z):WP (cxk 87 0) (Az Try.f42) [1,1,1,0,1,0,0] (AA 0 (Mg p0_ r147) (SB) z) (Mg p0_ r147 x):=by
 obtain ⟨out_43,near_3,grown_7⟩:=x
 refine sq (sr (ck 1 (en (cn H (λ H=>?_) (λ H=>?_)))))
 ·exact sk (qz (bk 3 (sr (ck 1 (en (sr (ck 2 (bx H λ l50 h443 H=>sp (BP eB 3 1 h443) (ck 1 (en (sq (sr (ck 1 (en (bk 4 (bx H λ y107 h454 H=>lX RO h454 (sg [1,3,4,5,7,8,9]) rfl λ s hE87=>qH (qs (hE87) (rz (ck 2 (ae (qN (by cases H;exact og (sg [1,3,4,5,7])))))))))))))))))))))))
 ·exact ex 2 (qx (by cases H;exact xo rfl (sg [4])))
theorem V6 {z} (H:No n p0_=some z):AG Try.prog 42 [.agg (Am p0_)] (.own 1 (z.map Af)):=by
 exact fO 87 (JhZ p0_) Try.func42 (sr (ck 2 (en (sr (ck 1 (bx H λ r147 h437 H=>ca false (DT h437) (ck 5 (en (sq (sr (ck 1 (en (bk 0 (bx H λ y105 h442 H=>lX RM h442 (sg [1,3,4,5,6]) rfl λ s hE85=>qH (qs (hE85) (sq (sr (ck 1 (en (bk 2 (bx H λ y108 h455 H=>lX RP h455 (sg [1,3,4,5,7]) rfl λ s hE88=>qH (qs (hE88) (sr (ck 2 (en (re (by cases H;exact pr (rO (v:=.osl 0 1 0 (z.length)) [0] (ao vo)))))))))))))))))))))))))))))
end
section
variable (p0_:Ab) (p1_:(List Int)) (r151:(List Aa)) (r152:(List Bool)) (r153:(List Int)) (path_1:(List Int)) (s_1:Aa) (size_1:Int) (i_26:Int) (path_2:(List Int)) (s_2:Aa) (fit_1:(List Int)) (k_10:Int) (fit_2:(List Int)) (fit_3:(List Int)) (path_3:(List Int)) (s_3:Aa) (path_4:(List Int))
def Jh8:St:=⟨(0,.agg [.d (.int .i64 p0_.Modes),.d (.int .u8 p0_.Accept),.d (.sl (p0_.Rules.map Al))])::(1,.d (.sl (p1_.map eU8)))::[],[]⟩
def Jh9:St:=⟨(1,.d (.sl (p1_.map eU8)))::(2,.ptr 0 0)::(6,.d (.sl (r151.map Ah)))::(7,.d (.sl (r152.map eB)))::(8,.d (.sl (r153.map Af)))::(9,.osl 1 1 0 (path_1.length))::(10,.ptr 2 0)::(11,.d (.int .i64 size_1))::(12,.d (.int .i64 i_26))::[],[some (.box (Am p0_)),some (.arr 1 (path_1.map Af)),some (.box (FQ s_1))]⟩
def Jia:St:=⟨(2,.ptr 0 0)::(6,.d (.sl (r151.map Ah)))::(8,.d (.sl (r153.map Af)))::(9,.osl 1 1 0 (path_2.length))::(10,.ptr 2 0)::[],[some (.box (Am p0_)),some (.arr 1 (path_2.map Af)),some (.box (FQ s_2))]⟩
def Jib:St:=⟨(1,.d (.sl (p1_.map eU8)))::(2,.ptr 0 0)::(6,.d (.sl (r151.map Ah)))::(7,.d (.sl (r152.map eB)))::(8,.d (.sl (r153.map Af)))::(9,.osl 1 1 0 (path_1.length))::(10,.ptr 2 0)::(11,.d (.int .i64 size_1))::(12,.d (.int .i64 i_26))::(13,.osl 3 1 0 (fit_1.length))::(14,.d (.int .i64 k_10))::[],[some (.box (Am p0_)),some (.arr 1 (path_1.map Af)),some (.box (FQ s_1)),some (.arr 1 (fit_1.map Af))]⟩
def Jic:St:=⟨(1,.d (.sl (p1_.map eU8)))::(2,.ptr 0 0)::(6,.d (.sl (r151.map Ah)))::(7,.d (.sl (r152.map eB)))::(8,.d (.sl (r153.map Af)))::(9,.osl 1 1 0 (path_1.length))::(10,.ptr 2 0)::(11,.d (.int .i64 size_1))::(12,.d (.int .i64 i_26))::(13,.osl 3 1 0 (fit_2.length))::[],[some (.box (Am p0_)),some (.arr 1 (path_1.map Af)),some (.box (FQ s_1)),some (.arr 1 (fit_2.map Af))]⟩
def Jid:St:=⟨(1,.d (.sl (p1_.map eU8)))::(2,.ptr 0 0)::(6,.d (.sl (r151.map Ah)))::(7,.d (.sl (r152.map eB)))::(8,.d (.sl (r153.map Af)))::(9,.osl 1 1 0 (path_1.length))::(10,.ptr 2 0)::(11,.d (.int .i64 size_1))::(12,.d (.int .i64 i_26))::(13,.osl 3 1 0 (fit_3.length))::(14,.d (.int .i64 k_10))::[],[some (.box (Am p0_)),some (.arr 1 (path_1.map Af)),some (.box (FQ s_1)),some (.arr 1 (fit_3.map Af))]⟩
def SC:(List Int)->Ex->St->Prop:=xX 0 2 (λ (y:(List Int))=>Jic p0_ p1_ r151 r152 r153 path_1 s_1 size_1 i_26 y)
def Mh:((List Int)×Int)->St:=(λ (x:((List Int)×Int))=>Jib p0_ p1_ r151 r152 r153 path_1 s_1 size_1 i_26 x.1 x.2)
def SD:((List Int)×Aa)->Ex->St->Prop:=xX 0 0 (λ (y:((List Int)×Aa))=>Jia p0_ r151 r153 y.1 y.2)
def Mi:((List Int)×Aa×Int×Int)->St:=(λ (x:((List Int)×Aa×Int×Int))=>Jh9 p0_ p1_ r151 r152 r153 x.1 x.2.1 x.2.2.1 x.2.2.2)
def Jie:St:=⟨(2,.ptr 0 0)::(6,.d (.sl (r151.map Ah)))::(8,.d (.sl (r153.map Af)))::(9,.osl 1 1 0 (path_3.length))::(10,.ptr 2 0)::[],[some (.box (Am p0_)),some (.arr 1 (path_3.map Af)),some (.box (FQ s_3))]⟩
def Jif:St:=⟨(9,.osl 0 1 0 (path_4.length))::[],[some (.arr 1 (path_4.map Af))]⟩
def SE:(List Int)->Ex->St->Prop:=xX 0 4 (λ (y:(List Int))=>Jif y)
def Mj:((List Int)×Aa)->St:=(λ (x:((List Int)×Aa))=>Jie p0_ r151 r153 x.1 x.2)
variable {p0_ p1_ r151 r152 r153 path_1 s_1 size_1 i_26 path_2 s_2 fit_1 k_10 fit_2 fit_3 path_3 s_3 path_4}
theorem RQ (x:((List Int)×Int)) (z:(((List Int)×Int)⊕(List Int))) (H:Fz n p0_ p1_ r151 r152 r153 path_1 s_1 size_1 i_26 x.1 x.2=some z):WP (cxk 130 0) (Az Try.f19) [1,1,1,1,0,1,0,0,1,0,0,1,0,1,0,0] (AA 0 (Mh p0_ p1_ r151 r152 r153 path_1 s_1 size_1 i_26) (SC p0_ p1_ r151 r152 r153 path_1 s_1 size_1 i_26) z) (Mh p0_ p1_ r151 r152 r153 path_1 s_1 size_1 i_26 x):=by
 obtain ⟨fit_1,k_10⟩:=x
 refine sq (sr (ck 3 (sp (AL Al p0_.Rules) (ck 1 (en (cn H (λ H=>?_) (λ H=>?_)))))))
 ·refine sk (qz (sj (λ (x:(List Int))=>Jid p0_ p1_ r151 r152 r153 path_1 s_1 size_1 i_26 k_10 x) (λ (x:(List Int))=>GU n k_10 x) z ?_ (λ hFR3_Walk_J1=>?_)))
  ·intro fit_3 H
   exact rz (ck 3 (ae (by cases H;exact og (sg [1,2,6,7,8,9,10,11,12,13,14]))))
  refine bk 3 (sr (ck 3 (bx H λ r155 h461 H=>ca false (CJ h461) (ck 6 (en (sr (ck 5 (bx H λ r156 h462 H=>cG false (leZ) rfl (λ hg=>Cs (Bu h462 hg)) (Or.inl rfl) (CM (λ hh=>hh) (CM (λ hh=>hh) (FZ))) rfl (bx H λ x156 h463 H=>sE (λ hg=>Ar eB (Bu h463 hg)) (gc 1 r155.2 (pA (en (cn H (λ H=>?_) (λ H=>?_))))))))))))))
  ·exact rz (ck 3 (bx H λ l53 h464 H=>sp (BP Af 3 1 h464) (ck 1 (ae (qN (qs (sg [1,2,6,7,8,9,10,11,12,13,14]) (hFR3_Walk_J1 l53 H)))))))
  ·exact sk (qN (qs (sg [1,2,6,7,8,9,10,11,12,13,14]) (hFR3_Walk_J1 fit_1 H)))
 ·exact ex 2 (qx (by cases H;exact xo rfl (sg [1,2,6,7,8,9,10,11,12,13])))
theorem RR (x:((List Int)×Aa×Int×Int)) (z:(((List Int)×Aa×Int×Int)⊕((List Int)×Aa))) (H:GV n p0_ p1_ r151 r152 r153 x.1 x.2.1 x.2.2.1 x.2.2.2=some z):WP (cxk 130 0) (Az Try.f19) [1,1,1,1,0,1,0,0] (AA 0 (Mi p0_ p1_ r151 r152 r153) (SD p0_ r151 r153) z) (Mi p0_ p1_ r151 r152 r153 x):=by
 obtain ⟨path_1,s_1,size_1,i_26⟩:=x
 refine sq (sr (ck 2 (sp (AL eU8 p1_) (ck 3 (gc 1 (decide (i_26<((p1_.length:Nat):Int))) (pA (ck 2 (gc 1 ((decide (i_26<((p1_.length:Nat):Int)))&&(decide (i_26<10))) (pA (en (cn H (λ H=>?_) (λ H=>?_))))))))))))
 ·refine sk (qz (sq (bk 1 (sr (ck 2 (en (sq (sr (ck 1 (en (bk 2 (bx H λ y109 h465 H=>lX RQ h465 (sg [1,2,6,7,8,9,10,11,12,13,14]) rfl λ s hE89=>qH (qs (hE89) (sq (sr (ck 3 (en (cn H (λ H=>?_) (λ H=>?_)))))))))))))))))))
  ·exact ex 0 (qx (qX rfl (qx (by cases H;exact xo rfl (sg [2,6,8,9,10])))))
  ·exact sk (qz (sr (ck 3 (bx H λ x157 h466 H=>sp (Ar eU8 h466) (ck 4 (bx H λ gd14 h467 H=>so (Q5 h467) (bx H λ x158 h468 H=>sp (Ax 3 1 h468) (sp (B9 Af 3 0 (ty 3) h468) (ck 1 (en (sr (ck 3 (bx H λ l54 h469 H=>sp (BP Af 1 1 h469) (ck 1 (en (sr (ck 4 (bx H λ x159 h470 H=>sp (Ar Al h470) (ck 5 (en (rz (ck 3 (bx H λ r157 h471 H=>ca false (CJ h471) (ck 4 (ae (qN (qz (rz (ck 3 (ae (by cases H;exact og (sg [1,2,6,7,8,9,10,11,12]))))))))))))))))))))))))))))))))
 ·exact ex 0 (qx (by cases H;exact xo rfl (sg [2,6,8,9,10])))
theorem RT (x:((List Int)×Aa)) (z:(((List Int)×Aa)⊕(List Int))) (H:GW n p0_ r151 r153 x.1 x.2=some z):WP (cxk 130 0) (Az Try.f19) [1,1,1,1,1,0,0,0] (AA 0 (Mj p0_ r151 r153) (SE) z) (Mj p0_ r151 r153 x):=by
 obtain ⟨path_3,s_3⟩:=x
 refine sq (sr (ck 2 (bx H λ r158 h473 H=>ca false (Ek h473) (ck 1 (en (cn H (λ H=>?_) (λ H=>?_)))))))
 ·exact sk (qz (bk 5 (sr (ck 3 (bx H λ r159 h474 H=>ca false (Cs h474) (bx H λ x160 h475 H=>sp (Ar Af h475) (ck 2 (en (sr (ck 3 (bx H λ l55 h476 H=>sp (BP Af 1 1 h476) (ck 1 (en (rz (ck 3 (bx H λ r160 h477 H=>ca false (CJ h477) (ck 4 (ae (qN (by cases H;exact og (sg [2,6,8,9,10])))))))))))))))))))))
 ·exact ex 4 (qx (by cases H;exact xo rfl (sg [9])))
theorem V7 {z} (H:Np n p0_ p1_=some z):AG Try.prog 19 [.agg (Am p0_),.d (.sl (p1_.map eU8))] (.tup [.own 1 (z.1.map Af),.d (.bool z.2)]):=by
 refine fO 130 (Jh8 p0_ p1_) Try.func19 (sr (ck 3 (en (sr (ck 1 (bx H λ r151 h456 H=>ca false (DT h456) (ck 1 (bx H λ r152 h457 H=>ca false (Un h457) (ck 1 (bx H λ r153 h458 H=>ca false (V6 h458) (ck 3 (en (sq (sr (ck 1 (bx H λ x155 h459 H=>sp (Ar eB h459) (ck 2 (en (cn H (λ H=>?_) (λ H=>?_))))))))))))))))))))
 ·exact sr (ck 3 (en (re (qr (by cases H;exact pr (rT (vs:=[.osl 1 1 0 (List.length ([]:List Int)),.d (.bool false)]) [1] (t1 (ao vo) (t1 (ad vd) (t0)))))))))
 ·exact sk (qz (sr (ck 1 (bx H λ r154 h460 H=>ca false (Ho h460) (ck 4 (en (sq (sr (ck 1 (en (bk 0 (bx H λ y110 h472 H=>lX RR h472 (sg [1,2,6,7,8,9,10,11,12]) rfl λ s hE90=>qH (qs (hE90) (sq (bk 4 (bx H λ y111 h478 H=>lX RT h478 (sg [2,6,8,9,10]) rfl λ s hE91=>qH (qs (hE91) (sr (ck 3 (en (re (by cases H;exact pr (rT (vs:=[.osl 0 1 0 (y111.length),.d (.bool true)]) [0] (t1 (ao vo) (t1 (ad vd) (t0))))))))))))))))))))))))))
end
section
variable (p0_:Ab) (p1_:(List Int)) (out_50:CD) (i_27:Int) (out_51:CD)
def Jig:St:=⟨(0,.agg [.d (.int .i64 p0_.Modes),.d (.int .u8 p0_.Accept),.d (.sl (p0_.Rules.map Al))])::(1,.d (.sl (p1_.map Af)))::[],[]⟩
def Jih:St:=⟨(1,.d (.sl (p1_.map Af)))::(2,.ptr 0 0)::(4,.ptr 1 0)::(5,.ptr 2 0)::(6,.d (.int .i64 i_27))::[],[some (.box (Am p0_)),some (.box [.d (.str []),.osl 3 1 0 (List.length ([]:List Int)),.d (.int .i64 0),.d (.int .i64 0),.d (.int .i64 0),.d (.int .u8 0),.d (.bool false)]),some (.box (VY out_50 (.osl 4 1 0 (out_50.Cells.length)))),some (.arr 1 (List.map eU8 ([]:List Int))),some (.arr 1 (out_50.Cells.map eU8))]⟩
def Jii:St:=⟨(2,.ptr 0 0)::(4,.ptr 1 0)::(5,.ptr 2 0)::[],[some (.box (Am p0_)),some (.box [.d (.str []),.osl 3 1 0 (List.length ([]:List Int)),.d (.int .i64 0),.d (.int .i64 0),.d (.int .i64 0),.d (.int .u8 0),.d (.bool false)]),some (.box (VY out_51 (.osl 4 1 0 (out_51.Cells.length)))),some (.arr 1 (List.map eU8 ([]:List Int))),some (.arr 1 (out_51.Cells.map eU8))]⟩
def Uo:(CD⊕CD)->Ex->St->Prop:=xS (xX 0 0 (λ (y:CD)=>Jii p0_ y)) (xR ty Try.f20 (λ (y:CD)=>.agg [.d (.str y.Text),.own 1 (y.Cells.map eU8),.d (.int .i64 y.At),.d (.int .i64 y.End.Mode),.d (.int .i64 y.End.Last),.d (.int .u8 y.End.Need),.d (.bool y.Ok)]))
def NM:(CD×Int)->St:=(λ (x:(CD×Int))=>Jih p0_ p1_ x.1 x.2)
variable {p0_ p1_ out_50 i_27 out_51}
theorem Ml (x:(CD×Int)) (z:((CD×Int)⊕(CD⊕CD))) (H:Gv n p0_ p1_ x.1 x.2=some z):WP (cxk 69 0) (Az Try.f20) [1,1,0,1,0,0] (AA 0 (NM p0_ p1_) (Uo p0_) z) (NM p0_ p1_ x):=by
 obtain ⟨out_50,i_27⟩:=x
 refine sq (sr (ck 2 (sp (AL Af p1_) (ck 1 (en (cn H (λ H=>?_) (λ H=>?_)))))))
 ·refine sk (qz (sq (bk 1 (sr (ck 5 (bx H λ x161 h480 H=>sp (Ar Af h480) (ck 1 (bx H λ r162 h481 H=>ca true (CJ h481) (ck 6 (en (sq (sr (ck 2 (en (cn H (λ H=>?_) (λ H=>?_))))))))))))))))
  ·exact sr (ck 2 (en (re (qr (qR (qr (by cases H;exact ro rfl (rO (v:=.agg [.d (.str out_50.Text),.osl 4 1 0 (out_50.Cells.length),.d (.int .i64 out_50.At),.d (.int .i64 out_50.End.Mode),.d (.int .i64 out_50.End.Last),.d (.int .u8 out_50.End.Need),.d (.bool out_50.Ok)]) [4] (a1 (c1 vd (c1 vo (c1 vd (c1 vd (c1 vd (c1 vd (c1 vd (c0)))))))))))))))))
  ·exact sk (qz (sr (ck 6 (bx H λ x162 h482 H=>sp (Ar Af h482) (ck 1 (bx H λ x163 h483 H=>sp (Ar Al h483) (ck 2 (bx H λ s8 h484 H=>sp (JaM h484) (ck 2 (en (sr (ck 6 (bx H λ x164 h485 H=>sp (Ar Af h485) (ck 1 (bx H λ x165 h486 H=>sp (Ar Al h486) (ck 2 (bx H λ l56 h487 H=>sp (Xk eU8 4 1 h487) (ck 2 (en (sr (ck 3 (en (rz (ck 5 (ae (qN (qz (rz (ck 3 (ae (by cases H;exact og (sg [1,2,4,5,6]))))))))))))))))))))))))))))))))
 ·exact ex 0 (qx (by cases H;exact xo rfl (sg [2,4,5])))
theorem Xq {z} (H:Nq n p0_ p1_=some z):AG Try.prog 20 [.agg (Am p0_),.d (.sl (p1_.map Af))] (.agg [.d (.str z.Text),.own 1 (z.Cells.map eU8),.d (.int .i64 z.At),.d (.int .i64 z.End.Mode),.d (.int .i64 z.End.Last),.d (.int .u8 z.End.Need),.d (.bool z.Ok)]):=by
 refine fO 69 (Jig p0_ p1_) Try.func20 (sr (ck 2 (en (sr (bx H λ r161 h479 H=>ca false (Ho h479) (ck 3 (en (sq (sr (ck 1 (en (bk 0 (bx H λ y112 h488 H=>?_)))))))))))))
 rcases y112 with y113|y114
 ·exact lX Ml h488 (tr (tr (B8 1 1 1 (by kernel_rfl)) (B8 2 1 1 (by kernel_rfl))) (sg [1,2,4,5,6])) rfl λ s hE92=>qH (qs (hE92) (sr (ck 3 (bx H λ r163 h489 H=>ca false (Ek h489) (ck 2 (en (sr (ck 2 (en (re (by cases H;exact pr (rO (v:=.agg [.d (.str y113.Text),.osl 4 1 0 (y113.Cells.length),.d (.int .i64 y113.At),.d (.int .i64 y113.End.Mode),.d (.int .i64 y113.End.Last),.d (.int .u8 y113.End.Need),.d (.bool r163)]) [4] (a1 (c1 vd (c1 vo (c1 vd (c1 vd (c1 vd (c1 vd (c1 vd (c0)))))))))))))))))))))
 ·exact lR Ml h488 (tr (tr (B8 1 1 1 (by kernel_rfl)) (B8 2 1 1 (by kernel_rfl))) (sg [1,2,4,5,6])) rfl λ s hE93=>qR (qr (by cases H;exact pr hE93))
end
section
variable (p0_:Ab) (p1_:(List Int))
def Jij:St:=⟨(0,.agg [.d (.int .i64 p0_.Modes),.d (.int .u8 p0_.Accept),.d (.sl (p0_.Rules.map Al))])::(1,.d (.sl (p1_.map eU8)))::[],[]⟩
variable {p0_ p1_}
theorem V8 {z} (H:Nr n p0_ p1_=some z):AG Try.prog 10 [.agg (Am p0_),.d (.sl (p1_.map eU8))] (.tup [.d (.str z.1),.d (.bool z.2)]):=by
 exact fO 19 (Jij p0_ p1_) Try.func10 (sr (ck 3 (en (sr (ck 2 (bx H λ r164 h490 H=>cl [List.length r164.1] (V7 h490) (ck 5 (en (sr (ck 2 (bx H λ r165 h491 H=>cb (ks:=[1]) (obl:=[(0+List.length r164.1,List.length (r164.1.map Af))]) false (leK leM (leZ)) (EI rfl (EI X4 rfl)) (Xq h491) (Or.inr ⟨trivial,⟨(JjZ λ _=>rfl),⟨trivial,⟨trivial,⟨trivial,⟨trivial,⟨trivial,trivial⟩⟩⟩⟩⟩⟩⟩) rfl (ck 4 (en (re (by cases H;exact pr rdT)))))))))))))))
end
section
variable (p0_:KZ) (p1_:(List Int)) (r166:Bool) (r167:Ab) (r168:((List UInt8)×Bool)) (r169:Bq) (reached_1:(List Bool)) (last_1:Int) (cell_2:Int) (reached_2:(List Bool)) (y116:(List Bool)) (at_16:Int) (i_28:Int) (x168:Av) (k_11:Int)
def JjI:St:=⟨(0,.agg [.d (.int .u8 p0_.Base),.d (.int .u8 p0_.Drop),.d (.sl (p0_.More.map FA))])::(1,.d (.sl (p1_.map eU8)))::[],[]⟩
def JjJ:St:=⟨(5,.d (.bool r166))::(6,.ptr 0 0)::(7,.d (.str r168.1))::(9,.ptr 1 0)::(10,.osl 2 1 0 (reached_1.length))::(11,.d (.int .i64 last_1))::(12,.d (.int .i64 cell_2))::[],[some (.box (Am r167)),some (.box (Nu r169)),some (.arr 1 (reached_1.map eB))]⟩
def JjK:St:=⟨(5,.d (.bool r166))::(6,.ptr 0 0)::(9,.ptr 1 0)::(10,.osl 2 1 0 (reached_2.length))::[],[some (.box (Am r167)),some (.box (Nu r169)),some (.arr 1 (reached_2.map eB))]⟩
def Lm:((List Bool)⊕Bool)->Ex->St->Prop:=xS (xX 0 0 (λ (y:(List Bool))=>JjK r166 r167 r169 y)) (xR ty Try.f4 (λ (y:Bool)=>.d (.bool y)))
def GZ:((List Bool)×Int×Int)->St:=(λ (x:((List Bool)×Int×Int))=>JjJ r166 r167 r168 r169 x.1 x.2.1 x.2.2)
def JjL:St:=⟨(5,.d (.bool r166))::(6,.ptr 0 0)::(9,.ptr 1 0)::(10,.osl 2 1 0 (y116.length))::(15,.d (.int .i64 at_16))::(16,.d (.int .i64 i_28))::[],[some (.box (Am r167)),some (.box (Nu r169)),some (.arr 1 (y116.map eB))]⟩
def JjM:St:=⟨(5,.d (.bool r166))::[],[]⟩
def JjN:St:=⟨(5,.d (.bool r166))::(6,.ptr 0 0)::(9,.ptr 1 0)::(10,.osl 2 1 0 (y116.length))::(15,.d (.int .i64 at_16))::(16,.d (.int .i64 i_28))::(17,.d (.int .i64 ((x168.Print.length:Nat):Int)))::(18,.d (.int .i64 k_11))::[],[some (.box (Am r167)),some (.box (Nu r169)),some (.arr 1 (y116.map eB))]⟩
def JjO:St:=⟨(5,.d (.bool r166))::(6,.ptr 0 0)::(9,.ptr 1 0)::(10,.osl 2 1 0 (y116.length))::(15,.d (.int .i64 at_16))::(16,.d (.int .i64 i_28))::(17,.d (.int .i64 ((x168.Print.length:Nat):Int)))::[],[some (.box (Am r167)),some (.box (Nu r169)),some (.arr 1 (y116.map eB))]⟩
def Ln:(Unit⊕Bool)->Ex->St->Prop:=xS (xX 0 4 (λ (y:Unit)=>JjO r166 r167 r169 y116 at_16 i_28 x168)) (xR ty Try.f4 (λ (y:Bool)=>.d (.bool y)))
def G0:Int->St:=(λ (x:Int)=>JjN r166 r167 r169 y116 at_16 i_28 x168 x)
def Lp:(Unit⊕Bool)->Ex->St->Prop:=xS (xX 0 2 (λ (y:Unit)=>JjM r166)) (xR ty Try.f4 (λ (y:Bool)=>.d (.bool y)))
def G1:(Int×Int)->St:=(λ (x:(Int×Int))=>JjL r166 r167 r169 y116 x.1 x.2)
variable {p0_ p1_ r166 r167 r168 r169 reached_1 last_1 cell_2 reached_2 y116 at_16 i_28 x168 k_11}
theorem Gg (x:((List Bool)×Int×Int)) (z:(((List Bool)×Int×Int)⊕((List Bool)⊕Bool))) (H:Co n r166 r167 r168 r169 x.1 x.2.1 x.2.2=some z):WP (cxk 127 0) (Az Try.f4) [1,1,1,1,1,1,1,1,0,1,0,0] (AA 0 (GZ r166 r167 r168 r169) (Lm r166 r167 r169) z) (GZ r166 r167 r168 r169 x):=by
 obtain ⟨reached_1,last_1,cell_2⟩:=x
 refine sq (sr (ck 4 (sp (AL eU8 r169.W.Cells) (ck 1 (en (cn H (λ H=>?_) (λ H=>?_)))))))
 ·refine sk (qz (sq (bk 1 (sr (ck 3 (bx H λ r170 h497 H=>ca false (C8 h497) (ck 5 (en (sq (sr (ck 5 (gc 1 (!(r170.2 != 0)) (pO (ck 3 (gc 2 (!((r170.2 != 0)||(decide (r170.1<last_1)))) (pO (ck 2 (gc 2 (!(((r170.2 != 0)||(decide (r170.1<last_1)))||(decide (r170.1>((r168.1.length:Nat):Int))))) (ck 1 (gc 1 ((!(((r170.2 != 0)||(decide (r170.1<last_1)))||(decide (r170.1>((r168.1.length:Nat):Int)))))&&(cell_2==0)) (pG (g:=(!(((r170.2 != 0)||(decide (r170.1<last_1)))||(decide (r170.1>((r168.1.length:Nat):Int)))))) (v:=.d (.bool ((cell_2==0)&&(r170.1 != 0)))) (λ hg=>IY (c:=.gv (!(((r170.2 != 0)||(decide (r170.1<last_1)))||(decide (r170.1>((r168.1.length:Nat):Int))))) (.d (.bool (cell_2==0)))) (a:=.gv ((!(((r170.2 != 0)||(decide (r170.1<last_1)))||(decide (r170.1>((r168.1.length:Nat):Int)))))&&(cell_2==0)) (.d (.bool (r170.1 != 0)))) (b:=.d (.bool false)) rfl rfl rfl ((λ hh=>hh) hg) (λ ht=>by rw [(λ hh=>hh) hg,ht];rfl) trivial) (pO (en (cn H (λ H=>?_) (λ H=>?_)))))))))))))))))))))))))
  ·exact sr (ck 1 (en (re (qr (qR (qr (by cases H;exact ro rfl rd)))))))
  ·exact sk (qz (sr (ck 2 (bx H λ x166 h498 H=>sp (Ax 2 1 h498) (bx H λ l58 h499 H=>stA eB 2 0 (ty 4) h498 h499 (en (rg (tr (sn 10 2 1 (Bp h499)) (sn 79 2 1 (Bp h499))) (ck 2 (ae (qN (qz (rz (ck 3 (ae (by cases H;exact og (sg [5,6,7,9,10,11,12]))))))))))))))))
 ·exact ex 0 (qx (by cases H;exact xo rfl (sg [5,6,9,10])))
theorem Gh (x:Int) (z:(Int⊕(Unit⊕Bool))) (H:DA n r166 r167 r169 y116 at_16 i_28 x168 x=some z):WP (cxk 127 0) (Az Try.f4) [1,1,1,1,1,1,1,1,1,1,0,1,0,0,1,0,0,1,1,0,1,0,0] (AA 0 (G0 r166 r167 r169 y116 at_16 i_28 x168) (Ln r166 r167 r169 y116 at_16 i_28 x168) z) (G0 r166 r167 r169 y116 at_16 i_28 x168 x):=by
 revert H
 generalize x=k_11
 intro H
 refine sq (sr (ck 3 (en (cn H (λ H=>?_) (λ H=>?_)))))
 ·refine sk (qz (sq (bk 5 (sr (ck 4 (bx H λ x170 h504 H=>sp (Ax 2 1 h504) (sp (B9 eB 2 0 (ty 4) h504) (en (cn H (λ H=>?_) (λ H=>?_))))))))))
  ·exact sr (ck 1 (en (re (qR (qr (by cases H;exact ro rfl rd))))))
  ·exact sk (qN (qz (rz (ck 3 (ae (by cases H;exact og (sg [5,6,9,10,15,16,17,18])))))))
 ·exact ex 4 (qx (by cases H;exact xo rfl (sg [5,6,9,10,15,16,17])))
theorem Gi (x:(Int×Int)) (z:((Int×Int)⊕(Unit⊕Bool))) (H:Cp n r166 r167 r169 y116 x.1 x.2=some z):WP (cxk 127 0) (Az Try.f4) [1,1,1,1,1,1,1,1,1,1,0,1,0,0] (AA 0 (G1 r166 r167 r169 y116) (Lp r166) z) (G1 r166 r167 r169 y116 x):=by
 obtain ⟨at_16,i_28⟩:=x
 refine sq (sr (ck 4 (sp (AL Af r169.W.Path) (ck 1 (en (cn H (λ H=>?_) (λ H=>?_)))))))
 ·refine sk (qz (sq (bk 3 (sr (ck 6 (bx H λ x167 h501 H=>sp (Ar Af h501) (ck 1 (bx H λ x168 h502 H=>sp (Ar Al h502) (ck 4 (en (sq (sr (ck 5 (bx H λ x169 h503 H=>sE (λ hg=>Ax 2 1 (Bu h503 hg)) (sE (g:=decide (((x168.Print.length:Nat):Int)>0)) (λ hg=>B9 eB 2 0 (ty 4) (Bu h503 hg)) (gc 1 (decide (((x168.Print.length:Nat):Int)>0)) (pA (en (cn H (λ H=>?_) (λ H=>?_))))))))))))))))))))
  ·exact sr (ck 1 (en (re (qr (qR (qr (by cases H;exact ro rfl rd)))))))
  ·refine sk (qz (sq (sr (ck 1 (en (bk 4 (bx H λ y118 h505 H=>?_)))))))
   rcases y118 with y119|y120
   ·exact lX Gh h505 (sg [5,6,9,10,15,16,17,18]) rfl λ s hE95=>qH (qs (hE95) (rz (ck 4 (ae (qN (qz (rz (ck 3 (ae (by cases H;exact og (sg [5,6,9,10,15,16])))))))))))
   ·exact lR Gh h505 (sg [5,6,9,10,15,16,17,18]) rfl λ s hE96=>qR (qr (qR (qr (by cases H;exact ro rfl hE96))))
 ·exact ex 2 (qx (by cases H;exact xo rfl (sg [5])))
theorem MJ {z} (H:E7 n p0_ p1_=some z):AG Try.prog 4 [.agg (Xp p0_),.d (.sl (p1_.map eU8))] (.d (.bool z)):=by
 refine fO 127 (JjI p0_ p1_) Try.func4 (sr (ck 2 (en (sr (bx H λ r166 h492 H=>ca true (Rq h492) (ck 1 (en (sr (ck 1 (bx H λ r167 h493 H=>ca false (V5 h493) (ck 2 (en (sr (ck 2 (bx H λ r168 h494 H=>ca false (V8 h494) (ck 5 (en (sr (ck 2 (bx H λ r169 h495 H=>ca false (Um h495) (ck 2 (en (sq (sr (ck 4 (gc 2 (!(!r168.2)) (pO (en (cn H (λ H=>?_) (λ H=>?_))))))))))))))))))))))))))))))
 ·exact sr (ck 2 (en (re (qr (by cases H;exact pr rd)))))
 ·refine sk (qz (sr (ck 3 (bx H λ l57 h496 H=>sp (VR eB 1 h496) (ck 1 (en (sr (ck 1 (en (sq (sr (ck 1 (en (bk 0 (bx H λ y115 h500 H=>?_)))))))))))))))
  rcases y115 with y116|y117
  ·refine lX Gg h500 (sg [5,6,7,9,10,11,12]) rfl λ s hE94=>qH (qs (hE94) (sr (ck 1 (en (sq (sr (ck 1 (en (bk 2 (bx H λ y121 h506 H=>?_))))))))))
   rcases y121 with y122|y123
   ·exact lX Gi h506 (sg [5,6,9,10,15,16]) rfl λ s hE97=>qH (qs (hE97) (sr (ck 2 (en (re (by cases H;exact pr rd))))))
   ·exact lR Gi h506 (sg [5,6,9,10,15,16]) rfl λ s hE98=>qR (qr (by cases H;exact pr hE98))
  ·exact lR Gg h500 (sg [5,6,7,9,10,11,12]) rfl λ s hE99=>qR (qr (by cases H;exact pr hE99))
end
end Go.AI
end
section
namespace Go.AI
def CRd (F:Nat->Option Obj) (l:List D) (cs:List Value):Prop:=l.length=cs.length/\∀ (i:Nat) (y:D) (v:Value),l[i]? = some y->cs[i]? = some v->Bs F y v
def Ji {α:Type} (P:Program) (t:TypeId) (enc:α->List D) (ok:α->Prop):Prop:=
 ∀ (H:Type) (e:TypeId×Value->H) (w:World) (base:Nat) (spare:Nat->Bool) (held:Bool) (fuel:Nat) (cs:List Value) (x:DataW H×List MemPlace),DataW.trod e P w base spare held fuel t cs=some x->∃ a:α,ok a/\CRd (λ b=>w.heap[b]?) (enc a) cs
theorem Up {F:Nat->Option Obj} {y:D} {v:Value} (h:Bs F y v):CRd F [y] [v]:=by
 refine ⟨rfl,λ i a b ha hb=>?_⟩
 cases i with
 | zero=>simp at ha hb;subst ha;subst hb;exact h
 | succ i=>simp at ha
theorem Zi {P:Program} {t:TypeId} {k:IntKind} (ht:P.underlying t=some (.int k)):Ji P t (λ n=>[.int k n]) (λ n=>(Lit.int k n).wf=true):=by
 intro H e w base spare held fuel cs x h
 obtain ⟨n,rfl,_,hw⟩:=DataW.trod_int ht h
 exact ⟨n,hw,Up (.int k n)⟩
theorem V9 {α:Type} {Q:Nat->α->Prop}:∀ n,(∀ i,i<n->∃ a,Q i a)->∃ l:List α,l.length=n/\∀ i a,l[i]? = some a->Q i a:=by
 intro n
 induction n with
 | zero=>intro _;exact ⟨[],rfl,λ i a h=>by simp at h⟩
 | succ n ih=>
  intro h
  obtain ⟨l,hl,hq⟩:=ih λ i hi=>h i (by omega)
  obtain ⟨a,ha⟩:=h n (by omega)
  refine ⟨l++[a],by simp [hl],λ i b hb=>?_⟩
  rcases Nat.lt_or_ge i l.length with hlt|hge
  ·rw [JkK hlt] at hb;exact hq i b hb
  ·rw [JkV hge] at hb
   have:i-l.length=0:=by have:=Ag hb;simp at this;omega
   rw [this] at hb
   simp at hb
   subst hb
   have:i=n:=by omega
   subst this
   exact ha
theorem Wa {α β:Type} {f:α->Option β}:∀ {l:List α} {r:List β},l.mapM f=some r->r.length=l.length/\∀ (i:Nat) (a:α),l[i]? = some a->r[i]? = f a:=by
 intro l
 induction l with
 | nil=>intro r h;simp at h;subst h;exact ⟨rfl,λ i a h=>by simp at h⟩
 | cons a l ih=>
  intro r h
  rw [List.mapM_cons] at h
  simp only [Option.bind_eq_bind,Option.bind_eq_some_iff,Option.pure_def,JkN] at h
  obtain ⟨b,hb,r',hr',rfl⟩:=h
  obtain ⟨h1,h2⟩:=ih hr'
  refine ⟨by simp [h1],λ i x hx=>?_⟩
  cases i with
  | zero=>simp at hx;subst hx;simp [hb]
  | succ i=>simpa using h2 i x (by simpa using hx)
theorem Pt {α:Type} {P:Program} {t e:TypeId} {enc:α->List D} {ok:α->Prop} {sz:Nat} (ht:P.underlying t=some (.slice e)) (hsz:P.cellsOf e=sz) (h1:Nat.ble 1 sz=true) (hl:∀ a,(enc a).length=sz) (he:Ji P e enc ok):Ji P t (eL enc) (λ l=>∀ a∈l,ok a):=by
 intro H en w base spare held fuel cs x h
 have h1:=JkS h1
 rcases DataW.trod_slice ht h with ⟨rfl,_⟩|⟨a,len,cap,elems,rest,n,_,rfl,_,_,hcap,_,hel,hget,_,_⟩
 ·exact ⟨[],λ a h=>by simp at h,Up (.sl0 _ _)⟩
 ·rw [hsz] at hget
  have hex:∀ i,i<len->∃ y:α,ok y/\∃ ci,w.cells? base (a.add (i*sz)) sz=some ci/\CRd (λ b=>w.heap[b]?) (enc y) ci:=λ i hi=>by
   have hg:=hget i hi
   rw [JkC (show i<elems.length by omega)] at hg
   simp only [Option.bind_eq_some_iff] at hg
   obtain ⟨ci,hc,htr⟩:=hg
   obtain ⟨y,hy,hcr⟩:=he H en w base spare held n ci _ htr
   exact ⟨y,hy,ci,hc,hcr⟩
  obtain ⟨l,hll,hq⟩:=V9 len hex
  refine ⟨l,λ y hy=>?_,Up ?_⟩
  ·obtain ⟨i,hi⟩:=List.mem_iff_getElem?.1 hy
   exact (hq i y hi).1
  ·rcases Nat.eq_zero_or_pos len with h0|hpos
   ·have:l=[]:=List.length_eq_zero_iff.1 (by omega)
    subst this;subst h0
    exact .sl0 _ _
   ·
    have hcell:∀ i y,l[i]? = some y->∀ j,j<sz->∃ v,w.cell? ((a.add (i*sz)).add j)=some v/\∀ d,(enc y)[j]? = some d->Bs (λ b=>w.heap[b]?) d v:=λ i y hy j hj=>by
     obtain ⟨_,ci,hc,hcr⟩:=hq i y hy
     unfold World.cells? at hc
     split at hc
     ·obtain ⟨g1,g2⟩:=Wa hc
      have:=g2 j j (by simp [hj])
      have hjc:j<ci.length:=by rw [g1];simpa using hj
      rw [JkC hjc] at this
      exact ⟨ci[j],this.symm,λ d hd=>hcr.2 j d _ hd (JkC hjc)⟩
     ·cases hc
    have h0:l[0]? = some l[0]:=JkC (by omega)
    obtain ⟨v0,hv0,_⟩:=hcell 0 _ h0 0 (by omega)
    have ha0:(a.add (0*sz)).add 0=a:=by simp [Addr.add]
    rw [ha0] at hv0
    obtain ⟨b,off,spot⟩:=a
    unfold World.cell? at hv0
    simp only at hv0
    split at hv0
    ·rename_i c ty fr hblk
     cases spot with
     | some s=>simp at hv0
     | none=>
      have hcell':∀ i y,l[i]? = some y->∀ j d,(enc y)[j]? = some d->∃ v,c[off+i*sz+j]? = some v/\Bs (λ b=>w.heap[b]?) d v:=λ i y hy j d hd=>by
       have hj:j<sz:=by rw [← hl y];exact Ag hd
       obtain ⟨v,hv,hr⟩:=hcell i y hy j hj
       rw [Ct,Ct,KN hblk] at hv
       exact ⟨v,hv,hr d hd⟩
      have hlen:(l.map enc).length=len:=by simp [hll]
      have:=Bs.sl (F:=λ b=>w.heap[b]?) (l.map enc) b off cap sz c ty fr (λ i j=>(c[off+i*sz+j]?).getD undef) hblk (λ e he=>by
        simp only [List.mem_map] at he
        obtain ⟨y,_,rfl⟩:=he
        exact hl y) (by omega) (λ i e hi j d hd=>by
        simp only [JkG,JkF] at hi
        obtain ⟨y,hy,rfl⟩:=hi
        obtain ⟨v,hv,_⟩:=hcell' i y hy j d hd
        simp only [hv,Option.getD_some]) (λ i e hi j d hd=>by
        simp only [JkG,JkF] at hi
        obtain ⟨y,hy,rfl⟩:=hi
        obtain ⟨v,hv,hr⟩:=hcell' i y hy j d hd
        simp only [hv,Option.getD_some]
        exact hr)
      rw [hlen] at this
      exact this
    ·cases hv0
theorem EZ {F:Nat->Option Obj} {l m:List D} {cs:List Value} {o n:Nat} (h:CRd F l ((cs.drop o).take n)) (hn:Nat.beq l.length n=true) (h':CRd F m (cs.drop (o+n))):CRd F (l++m) (cs.drop o):=by
 have hn:=JkJ hn
 have e:cs.drop o=(cs.drop o).take n++cs.drop (o+n):=by rw [← List.drop_drop,List.take_append_drop]
 rw [e]
 refine ⟨by simp only [List.length_append,h.1,h'.1],λ i y v hy hv=>?_⟩
 rcases Nat.lt_or_ge i l.length with hlt|hge
 ·rw [JkK hlt] at hy
  rw [JkK (by rw [← h.1];exact hlt)] at hv
  exact h.2 i y v hy hv
 ·rw [JkV hge] at hy
  rw [JkV (by rw [← h.1];exact hge),← h.1] at hv
  exact h'.2 _ y v hy hv
theorem Uq {F:Nat->Option Obj} {cs:List Value} {o:Nat} (h:cs.length<=o):CRd F [] (cs.drop o):=by
 rw [List.drop_eq_nil_of_le h];exact ⟨rfl,λ i y v hy=>by simp at hy⟩
theorem Xr {H:Type} {enc:TypeId×Value->H} {P:Program} {w:World} {base:Nat} {spare:Nat->Bool} {held:Bool} {fuel:Nat} {t e:TypeId} {n:Nat} {cs:List Value} {x:DataW H×List MemPlace} (ht:P.underlying t=some (.array n e)) (h:DataW.trod enc P w base spare held fuel t cs=some x) :
  ∃ m,cs.length=P.cellsOf t/\∀ i,i<n->∃ y,DataW.trod enc P w base spare held m e ((cs.drop (i*P.cellsOf e)).take (P.cellsOf e))=some y:=by
 cases fuel with
 | zero=>simp [DataW.trod] at h
 | succ m=>
  unfold DataW.trod at h
  rw [ht] at h
  split at h<;>simp_all
  obtain ⟨xs,hp,_⟩:=h.2
  refine ⟨m,λ i hi=>?_⟩
  obtain ⟨g1,g2⟩:=Wa hp
  have:=g2 i i (by simp [hi])
  have hlt:i<xs.length:=by rw [g1];simpa using hi
  rw [JkC hlt] at this
  exact ⟨_,_,this.symm⟩
end Go.AI
end
section
namespace Go.AI
open Go.ChangeShapes Go.WideShapes Go.ChangeAt Go.RowKit
variable {P:Program} {H:Type} {en:TypeId×Value->H} {W W':World} {base:Nat} {spare:Nat->Bool} {held:Bool} {t e:TypeId} {v:Value} {d:DataW H} {ps:List MemPlace} {α:Type} {enc:α->List D} {ok:α->Prop}
theorem Jd0 {cs:Array Value} (hv:v=.agg cs) (hd:DataW.Trod en P W base spare held t v d ps) (hr:Ji P t enc ok):∃ a,ok a/\Ai (λ b=>W.heap[b]?) noR (.agg ((enc a).map .d)) v:=by
 subst hv
 obtain ⟨fuel,hf⟩:=hd
 obtain ⟨a,h1,h2,h3⟩:=hr H en W base spare held fuel _ _ hf
 refine ⟨a,h1,.agg _ _ (by simpa [Value.cells] using h2) λ i x u hx hu=>?_⟩
 simp only [JkG,JkF] at hx
 obtain ⟨y,hy,rfl⟩:=hx
 exact .d _ _ (h3 i y u hy (by simpa [Value.cells] using hu))
theorem Jd1 {y:α->D} (hc:v.cells=#[v]) (hd:DataW.Trod en P W base spare held t v d ps) (hr:Ji P t enc ok) (he:∀ a,enc a=[y a]):∃ a,ok a/\Ai (λ b=>W.heap[b]?) noR (.d (y a)) v:=by
 obtain ⟨fuel,hf⟩:=hd
 obtain ⟨a,h1,h2,h3⟩:=hr H en W base spare held fuel _ _ hf
 refine ⟨a,h1,.d _ _ (h3 0 (y a) v (by rw [he];rfl) (by rw [hc];rfl))⟩
theorem Jik {F:Nat->Option Obj} {ρ:Nat->Option Loc}:CR F ρ [] []:=⟨rfl,λ i a v h=>by simp at h⟩
theorem Yf {F:Nat->Option Obj} {ρ:Nat->Option Loc} {a:AV} {v:Value} {l:List AV} {vs:List Value} (h:Ai F ρ a v) (h':CR F ρ l vs):CR F ρ (a::l) (v::vs):=by
 refine ⟨by simp [h'.1],λ i x u hx hu=>?_⟩
 cases i with
 | zero=>simp at hx hu;subst hx;subst hu;exact h
 | succ i=>exact h'.2 i x u (by simpa using hx) (by simpa using hu)
theorem fld {w:World} {fuel:Nat} {cs:List Value} {fs:Array Field} {xs:List (DataW H×List MemPlace)} (hg:∀ (i:Nat) (f:Field),fs[i]? = some f->DataW.trod en P w base spare held fuel f.type ((cs.drop f.offset).take (P.cellsOf f.type))=xs[i]?) (hxl:xs.length=fs.size) (i:Nat) {f:Field} (hf:fs[i]? = some f) (u o n:Nat) (hu:f.type=u) (ho:f.offset=o) (hn:P.cellsOf u=n) (hr:Ji P u enc ok) :
  ∃ a,ok a/\CRd (λ b=>w.heap[b]?) (enc a) ((cs.drop o).take n):=by
 have:=hg i f hf
 have hi:i<xs.length:=by rw [hxl];exact Aq hf
 rw [JkC hi,hu,ho,hn] at this
 exact hr H en w base spare held fuel _ _ this
theorem JjP {w:World} {fuel:Nat} {cs:List Value} {m:Nat} (hg:∀ i,i<m->∃ y,DataW.trod en P w base spare held fuel e ((cs.drop (i*P.cellsOf e)).take (P.cellsOf e))=some y) (i:Nat) (hi:Nat.ble (i+1) m=true) (o n:Nat) (hn:P.cellsOf e=n) (ho:i*n=o) (hr:Ji P e enc ok) :
  ∃ a,ok a/\CRd (λ b=>w.heap[b]?) (enc a) ((cs.drop o).take n):=by
 obtain ⟨y,hy⟩:=hg i (JkS hi)
 rw [hn,ho] at hy
 exact hr H en w base spare held fuel _ _ hy
theorem Jb5 {f:FuncId} {args:List AV} {vs:Array Value} (hc:AG P f args (.d (.bool true))) (hcr:CR (λ b=>W.heap[b]?) noR args vs.toList):Calls P f vs W λ e W'=>e=.returned (.bool true)/\(∀ before:List MemPlace,W.keptBut W' (·∈before))/\∀ b,b<W.heap.size->W'.heap[b]? = W.heap[b]? := by
 refine (hc.2 (λ b=>W.heap[b]?) W vs hcr λ b o h=>h).mono λ e W' h=>?_
 obtain ⟨v,F',ρ,rfl,hS,hr,hmu⟩:=h
 have hv:v=.bool true:=by
  have:(B1 true 0 (.d (.bool true))).1=.d (.bool true):=rfl
  rw [this] at hr
  exact hr.bool
 subst hv
 have hold:∀ b,b<W.heap.size->W'.heap[b]? = W.heap[b]? := λ b hb=>hS.old b (by omega)
 refine ⟨rfl,λ before=>World.keptBut_mono (λ p hp=>hp.elim) (?_:W.keptBut W' λ _=>False),hold⟩
 refine ⟨hmu.1,hmu.2.1,λ i hi=>?_⟩
 rw [hold i hi]
 cases hh:W.heap[i]? with
 | none=>rfl
 | some o=>cases o<;>first|exact ⟨rfl,rfl,rfl,λ _ _=>rfl⟩|exact .inr ⟨rfl,rfl⟩|rfl
theorem Zj {f:Func} {s:ChangeSpec} {apart fresh handsOn again:Bool} {args:Array Value} {ds gs:List (DataW H)} {before pa pv:List MemPlace}
  (hW:DataW.Whole en P f.params.toList s.vars apart W args.toList ds gs before)
  (hres:∀ (b:Nat) (sp:Nat->Bool) (hd:Bool),DataW.TrodAll en P W' b sp hd f.resultTypes.toList (v.resultList f.resultTypes.size) (s.fn H (ds++gs)).results [])
  (hargs:∀ sp:Nat->Bool,(∀ p∈before,sp p.block=true)->DataW.TrodAll en P W' 0 sp true f.params.toList args.toList (s.fn H (ds++gs)).args pa)
  (hvars:∀ sp:Nat->Bool,(∀ p∈before,sp p.block=true)->DataW.TrodVars en P W' sp s.vars (s.fn H (ds++gs)).vars pv)
  (hps:before=pa++pv) (hk:W.keptBut W' (·∈before)) (hold:∀ b,b<W.heap.size->W'.heap[b]? = W.heap[b]?)
  (hok:∀ (j:Nat) (t:TypeId) (r:Value),f.resultTypes[j]? = some t->(v.resultList f.resultTypes.size)[j]? = some r->Value.okWide P W' .any 0 t r) :
  s.post en P f apart fresh handsOn again W args v W':=by
 have hin:∀ p∈before,(λ b=>decide (b<W.heap.size)) p.block=true:=λ p hp=>by simpa using hW.lt p hp
 have hlt:=hW.lt
 refine ⟨ds,gs,before,[],pa,pv,hW,hres _ _ _,hargs _ hin,hvars _ hin,World.keptBut_mono (λ p hp=>⟨hp,?_⟩) hk,λ _=>?_⟩
 ·rw [hps,List.mem_append] at hp
  exact Or.inr hp
 ·obtain ⟨_,_,_,_,_,hz,hn⟩:=hW
  refine ⟨hok,_,_,([]++pa)++pv,⟨[]++pa,pv,trodAll_append (hargs _ (λ _ _=>rfl)) (hres _ _ _),hvars _ (λ _ _=>rfl),rfl,?_,?_⟩,?_⟩
  ·intro b off hp
   have hp:MemPlace.cell b off∈before:=by rw [hps];simpa using hp
   have:=hz b off hp
   simp only [World.frozen?,hold b (hlt _ hp)] at this ⊢
   exact this
  ·intro ha
   have:=hn ha
   rw [hps] at this
   simpa using this
  ·intro p hp _
   rw [hps]
   simpa using hp
theorem JeL (hl:laidOutB P=true) (hr:P.readableRec t=true) (hrow:t<P.types.size) (h:DataW.Trod en P W 0 (λ _=>true) true t v d ps) (hb:∀ p∈ps,p.block<W.heap.size) {sp:Nat->Bool} (hs:∀ p∈ps,sp p.block=true) (hold:∀ b,b<W.heap.size->W'.heap[b]? = W.heap[b]?):DataW.Trod en P W' 0 sp true t v d ps:=by
 refine WideElems.Trod_stays hl hr hrow h (λ p hp=>?_) hs
 have:=hb p hp
 cases p with
 | cell b o=>exact World.cell?_of_block (w:=W) (hold b this)
 | map b=>exact hold b this
end Go.AI
end
section
namespace Go.AI
open Go.Proofs Go.ChangeShapes Go.WideShapes Go.ChangeAt Go.RowKit
def okI (k:IntKind) (n:Int):Prop:=(Lit.int k n).wf=true
theorem rd5:Ji Try.prog 5 eU8 (okI .u8):=Zi Try.underlying5
theorem Jil:Ji Try.prog 25 (eL eU8) (λ l=>∀ a∈l,okI .u8 a):=Pt (sz:=1) Try.underlying25 (by kernel_rfl) rfl (λ _=>rfl) rd5
theorem Jkx:Ji Try.prog 68 (Jjv eU8) (λ x=>okI .u8 x.a0/\okI .u8 x.a1):=by
 intro H e w base spare held fuel cs x h
 obtain ⟨m,hcl,hg⟩:=Xr Try.underlying68 h
 have hcl:cs.length=2:=hcl.trans (by kernel_rfl)
 obtain ⟨a0,k0,c0⟩:=JjP hg 0 rfl 0 1 (by kernel_rfl) rfl rd5
 obtain ⟨a1,k1,c1⟩:=JjP hg 1 rfl 1 1 (by kernel_rfl) rfl rd5
 refine ⟨⟨a0,a1⟩,⟨k0,k1⟩,?_⟩
 have:=EZ c0 rfl (EZ c1 rfl (Uq (Nat.le_of_eq hcl)))
 exact this
def JZ (x:Dd):Prop:=(∀ a∈x.P,okI .u8 a)/\(∀ a∈x.C,okI .u8 a)/\okI .u8 x.L/\okI .u8 x.R/\(okI .u8 x.W.a0/\okI .u8 x.W.a1)
theorem Jky:Ji Try.prog 70 FA JZ:=by
 intro H e w base spare held fuel cs x h
 obtain ⟨xs,n,_,_,hcl,hxl,hg⟩:=DataW.trod_struct Try.underlying70 h
 have hcl:cs.length=6:=hcl.trans (by kernel_rfl)
 obtain ⟨a0,k0,c0⟩:=fld hg hxl 0 rfl 25 0 1 rfl rfl (by kernel_rfl) Jil
 obtain ⟨a1,k1,c1⟩:=fld hg hxl 1 rfl 25 1 1 rfl rfl (by kernel_rfl) Jil
 obtain ⟨a2,k2,c2⟩:=fld hg hxl 2 rfl 5 2 1 rfl rfl (by kernel_rfl) rd5
 obtain ⟨a3,k3,c3⟩:=fld hg hxl 3 rfl 5 3 1 rfl rfl (by kernel_rfl) rd5
 obtain ⟨a4,k4,c4⟩:=fld hg hxl 4 rfl 68 4 2 rfl rfl (by kernel_rfl) Jkx
 refine ⟨⟨a0,a1,a2,a3,a4⟩,⟨k0,k1,k2,k3,k4⟩,?_⟩
 have:=EZ c0 rfl (EZ c1 rfl (EZ c2 rfl (EZ c3 rfl (EZ c4 rfl (Uq (Nat.le_of_eq hcl))))))
 exact this
theorem Jkz:Ji Try.prog 22 (eL FA) (λ l=>∀ a∈l,JZ a):=Pt (sz:=6) Try.underlying22 (by kernel_rfl) rfl (λ _=>rfl) Jky
def Xs (x:KZ):Prop:=okI .u8 x.Base/\okI .u8 x.Drop/\(∀ a∈x.More,JZ a)
theorem JkA:Ji Try.prog 24 Jjw Xs:=by
 intro H e w base spare held fuel cs x h
 obtain ⟨xs,n,_,_,hcl,hxl,hg⟩:=DataW.trod_struct Try.underlying24 h
 have hcl:cs.length=3:=hcl.trans (by kernel_rfl)
 obtain ⟨a0,k0,c0⟩:=fld hg hxl 0 rfl 5 0 1 rfl rfl (by kernel_rfl) rd5
 obtain ⟨a1,k1,c1⟩:=fld hg hxl 1 rfl 5 1 1 rfl rfl (by kernel_rfl) rd5
 obtain ⟨a2,k2,c2⟩:=fld hg hxl 2 rfl 22 2 1 rfl rfl (by kernel_rfl) Jkz
 refine ⟨⟨a0,a1,a2⟩,⟨k0,k1,k2⟩,?_⟩
 have:=EZ c0 rfl (EZ c1 rfl (EZ c2 rfl (Uq (Nat.le_of_eq hcl))))
 exact this
end Go.AI
end
section
namespace Go.AI
def Le {α:Type} (a b:Option α):Prop:=∀ z,a=some z->b=some z
theorem Le.refl {α:Type} (a:Option α):Le a a:=λ _ h=>h
theorem Le.bind {α β:Type} {a a':Option α} {f f':α->Option β} (h:Le a a') (hf:∀ x,Le (f x) (f' x)):Le (a.bind f) (a'.bind f'):=by
 intro z hz
 obtain ⟨x,h1,h2⟩:=bind_some hz
 rw [h x h1]
 exact hf x z h2
theorem Le.ite {α:Type} {c:Prop} [Decidable c] {a a' b b':Option α} (h:Le a a') (h':Le b b'):Le (if c then a else b) (if c then a' else b'):=by
 split
 ·exact h
 ·exact h'
theorem Le.whl {σ ρ:Type} {body body':σ->Option (σ⊕ρ)} (hb:∀ x,Le (body x) (body' x)):∀ {n m:Nat},n<=m->∀ x,Le (whl body n x) (whl body' m x):=by
 intro n
 induction n with
 | zero=>intro m _ x z hz;cases hz
 | succ n ih=>
  intro m hm x z hz
  cases m with
  | zero=>omega
  | succ m=>
   simp only [Go.AI.whl] at hz ⊢
   cases hx:body x with
   | none=>rw [hx] at hz;cases hz
   | some y=>
    rw [hb x y hx]
    rw [hx] at hz
    cases y with
    | inl y=>exact ih (by omega) y z hz
    | inr r=>exact hz
theorem Le.sum {α β γ:Type} {y:α⊕β} {f f':α->Option γ} {g g':β->Option γ} (hf:∀ a,Le (f a) (f' a)) (hg:∀ b,Le (g b) (g' b)):Le (match y with | .inl a=>f a | .inr b=>g b) (match y with | .inl a=>f' a | .inr b=>g' b):=by
 cases y with
 | inl a=>exact hf a
 | inr b=>exact hg b
def Ev {α:Type} (f:Nat->Option α) (z:α):Prop:=∃ n,∀ m,n<=m->f m=some z
theorem Ev.const {α:Type} {z:α}:Ev (λ _=>some z) z:=⟨0,λ _ _=>rfl⟩
theorem Ev.of {α:Type} {f:Nat->Option α} {z:α} (hm:∀ n m,n<=m->Le (f n) (f m)) {n:Nat} (h:f n=some z):Ev f z:=⟨n,λ m hnm=>hm n m hnm z h⟩
theorem Ev.all {α:Type} {f:Nat->Option α} {z:α} (h:∀ n,f n=some z):Ev f z:=⟨0,λ m _=>h m⟩
theorem Ev.bind {α β:Type} {f:Nat->Option α} {g:Nat->α->Option β} {x:α} {z:β} (h:Ev f x) (hg:Ev (λ n=>g n x) z):Ev (λ n=>(f n).bind (g n)) z:=by
 obtain ⟨n,hn⟩:=h
 obtain ⟨m,hm⟩:=hg
 refine ⟨max n m,λ k hk=>?_⟩
 show (f k).bind (g k)=_
 rw [hn k (by omega)]
 exact hm k (by omega)
theorem Ev.out {α:Type} {f:Nat->Option α} {z:α} (h:Ev f z):∃ n,f n=some z:=by
 obtain ⟨n,hn⟩:=h
 exact ⟨n,hn n (Nat.le_refl n)⟩
theorem Ev.congr {α:Type} {f g:Nat->Option α} {z:α} (h:Ev f z) (e:∀ n,g n=f n):Ev g z:=by
 obtain ⟨n,hn⟩:=h
 exact ⟨n,λ m hm=>by rw [e m];exact hn m hm⟩
theorem Ev.whl {σ ρ:Type} {body:Nat->σ->Option (σ⊕ρ)} {r:ρ} (I:Nat->σ->Prop) (h:∀ k x,I k x->(∃ y j,j<k/\I j y/\Ev (λ n=>body n x) (.inl y))\/Ev (λ n=>body n x) (.inr r)):∀ (k:Nat) (x:σ),I k x->Ev (λ n=>Go.AI.whl (body n) n x) r:=by
 have key:∀ (k:Nat) (x:σ),I k x->∃ N c,∀ n fuel,N<=n->c<=fuel->Go.AI.whl (body n) fuel x=some r:=by
  intro k
  induction k using Nat.strongRecOn with
  | _ k ih=>
   intro x hx
   rcases h k x hx with ⟨y,j,hj,hy,N1,h1⟩|⟨N1,h1⟩
   ·obtain ⟨N2,c,h2⟩:=ih j hj y hy
    refine ⟨max N1 N2,c+1,λ n fuel hn hf=>?_⟩
    cases fuel with
    | zero=>omega
    | succ fuel=>
     have e:=h1 n (by omega)
     simp only at e
     simp only [Go.AI.whl,e]
     exact h2 n fuel (by omega) (by omega)
   ·refine ⟨N1,1,λ n fuel hn hf=>?_⟩
    cases fuel with
    | zero=>omega
    | succ fuel=>
     have e:=h1 n hn
     simp only at e
     simp only [Go.AI.whl,e]
 intro k x hx
 obtain ⟨N,c,hh⟩:=key k x hx
 exact ⟨max N c,λ m hm=>hh m m (by omega) (by omega)⟩
end Go.AI
end
section
namespace Go.AI
theorem lr {α:Type} {x:Option α}:Le x x:=Le.refl x
theorem NN {n m} (_:n<=m) (a b):Le (FK n a b) (FK m a b):=.ite (.bind lr λ _=>.bind lr λ _=>.bind lr λ _=>lr) lr
theorem RU {n m} (h:n<=m):Le (If n) (If m):=.bind (Le.whl (λ _=>NN h _ _) h _) λ _=>.bind lr λ _=>lr
theorem MK {n m} (_:n<=m) (a):Le (DE n a) (DE m a):=lr
theorem RV {n m} (h:n<=m) (a b):Le (Fm n a b) (Fm m a b):=.ite (.bind lr λ _=>.bind (MK h _) λ _=>.ite lr lr) lr
theorem Pu {n m} (h:n<=m) (a):Le (HJ n a) (HJ m a):=.bind (Le.whl (λ _=>RV h _ _) h _) λ y2=>by rcases y2 with _|_;exact lr;exact lr
theorem Hp {n m} (_:n<=m) (a):Le (Er n a) (Er m a):=.ite lr (.ite lr (.ite lr (.ite lr lr)))
theorem ML {n m} (h:n<=m) (a b):Le (CY n a b) (CY m a b):=.ite (.bind lr λ _=>.bind (Hp h _) λ _=>.ite lr lr) lr
theorem PX {n m} (h:n<=m) (a):Le (Es n a) (Es m a):=.bind (Le.whl (λ _=>ML h _ _) h _) λ y5=>by rcases y5 with _|_;exact lr;exact lr
theorem Ur {n m} (_:n<=m) (a):Le (I0 n a) (I0 m a):=lr
theorem PY {n m} (h:n<=m) (a b):Le (Et n a b) (Et m a b):=.ite (.bind lr λ _=>.bind (Ur h _) λ _=>.ite lr lr) lr
theorem Us {n m} (h:n<=m) (a b):Le (Hu n a b) (Hu m a b):=.ite lr (.bind (Pu h _) λ _=>.ite lr (.ite lr (.ite lr (.bind (PX h _) λ _=>.ite (.bind (Le.ite (lr) (lr)) λ _=>lr) (.bind (Le.whl (λ _=>PY h _ _) h _) λ y8=>by rcases y8 with _|_;exact lr;exact lr)))))
theorem PZ {n m} (_:n<=m) (a b c):Le (Eu n a b c) (Eu m a b c):=.ite (.bind lr λ _=>.bind lr λ _=>.ite lr lr) lr
theorem Ut {n m} (h:n<=m) (a b):Le (Hv n a b) (Hv m a b):=.ite lr (.bind (Le.whl (λ _=>PZ h _ _ _) h _) λ y11=>by rcases y11 with _|_;exact lr;exact lr)
theorem Uu {n m} (h:n<=m) (a b):Le (Hw n a b) (Hw m a b):=.bind (Le.ite (Ut h _ _) (lr)) λ _=>lr
theorem P0 {n m} (h:n<=m) (a b c d e):Le (Dv n a b c d e) (Dv m a b c d e):=.ite (.bind lr λ _=>.bind (Uu h _ _) λ _=>.ite lr lr) lr
theorem P1 {n m} (h:n<=m) (a b):Le (Dw n a b) (Dw m a b):=.ite (.bind lr λ _=>.bind (Us h _ _) λ _=>.ite lr (.bind lr λ _=>.bind (Le.whl (λ _=>P0 h _ _ _ _ _) h _) λ y14=>by rcases y14 with _|_;exact lr;exact lr)) lr
theorem Uv {n m} (h:n<=m) (a):Le (Hx n a) (Hx m a):=.ite lr (.bind (Le.ite (lr) (lr)) λ _=>.ite lr (.ite lr (.bind (Le.whl (λ _=>P1 h _ _) h _) λ y17=>by rcases y17 with _|_;exact lr;exact lr)))
theorem Uw {n m} (h:n<=m) (a):Le (Ew n a) (Ew m a):=.bind (Uv h _) λ _=>lr
theorem Ux {n m} (_:n<=m):Le (I1 n) (I1 m):=lr
theorem J0 {n m} (_:n<=m) (a b):Le (Hg n a b) (Hg m a b):=.bind (Le.ite (lr) (lr)) λ _=>lr
theorem Pv {n m} (h:n<=m) (a b c):Le (HK n a b c) (HK m a b c):=.ite lr (.bind lr λ _=>.bind (Le.ite (J0 h _ _) (lr)) λ _=>.ite lr (.ite (.ite lr lr) (.bind lr λ _=>.bind (Hp h _) λ _=>.bind (J0 h _ _) λ _=>.ite lr (.bind lr λ _=>.bind (Hp h _) λ _=>lr))))
theorem Iz {n m} (_:n<=m) (a b c d):Le (Cv n a b c d) (Cv m a b c d):=lr
theorem IA {n m} (h:n<=m) (a b c d e f):Le (CS n a b c d e f) (CS m a b c d e f):=.bind lr λ _=>.bind lr λ _=>Iz h _ _ _ _
theorem NO {n m} (h:n<=m) (a b c d e f):Le (Bv n a b c d e f) (Bv m a b c d e f):=.ite (.bind lr λ _=>.bind (Pv h _ _ _) λ _=>.ite (Iz h _ _ _ _) (.ite (.bind lr λ _=>.bind lr λ _=>IA h _ _ _ _ _ _) (IA h _ _ _ _ _ _))) lr
theorem NP {n m} (h:n<=m) (a b c d e):Le (Cw n a b c d e) (Cw m a b c d e):=.ite (.bind (Le.whl (λ _=>NO h _ _ _ _ _ _) h _) λ _=>lr) lr
theorem RW {n m} (h:n<=m) (a):Le (Fn n a) (Fn m a):=.bind (Ux h) λ _=>.bind (Le.whl (λ _=>NP h _ _ _ _ _) h _) λ _=>lr
theorem SF {n m} (h:n<=m) (a):Le (HL n a) (HL m a):=.bind (RW h _) λ _=>lr
theorem OP {n m} (_:n<=m) (a b):Le (ES n a b) (ES m a b):=.bind (Le.ite (lr) (lr)) λ _=>lr
theorem OQ {n m} (h:n<=m) (a b):Le (ET n a b) (ET m a b):=.bind (OP h _ _) λ _=>lr
theorem RX {n m} (h:n<=m) (a b):Le (Fp n a b) (Fp m a b):=.bind (Le.ite (J0 h _ _) (lr)) λ _=>.bind (Le.ite (J0 h _ _) (lr)) λ _=>lr
theorem IB {n m} (_:n<=m) (a):Le (De n a) (De m a):=lr
theorem OR {n m} (h:n<=m) (a b):Le (DQ n a b) (DQ m a b):=.bind (IB h _) λ _=>.bind (Le.ite (IB h _) (lr)) λ _=>lr
theorem Jj {n m} (_:n<=m) (a):Le (EU n a) (EU m a):=lr
theorem Gy {n m} (h:n<=m) (a b c d):Le (A7 n a b c d) (A7 m a b c d):=.ite (.bind lr λ _=>.bind (OR h _ _) λ _=>.ite lr lr) lr
theorem Hq {n m} (h:n<=m) (a b):Le (Bj n a b) (Bj m a b):=.bind (Le.whl (λ _=>Gy h _ _ _ _) h _) λ _=>.bind (Le.ite (lr) (lr)) λ _=>.bind (Le.ite (lr) (lr)) λ _=>.bind (Le.ite (Jj h _) (lr)) λ _=>.bind (Le.ite (Jj h _) (lr)) λ _=>lr
theorem Fe {n m} (h:n<=m) (a b):Le (Bx n a b) (Bx m a b):=.bind (Hq h _ _) λ _=>.ite lr (.bind lr λ _=>lr)
theorem LT {n m} (_:n<=m) (a b c d e f):Le (BY n a b c d e f) (BY m a b c d e f):=.ite (.bind lr λ _=>lr) lr
theorem He {n m} (_:n<=m) (a b):Le (Cm n a b) (Cm m a b):=lr
theorem LU {n m} (h:n<=m) (a b c d e f g):Le (BZ n a b c d e f g) (BZ m a b c d e f g):=.ite (.bind (Pv h _ _ _) λ _=>.ite (.bind lr λ _=>.bind lr λ _=>He h _ _) (He h _ _)) lr
theorem LV {n m} (h:n<=m) (a b c d e):Le (Cn n a b c d e) (Cn m a b c d e):=.ite (.bind lr λ _=>.bind (Le.whl (λ _=>LU h _ _ _ _ _ _ _) h _) λ _=>lr) lr
theorem OS {n m} (h:n<=m) (a b):Le (DR n a b) (DR m a b):=.bind (SF h _) λ _=>.bind lr λ _=>.bind (Le.whl (λ _=>LT h _ _ _ _ _ _) h _) λ _=>.bind lr λ _=>.bind (Le.whl (λ _=>LV h _ _ _ _ _) h _) λ _=>lr
theorem Gj {n m} (_:n<=m) (a b c d):Le (BV n a b c d) (BV m a b c d):=.bind lr λ _=>.bind lr λ _=>.bind lr λ _=>.ite (.bind lr λ _=>.bind lr λ _=>.bind lr λ _=>.bind lr λ _=>lr) lr
theorem D0 {n m} (h:n<=m) (a b c):Le (Bw n a b c) (Bw m a b c):=.bind lr λ _=>.bind lr λ _=>.bind (OQ h _ _) λ _=>lr
theorem Jb6 {n m} (_:n<=m) (a):Le (Te n a) (Te m a):=lr
theorem J1 {n m} (_:n<=m) (a b c):Le (BG n a b c) (BG m a b c):=.ite (.bind lr λ _=>.bind lr λ _=>.bind lr λ _=>lr) lr
theorem FR {n m} (_:n<=m) (a b c):Le (BH n a b c) (BH m a b c):=lr
theorem J2 {n m} (h:n<=m) (a b c d e f g i):Le (Bk n a b c d e f g i) (Bk m a b c d e f g i):=.ite (.bind lr λ _=>.bind (D0 h _ _ _) λ _=>.ite (.bind (Gj h _ _ _ _) λ _=>FR h _ _ _) (FR h _ _ _)) lr
theorem FS {n m} (h:n<=m) (a b c d e f g):Le (BI n a b c d e f g) (BI m a b c d e f g):=.bind lr λ _=>.bind (Le.whl (λ _=>J2 h _ _ _ _ _ _ _ _) h _) λ _=>lr
theorem J3 {n m} (h:n<=m) (a b c d e f):Le (BJ n a b c d e f) (BJ m a b c d e f):=.bind lr λ _=>.ite (.bind lr λ _=>.bind lr λ _=>.bind lr λ _=>.bind lr λ _=>.ite (FS h _ _ _ _ _ _ _) (FS h _ _ _ _ _ _ _)) lr
theorem FT {n m} (h:n<=m) (a b c d e):Le (Bl n a b c d e) (Bl m a b c d e):=.bind (Le.whl (λ _=>J3 h _ _ _ _ _ _) h _) λ _=>.bind lr λ _=>.bind (Jb6 h _) λ _=>.bind lr λ _=>.bind lr λ _=>.bind lr λ _=>lr
theorem J4 {n m} (h:n<=m) (a b c d):Le (BK n a b c d) (BK m a b c d):=.ite (.ite (.bind lr λ _=>.bind (Hp h _) λ _=>FT h _ _ _ _ _) (FT h _ _ _ _ _)) lr
theorem LW {n m} (h:n<=m) (a):Le (CN n a) (CN m a):=.bind (Le.whl (λ _=>J1 h _ _ _) h _) λ _=>.bind (Gj h _ _ _ _) λ _=>.bind (Le.whl (λ _=>J4 h _ _ _ _) h _) λ _=>lr
theorem Db {n m} (_:n<=m) (a b c):Le (Ba n a b c) (Ba m a b c):=lr
theorem IL {n m} (h:n<=m) (a b c d e f g i):Le (Bb n a b c d e f g i) (Bb m a b c d e f g i):=.ite (.bind lr λ _=>.bind (D0 h _ _ _) λ _=>.ite (Db h _ _ _) (.bind lr λ _=>.bind (Fe h _ _) λ _=>.bind lr λ _=>.bind lr λ _=>.bind (Le.ite (lr) (lr)) λ _=>.bind (Le.ite (lr) (lr)) λ _=>.ite (.bind lr λ _=>.bind lr λ _=>.bind lr λ _=>Db h _ _ _) (Db h _ _ _))) lr
theorem Gk {n m} (h:n<=m) (a b c d e):Le (BW n a b c d e) (BW m a b c d e):=.bind lr λ _=>.bind lr λ _=>.bind lr λ _=>.bind (Le.whl (λ _=>IL h _ _ _ _ _ _ _ _) h _) λ _=>lr
theorem FU {n m} (_:n<=m) (a b):Le (BL n a b) (BL m a b):=lr
theorem J5 {n m} (h:n<=m) (a b c d e f g):Le (Bm n a b c d e f g) (Bm m a b c d e f g):=.ite (.bind lr λ _=>.bind lr λ _=>.bind lr λ _=>.bind lr λ _=>.bind (Le.ite (lr) (lr)) λ _=>.bind (Le.ite (RX h _ _) (lr)) λ _=>.ite (.bind lr λ _=>.bind lr λ _=>FU h _ _) (FU h _ _)) lr
theorem J6 {n m} (h:n<=m) (a b c d):Le (Bn n a b c d) (Bn m a b c d):=.ite (.bind (Gk h _ _ _ _ _) λ _=>lr) lr
theorem J7 {n m} (h:n<=m) (a b c d e):Le (Bo n a b c d e) (Bo m a b c d e):=.ite (.bind (Gk h _ _ _ _ _) λ _=>lr) lr
theorem J8 {n m} (h:n<=m) (a b):Le (BM n a b) (BM m a b):=.bind lr λ _=>.bind (Le.whl (λ _=>J7 h _ _ _ _ _) h _) λ _=>.ite lr lr
theorem J9 {n m} (h:n<=m) (a b):Le (Ce n a b) (Ce m a b):=.ite (.bind lr λ _=>.bind lr λ _=>.bind lr λ _=>.bind lr λ _=>.bind (Le.whl (λ _=>J5 h _ _ _ _ _ _ _) h _) λ _=>.bind lr λ _=>.bind (Le.whl (λ _=>J6 h _ _ _ _) h _) λ _=>.bind (Le.whl (λ _=>J8 h _ _) h _) λ _=>lr) lr
theorem LX {n m} (h:n<=m) (a):Le (CO n a) (CO m a):=.bind (Le.whl (λ _=>J9 h _ _) h _) λ _=>lr
theorem EK {n m} (_:n<=m) (a):Le (Bg n a) (Bg m a):=lr
theorem H4 {n m} (h:n<=m) (a b c d e f):Le (Bh n a b c d e f) (Bh m a b c d e f):=.ite (.bind lr λ _=>.bind (D0 h _ _ _) λ _=>.ite (EK h _) (.bind lr λ _=>.bind lr λ _=>.bind (Fe h _ _) λ _=>.ite (EK h _) (.bind lr λ _=>.bind lr λ _=>lr))) lr
theorem H5 {n m} (h:n<=m) (a b c d e):Le (BA n a b c d e) (BA m a b c d e):=.ite (.bind lr λ _=>.bind (Le.whl (λ _=>H4 h _ _ _ _ _ _) h _) λ y40=>by rcases y40 with _|_;exact lr;exact lr) lr
theorem Ka {n m} (h:n<=m) (a):Le (Cf n a) (Cf m a):=.bind lr λ _=>.bind (Fe h _ _) λ _=>.bind (Le.whl (λ _=>H5 h _ _ _ _ _) h _) λ _=>lr
theorem Uy {n m} (h:n<=m) (a b):Le (Hy n a b) (Hy m a b):=.bind (Pu h _) λ _=>.ite lr (.bind (Uw h _) λ _=>.ite lr (.bind (OS h _ _) λ _=>.bind (LW h _) λ _=>.bind (LX h _) λ _=>.bind lr λ _=>.bind lr λ _=>.ite lr (.bind (Ka h _) λ _=>lr)))
theorem Uz {n m} (_:n<=m) (a b):Le (Lz n a b) (Lz m a b):=lr
theorem RY {n m} (_:n<=m) (a b c d e):Le (GN n a b c d e) (GN m a b c d e):=.ite lr lr
theorem NQ {n m} (h:n<=m) (a b c d e f g i j k):Le (Cy n a b c d e f g i j k) (Cy m a b c d e f g i j k):=.ite (.bind (RY h _ _ _ _ _) λ _=>.ite lr lr) lr
theorem NR {n m} (h:n<=m) (a b c d e f g):Le (Df n a b c d e f g) (Df m a b c d e f g):=.ite (.bind lr λ _=>.bind lr λ _=>.bind (Le.whl (λ _=>NQ h _ _ _ _ _ _ _ _ _ _) h _) λ y44=>by rcases y44 with _|_;exact (.bind lr λ _=>lr);exact lr) lr
theorem RZ {n m} (h:n<=m) (a b c d e):Le (Fq n a b c d e) (Fq m a b c d e):=.bind (Le.whl (λ _=>NR h _ _ _ _ _ _ _) h _) λ y47=>by rcases y47 with _|_;exact lr;exact lr
theorem Kx {n m} (_:n<=m) (a):Le (FL n a) (FL m a):=lr
theorem DB {n m} (h:n<=m) (a b c):Le (CP n a b c) (CP m a b c):=.bind (Uy h _ _) λ _=>.ite lr (.ite lr (.bind (Uz h _ _) λ _=>.bind (RZ h _ _ _ _ _) λ _=>.ite (Kx h _) (.ite (Kx h _) lr)))
theorem UA {n m} (_:n<=m) (a b):Le (LA n a b) (LA m a b):=.ite lr (.bind lr λ _=>lr)
theorem MM {n m} (_:n<=m) (a b):Le (E5 n a b) (E5 m a b):=.ite (.bind lr λ _=>.ite lr lr) lr
theorem P2 {n m} (h:n<=m) (a):Le (Hh n a) (Hh m a):=.bind (Le.whl (λ _=>MM h _ _) h _) λ y50=>by rcases y50 with _|_;exact lr;exact lr
theorem Wb {n m} (h:n<=m) (a b):Le (Nm n a b) (Nm m a b):=.ite lr (.bind lr λ _=>.ite lr (.bind (UA h _ _) λ _=>.bind lr λ _=>.bind lr λ _=>.ite lr (.bind lr λ _=>.bind (P2 h _) λ _=>.ite lr lr)))
theorem FV {n m} (h:n<=m) (a b c d e):Le (Dg n a b c d e) (Dg m a b c d e):=.ite (.bind lr λ _=>.bind (DB h _ _ _) λ _=>.ite lr (.bind (Le.ite (lr) (lr)) λ _=>.ite lr lr)) lr
theorem R0 {n m} (h:n<=m) (a b c d):Le (Ig n a b c d) (Ig m a b c d):=.bind (Wb h _ _) λ _=>.ite lr (.bind lr λ _=>.ite (FV h _ _ _ _ _) (.ite (FV h _ _ _ _ _) (FV h _ _ _ _ _)))
theorem R1 {n m} (h:n<=m):Le (GO n) (GO m):=.bind (RU h) λ _=>.bind (DB h _ _ _) λ _=>.bind (DB h _ _ _) λ _=>.bind (DB h _ _ _) λ _=>.bind (DB h _ _ _) λ _=>.bind (DB h _ _ _) λ _=>.bind (DB h _ _ _) λ _=>.bind (R0 h _ _ _ _) λ _=>lr
end Go.AI
end
section
namespace Go.AI
theorem Xt (a:Int):IntKind.i64.wrap a=if decide (a % 18446744073709551616>=9223372036854775808)=true then a % 18446744073709551616-18446744073709551616 else a % 18446744073709551616:=rfl
theorem Tg (a:Int):IntKind.u8.wrap a=a % 256:=rfl
theorem OU {a:Int} (h:-9223372036854775808<=a) (h':a<9223372036854775808):IntKind.i64.wrap a=a:=by
 rw [Xt]
 split
 ·rename_i hc;simp at hc;omega
 ·rename_i hc;simp at hc;omega
theorem MN {a b:Int} (h:-9223372036854775808<=a+b) (h':a+b<9223372036854775808):Ay .i64 a b=a+b:=OU h h'
theorem Jb7 {a b:Int} (h:-9223372036854775808<=a-b) (h':a-b<9223372036854775808):JI .i64 a b=a-b:=OU h h'
theorem JjQ {a:Int} (h:0<=a) (h':a<256):IntKind.u8.wrap a=a:=by
 rw [Tg];omega
theorem Wc (a:Int):0<=IntKind.u8.wrap a/\IntKind.u8.wrap a<256:=by
 rw [Tg];omega
def Gz (m k:Int):Bool:=decide (0<=k)&&decide (k<8)&&(Cr .u8 (QV .u8 m k) 1==1)
theorem Jb8 (n:Nat) (m k:Int):Hg n m k=some (Gz m k):=by
 unfold Hg Gz
 by_cases h:0<=k
 ·by_cases h':k<8<;>simp [h,h',CH]
 ·simp [h]
theorem Xu (n:Nat) (m k:Int):Ii n m k=some (Gz m k):=by
 unfold Ii Gz
 by_cases h:0<=k
 ·by_cases h':k<8<;>simp [h,h',CH]
 ·simp [h]
def FW (b:Int):Int:=
 if (decide (97<=Cr .u8 b 127)&&decide (Cr .u8 b 127<=122))=true then 1
 else if (decide (65<=Cr .u8 b 127)&&decide (Cr .u8 b 127<=90))=true then 2
 else if (decide (48<=Cr .u8 b 127)&&decide (Cr .u8 b 127<=57))=true then 3
 else if (Cr .u8 b 127==32)=true then 4 else 5
theorem R4 (n:Nat) (b:Int):Er n b=some (FW b):=by
 unfold Er FW
 split
 ·rfl
 ·split
  ·rfl
  ·split
   ·rfl
   ·split<;>rfl
theorem Th (n:Nat) (b:Int):Hz n b=some (FW b):=by
 unfold Hz FW
 simp only [ge_iff_le]
 split
 ·rfl
 ·split
  ·rfl
  ·split
   ·rfl
   ·split<;>rfl
theorem Pw (b:Int):1<=FW b/\FW b<=5:=by
 unfold FW
 split
 ·omega
 ·split
  ·omega
  ·split
   ·omega
   ·split<;>omega
def Px (s:List UInt8) (i:Nat):Int:=(s[i]?.getD 0).toNat
theorem Kb {s:List UInt8} {i:Nat} (h:i<s.length):LL s (i:Int)=some (Px s i):=by
 unfold LL Px
 rw [if_pos (by omega)]
 simp
def Yg:Aa:=⟨0,0,0⟩
def Yh (r:Av) (s:Aa):Aa×Bool:=
 if ((r.From != s.Mode)||!Gz r.Left s.Last)=true then (Yg,false)
 else if (r.Print==[])=true then
  (if (Cr .u8 s.Need r.Right==0)=true then (Yg,false) else (⟨r.To,s.Last,Cr .u8 s.Need r.Right⟩,true))
 else if (!Gz s.Need (FW (Px r.Print 0)))=true then (Yg,false)
 else (⟨r.To,FW (Px r.Print (r.Print.length-1)),r.Right⟩,true)
def Ap (t:Ab) (s:Aa) (k:Int):Aa×Bool:=
 if (decide (k<0)||decide (k>=(t.Rules.length:Int)))=true then (Yg,false) else Yh (t.Rules[k.toNat]?.getD default) s
def Jb9 (t:Ab):Prop:=∀ r∈t.Rules,r.Print.length<9223372036854775808
theorem R5 {α:Type} [Inhabited α] {l:List α} {k:Int} (h:0<=k) (h':k<l.length):idx l k=some (l[k.toNat]?.getD default):=by
 unfold idx
 rw [if_pos h]
 have:k.toNat<l.length:=by omega
 simp [this]
theorem Qc {t:Ab} (ht:Jb9 t) (n:Nat) (s:Aa) (k:Int):HK n t s k=some (Ap t s k):=by
 unfold HK Ap
 by_cases hk:(decide (k<0)||decide (k>=(t.Rules.length:Int)))=true
 ·rw [if_pos hk,if_pos hk];rfl
 ·rw [if_neg hk,if_neg hk]
  simp only [JkW,decide_eq_true_eq,not_or,Int.not_lt,ge_iff_le,Int.not_le] at hk
  rw [R5 hk.1 hk.2]
  have hmem:(t.Rules[k.toNat]?.getD default)∈t.Rules:=by
   have:k.toNat<t.Rules.length:=by omega
   simp [this]
  have hlen:=ht _ hmem
  generalize t.Rules[k.toNat]?.getD default=r at hlen ⊢
  simp only [Option.bind_some,Jb8,R4]
  unfold Yh
  by_cases h1:r.From=s.Mode
  ·simp only [h1,bne_self_eq_false,Bool.not_false,if_true,Option.bind_some,Bool.false_or]
   by_cases h2:Gz r.Left s.Last=true
   ·simp only [h2,Bool.not_true,JkP,if_false]
    by_cases h3:r.Print=[]
    ·simp only [h3,beq_self_eq_true,if_true]
     split<;>rfl
    ·have h3':(r.Print==[])=false:=by simpa using h3
     have hpos:0<r.Print.length:=List.length_pos_iff.2 h3
     simp only [h3',JkP,if_false]
     have e0:=Kb (s:=r.Print) (i:=0) hpos
     simp only [Int.natCast_zero] at e0
     rw [e0]
     have e1:JI .i64 ((r.Print.length:Nat):Int) 1=((r.Print.length-1:Nat):Int):=by rw [Jb7 (by omega) (by omega)];omega
     rw [e1,Kb (by omega)]
     simp only [Option.bind_some]
     split<;>rfl
   ·have h2:Gz r.Left s.Last=false:=by simpa using h2
    simp only [h2,Bool.not_false,if_true];rfl
  ·have h1':(r.From != s.Mode)=true:=by simpa using h1
   simp only [h1',Bool.not_true,JkP,if_false,Option.bind_some,Bool.true_or,if_true];rfl
end Go.AI
end
section
namespace Go.AI
theorem Aj {α:Type} {l:List α} {i:Nat} {x:α} (h:l[i]? = some x):i<l.length:=(List.getElem?_eq_some_iff.1 h).1
theorem E0 {t:Ab} (ht:Jb9 t) (n:Nat) (s:Aa) (k:Int):Dh n t s k=some (Ap t s k):=by
 unfold Dh Ap
 by_cases hk:(decide (k<0)||decide (k>=(t.Rules.length:Int)))=true
 ·rw [if_pos hk,if_pos hk];rfl
 ·rw [if_neg hk,if_neg hk]
  simp only [JkW,decide_eq_true_eq,not_or,Int.not_lt,ge_iff_le,Int.not_le] at hk
  rw [R5 hk.1 hk.2]
  have hmem:(t.Rules[k.toNat]?.getD default)∈t.Rules:=by
   have:k.toNat<t.Rules.length:=by omega
   simp [this]
  have hlen:=ht _ hmem
  generalize t.Rules[k.toNat]?.getD default=r at hlen ⊢
  simp only [Option.bind_some,Xu,Th]
  unfold Yh
  by_cases h1:r.From=s.Mode
  ·simp only [h1,bne_self_eq_false,Bool.not_false,if_true,Option.bind_some,Bool.false_or]
   by_cases h2:Gz r.Left s.Last=true
   ·simp only [h2,Bool.not_true,JkP,if_false]
    by_cases h3:r.Print=[]
    ·simp only [h3,List.length_nil,Int.natCast_zero,beq_self_eq_true,Bool.true_and,if_true]
     split<;>rfl
    ·have h3':(r.Print==[])=false:=by simpa using h3
     have hpos:0<r.Print.length:=List.length_pos_iff.2 h3
     have h4:(((r.Print.length:Nat):Int)==0)=false:=by simp;omega
     simp only [h3',h4,Bool.false_and,JkP,if_false]
     have e0:=Kb (s:=r.Print) (i:=0) hpos
     simp only [Int.natCast_zero] at e0
     rw [e0]
     have e1:JI .i64 ((r.Print.length:Nat):Int) 1=((r.Print.length-1:Nat):Int):=by rw [Jb7 (by omega) (by omega)];omega
     rw [e1,Kb (by omega)]
     simp only [Option.bind_some]
     split<;>rfl
   ·have h2:Gz r.Left s.Last=false:=by simpa using h2
    simp only [h2,Bool.not_false,if_true];rfl
  ·have h1':(r.From != s.Mode)=true:=by simpa using h1
   simp only [h1',Bool.not_true,JkP,if_false,Option.bind_some,Bool.true_or,if_true];rfl
def A3 (t:Ab) (s:Aa):Bool:=decide (s.Mode<t.Modes)&&Gz t.Accept s.Mode&&Gz s.Need 0
theorem Xv (n:Nat) (t:Ab) (s:Aa):Fp n t s=some (A3 t s):=by
 unfold Fp A3
 simp only [Jb8]
 by_cases h1:s.Mode<t.Modes
 ·cases h2:Gz t.Accept s.Mode<;>simp [h1]
 ·simp [h1]
theorem G2 (n:Nat) (t:Ab) (s:Aa):Dp n t s=some (A3 t s):=by
 unfold Dp A3
 simp only [Xu]
 have h0:¬ (0<=s.Mode)->Gz t.Accept s.Mode=false:=λ h=>by simp [Gz,h]
 by_cases h:0<=s.Mode
 ·by_cases h1:s.Mode<t.Modes
  ·cases h2:Gz t.Accept s.Mode<;>simp [h,h1]
  ·simp [h1]
 ·simp [h,h0 h]
theorem eqS (a b:Aa):((a.Mode==b.Mode)&&((a.Last==b.Last)&&((a.Need==b.Need)&&true)))=decide (a=b):=by
 cases a;cases b
 simp [Bool.decide_and]
 rfl
def BX (l:List Aa) (s:Aa):Int:=match l.findIdx? (λ x=>decide (x=s)) with
 | some i=>i
 | none=>-1
theorem E1 {l:List Aa} {s:Aa} (hl:l.length<9223372036854775807):Ev (λ n=>CZ n l s) (BX l s):=by
 have loop:Ev (λ n=>whl (λ x=>Dy n l s x) n (0:Int)) (match l.findIdx? (λ x=>decide (x=s)) with|some i=>(.inr (i:Int):Unit⊕Int)|none=>.inl ()):=by
  refine Ev.whl (body:=λ n x=>Dy n l s x) (λ k x=>∃ i:Nat,x=i/\i<=l.length/\k=l.length-i/\∀ j,j<i->∀ y,l[j]? = some y->y≠s) ?_ l.length 0 ⟨0,rfl,by omega,by omega,λ j hj=>by omega⟩
  rintro k x ⟨i,rfl,hi,rfl,hbefore⟩
  by_cases hlt:i<l.length
  ·have hg:l[i]? = some l[i]:=JkC hlt
   have hidx:idx l (i:Int)=some l[i]:=by
    unfold idx
    rw [if_pos (by omega)]
    simp
   by_cases he:l[i]=s
   ·right
    refine Ev.all λ n=>?_
    unfold Dy
    rw [if_pos (by simpa using hlt),hidx]
    simp only [Option.bind_some,eqS,he,decide_true,if_true]
    have:l.findIdx? (λ x=>decide (x=s))=some i:=by
     rw [List.findIdx?_eq_some_iff_getElem]
     refine ⟨hlt,by simpa using he,λ j hj=>?_⟩
     have hj':j<l.length:=by omega
     have:=hbefore j hj l[j] (JkC hj')
     simpa using this
    rw [this]
   ·left
    refine ⟨((i+1:Nat):Int),l.length-(i+1),by omega,⟨i+1,rfl,by omega,rfl,λ j hj y hy=>?_⟩,Ev.all λ n=>?_⟩
    ·by_cases hji:j=i
     ·subst hji;rw [hg] at hy;cases hy;exact he
     ·exact hbefore j (by omega) y hy
    ·unfold Dy
     rw [if_pos (by simpa using hlt),hidx]
     simp only [Option.bind_some,eqS,he,decide_false,JkP,if_false]
     rw [MN (by omega) (by omega)]
     rfl
  ·right
   have hi':i=l.length:=by omega
   subst hi'
   refine Ev.all λ n=>?_
   unfold Dy
   rw [if_neg (by simp)]
   have:l.findIdx? (λ x=>decide (x=s))=none:=by
    rw [List.findIdx?_eq_none_iff]
    intro y hy
    obtain ⟨j,hj⟩:=List.mem_iff_getElem?.1 hy
    have:=hbefore j (Aj hj) y hj
    simpa using this
   rw [this]
 refine (Ev.bind loop (g:=λ _ y=>match y with|Sum.inl _=>some (-1)|Sum.inr z=>some z) (z:=BX l s) ?_).congr λ n=>?_
 ·unfold BX
  cases l.findIdx? (λ x=>decide (x=s)) with
  | none=>exact Ev.const
  | some i=>exact Ev.const
 ·rfl
end Go.AI
end
section
namespace Go.AI
theorem Xw (a b:Int) (h:0<=b) (h':b<256):0<=Cr .u8 a b/\Cr .u8 a b<=b:=by
 unfold Cr
 have hb:(BitVec.ofInt 8 b).toNat=b.toNat:=by
  rw [BitVec.toNat_ofInt]
  omega
 have hle:(BitVec.ofInt 8 a &&& BitVec.ofInt 8 b).toNat<=b.toNat:=by
  rw [BitVec.toNat_and,hb];exact Nat.and_le_right
 have e:(BitVec.ofInt IntKind.u8.bits a &&& BitVec.ofInt IntKind.u8.bits b).toNat=(BitVec.ofInt 8 a &&& BitVec.ofInt 8 b).toNat:=rfl
 rw [e,JjQ (by omega) (by omega)]
 omega
def MO (r:Av):Prop:=0<=r.To/\r.To<2/\0<=r.Right/\r.Right<=63/\r.Print.length<=3
def DK (t:Ab):Prop:=t.Rules.length<=11/\∀ r∈t.Rules,MO r
theorem DK.short {t:Ab} (h:DK t):Jb9 t:=λ r hr=>by have:=(h.2 r hr).2.2.2.2;omega
def InU (s:Aa):Prop:=0<=s.Mode/\s.Mode<2/\0<=s.Last/\s.Last<=5/\0<=s.Need/\s.Need<=63
def Jim:List Aa:=(List.range 768).map λ i=>⟨(i / 384:Nat),(i / 64 % 6:Nat),(i % 64:Nat)⟩
theorem Jca {s:Aa} (h:InU s):s∈Jim:=by
 obtain ⟨h1,h2,h3,h4,h5,h6⟩:=h
 obtain ⟨m,l,d⟩:=s
 simp only at h1 h2 h3 h4 h5 h6
 simp only [Jim,List.mem_map,List.mem_range]
 refine ⟨m.toNat*384+l.toNat*64+d.toNat,by omega,?_⟩
 have e1:(m.toNat*384+l.toNat*64+d.toNat) / 384=m.toNat:=by omega
 have e2:(m.toNat*384+l.toNat*64+d.toNat) / 64 % 6=l.toNat:=by omega
 have e3:(m.toNat*384+l.toNat*64+d.toNat) % 64=d.toNat:=by omega
 rw [e1,e2,e3]
 congr 1<;>omega
theorem Jcb {l m:List Aa} (h:l.Nodup) (hs:∀ x∈l,x∈m):l.length<=m.length:=by
 induction l generalizing m with
 | nil=>simp
 | cons a l ih=>
  rw [List.nodup_cons] at h
  have ha:=hs a (by simp)
  have hlen:(m.erase a).length=m.length-1:=List.length_erase_of_mem ha
  have hpos:0<m.length:=List.length_pos_of_mem ha
  have:=ih (m:=m.erase a) h.2 λ x hx=>by
   have hne:x≠a:=λ e=>h.1 (e▸hx)
   exact (List.mem_erase_of_ne hne).2 (hs x (by simp [hx]))
  simp
  omega
theorem Jcc {l:List Aa} (h:l.Nodup) (hs:∀ x∈l,InU x):l.length<=768:=by
 have:=Jcb h λ x hx=>Jca (hs x hx)
 simpa [Jim] using this
theorem Jcd {t:Ab} (ht:DK t) {s:Aa} (hs:InU s) {k:Int} (h:(Ap t s k).2=true):InU (Ap t s k).1:=by
 unfold Ap at h ⊢
 split at h
 ·cases h
 ·rename_i hk
  rw [if_neg hk]
  simp only [JkW,decide_eq_true_eq,not_or,Int.not_lt,ge_iff_le,Int.not_le] at hk
  have hmem:(t.Rules[k.toNat]?.getD default)∈t.Rules:=by
   have:k.toNat<t.Rules.length:=by omega
   simp [this]
  have hr:=ht.2 _ hmem
  generalize t.Rules[k.toNat]?.getD default=r at hr h ⊢
  obtain ⟨a1,a2,a3,a4,a5⟩:=hr
  obtain ⟨b1,b2,b3,b4,b5,b6⟩:=hs
  unfold Yh at h ⊢
  split at h
  ·cases h
  ·rename_i h1
   rw [if_neg h1]
   split at h
   ·rename_i h2
    rw [if_pos h2]
    split at h
    ·cases h
    ·rename_i h3
     rw [if_neg h3]
     have:=Xw s.Need r.Right a3 (by omega)
     exact ⟨a1,a2,b3,b4,this.1,by show Cr .u8 s.Need r.Right<=63;omega⟩
   ·rename_i h2
    rw [if_neg h2]
    split at h
    ·cases h
    ·rename_i h3
     rw [if_neg h3]
     have:=Pw (Px r.Print (r.Print.length-1))
     exact ⟨a1,a2,by show 0<=FW _;omega,by show FW _<=5;omega,a3,a4⟩
def As:Aa:=⟨0,0,63⟩
def Kc (t:Ab) (s:Aa) (st:List Aa) (k:Nat):List Aa:=if (Ap t s k).2=true/\(Ap t s k).1 ∉ st then st++[(Ap t s k).1] else st
def Jk (t:Ab) (s:Aa) (m:Nat) (st:List Aa):List Aa:=(List.range m).foldl (Kc t s) st
theorem Jl (t:Ab) (s:Aa) (m:Nat) (st:List Aa):Jk t s (m+1) st=Kc t s (Jk t s m st) m:=by
 simp [Jk,List.range_succ]
def R6 (t:Ab):Nat->Nat->List Aa->List Aa
 | 0,_,st=>st
 | f+1,i,st=>match st[i]? with
  | some s=>R6 t f (i+1) (Jk t s t.Rules.length st)
  | none=>st
def Ae (t:Ab):List Aa:=R6 t 800 0 [As]
structure DL (t:Ab) (st:List Aa):Prop where
 nodup:st.Nodup
 inU:∀ s∈st,InU s
 first:st[0]? = some As
 origin:∀ (j:Nat) (s:Aa),st[j]? = some s->0<j->∃ (i:Nat) (s':Aa) (k:Nat),i<j/\st[i]? = some s'/\k<t.Rules.length/\Ap t s' k=(s,true)
theorem DL.len {t:Ab} {st:List Aa} (h:DL t st):st.length<=768:=Jcc h.nodup h.inU
theorem DL.add {t:Ab} (ht:DK t) {st:List Aa} (h:DL t st) {i:Nat} {s:Aa} (hi:st[i]? = some s) {k:Nat} (hk:k<t.Rules.length):DL t (Kc t s st k):=by
 unfold Kc
 split
 ·rename_i hc
  have hil:=Aj hi
  refine ⟨?_,λ x hx=>?_,?_,λ j x hj h0=>?_⟩
  ·rw [List.nodup_append]
   refine ⟨h.nodup,by simp,λ a ha b hb=>?_⟩
   simp at hb
   subst hb
   exact λ e=>hc.2 (e▸ha)
  ·simp only [List.mem_append,List.mem_singleton] at hx
   rcases hx with hx|rfl
   ·exact h.inU x hx
   ·exact Jcd ht (h.inU s (JkE hi)) hc.1
  ·rw [JkK (by omega)];exact h.first
  ·rcases Nat.lt_or_ge j st.length with hlt|hge
   ·rw [JkK hlt] at hj
    obtain ⟨i',s',k',a1,a2,a3,a4⟩:=h.origin j x hj h0
    exact ⟨i',s',k',a1,by rw [JkK (by omega)];exact a2,a3,a4⟩
   ·rw [JkV hge] at hj
    have:j-st.length=0:=by have:=Aj hj;simp at this;omega
    rw [this] at hj
    simp at hj
    subst hj
    refine ⟨i,s,k,by omega,by rw [JkK hil];exact hi,hk,?_⟩
    exact Prod.ext rfl hc.1
 ·exact h
theorem Wd (t:Ab) (s:Aa) (st:List Aa) (k:Nat):st <+: Kc t s st k:=by
 unfold Kc
 split
 ·exact List.prefix_append _ _
 ·exact List.prefix_refl _
theorem G3 (t:Ab) (s:Aa) (st:List Aa):∀ m,st <+: Jk t s m st:=by
 intro m
 induction m with
 | zero=>exact List.prefix_refl _
 | succ m ih=>rw [Jl];exact ih.trans (Wd _ _ _ _)
theorem LG {α:Type} {l m:List α} (h:l <+: m) {i:Nat} {x:α} (hi:l[i]? = some x):m[i]? = some x:=by
 obtain ⟨r,rfl⟩:=h
 rw [JkK (Aj hi)];exact hi
theorem DL.exp {t:Ab} (ht:DK t) {st:List Aa} (h:DL t st) {i:Nat} {s:Aa} (hi:st[i]? = some s):∀ m,m<=t.Rules.length->DL t (Jk t s m st):=by
 intro m
 induction m with
 | zero=>intro _;exact h
 | succ m ih=>
  intro hm
  rw [Jl]
  exact (ih (by omega)).add ht (LG (G3 t s st m) hi) (by omega)
theorem Jce (t:Ab) (s:Aa) (st:List Aa):∀ m k:Nat,k<m->(Ap t s k).2=true->(Ap t s k).1∈Jk t s m st:=by
 intro m
 induction m with
 | zero=>intro k hk;omega
 | succ m ih=>
  intro k hk h
  rw [Jl]
  by_cases e:k=m
  ·subst e
   unfold Kc
   by_cases hc:(Ap t s k).1∈Jk t s k st
   ·rw [if_neg (λ hh=>hh.2 hc)];exact hc
   ·rw [if_pos ⟨h,hc⟩];simp
  ·exact (Wd t s _ m).subset (ih k (by omega) h)
def UB (t:Ab) (i:Nat) (st:List Aa):Prop:=∀ (j:Nat) (s:Aa),j<i->st[j]? = some s->∀ k:Nat,k<t.Rules.length->(Ap t s k).2=true->(Ap t s k).1∈st
theorem Jin {t:Ab} (ht:DK t):∀ (f i:Nat) (st:List Aa),DL t st->UB t i st->768<f+i->DL t (R6 t f i st)/\∀ i',UB t i' (R6 t f i st):=by
 intro f
 induction f with
 | zero=>
  intro i st h hd hf
  have:=h.len
  refine ⟨h,λ i' j s hj hs=>?_⟩
  have hs:st[j]? = some s:=hs
  exact hd j s (by have:=Aj hs;omega) hs
 | succ f ih=>
  intro i st h hd hf
  simp only [R6]
  cases hi:st[i]? with
  | none=>
   refine ⟨h,λ i' j s hj hs=>?_⟩
   have hs:st[j]? = some s:=hs
   exact hd j s (by have:=Aj hs;rw [List.getElem?_eq_none_iff] at hi;omega) hs
  | some s=>
   refine ih (i+1) _ (h.exp ht hi _ (Nat.le_refl _)) (λ j x hj hx k hk hk2=>?_) (by omega)
   by_cases e:j=i
   ·subst e
    have:=LG (G3 t s st t.Rules.length) hi
    rw [this] at hx
    cases hx
    exact Jce t s st _ k hk hk2
   ·have hjl:j<st.length:=by have:=Aj hi;omega
    have hxx:st[j]? = some st[j]:=JkC hjl
    have:=LG (G3 t s st t.Rules.length) hxx
    rw [this] at hx
    cases hx
    exact (G3 t s st t.Rules.length).subset (hd j _ (by omega) hxx k hk hk2)
theorem BB {t:Ab} (ht:DK t):DL t (Ae t)/\∀ i,UB t i (Ae t):=by
 refine Jin ht 800 0 [As] ⟨by simp,λ s hs=>?_,rfl,λ j s hj h0=>?_⟩ (λ j s hj=>by omega) (by omega)
 ·simp at hs;subst hs;exact ⟨by decide,by decide,by decide,by decide,by decide,by decide⟩
 ·cases j with
  | zero=>omega
  | succ j=>simp at hj
end Go.AI
end
section
namespace Go.AI
theorem Ev.whlR {σ ρ:Type} {body:Nat->σ->Option (σ⊕ρ)} {R:ρ->Prop} (I:Nat->σ->Prop) (h:∀ k x,I k x->(∃ y j,j<k/\I j y/\Ev (λ n=>body n x) (.inl y))\/∃ r,R r/\Ev (λ n=>body n x) (.inr r)):∀ (k:Nat) (x:σ),I k x->∃ r,R r/\Ev (λ n=>Go.AI.whl (body n) n x) r:=by
 have key:∀ (k:Nat) (x:σ),I k x->∃ r,R r/\∃ N c,∀ n fuel,N<=n->c<=fuel->Go.AI.whl (body n) fuel x=some r:=by
  intro k
  induction k using Nat.strongRecOn with
  | _ k ih=>
   intro x hx
   rcases h k x hx with ⟨y,j,hj,hy,N1,h1⟩|⟨r,hr,N1,h1⟩
   ·obtain ⟨r,hr,N2,c,h2⟩:=ih j hj y hy
    refine ⟨r,hr,max N1 N2,c+1,λ n fuel hn hf=>?_⟩
    cases fuel with
    | zero=>omega
    | succ fuel=>
     have e:=h1 n (by omega)
     simp only at e
     simp only [Go.AI.whl,e]
     exact h2 n fuel (by omega) (by omega)
   ·refine ⟨r,hr,N1,1,λ n fuel hn hf=>?_⟩
    cases fuel with
    | zero=>omega
    | succ fuel=>
     have e:=h1 n hn
     simp only at e
     simp only [Go.AI.whl,e]
 intro k x hx
 obtain ⟨r,hr,N,c,hh⟩:=key k x hx
 exact ⟨r,hr,max N c,λ m hm=>hh m m (by omega) (by omega)⟩
def IC (st:List Aa) (nb:List (Aa×Int)):Prop:=∀ s,Gt s nb=(st.findIdx? λ x=>decide (x=s)).map λ i=>(i:Int)
theorem CI {st:List Aa} {s:Aa} {i:Nat} (hn:st.Nodup) (h:st[i]? = some s):(st.findIdx? λ x=>decide (x=s))=some i:=by
 have hi:=Aj h
 rw [List.findIdx?_eq_some_iff_getElem]
 have he:st[i]=s:=by rw [JkC hi] at h;exact Option.some.inj h
 refine ⟨hi,by simpa using he,λ j hj=>?_⟩
 simp only [Bool.not_eq_true,decide_eq_false_iff_not]
 intro e
 have:=(List.getElem_inj (i:=j) (j:=i) (h₀:=by omega) (h₁:=hi) hn).1 (by rw [e,he])
 omega
theorem Hr {st:List Aa} {s:Aa} (h:s ∉ st):(st.findIdx? λ x=>decide (x=s))=none:=by
 rw [List.findIdx?_eq_none_iff]
 intro y hy
 simp only [decide_eq_false_iff_not]
 exact λ e=>h (e▸hy)
theorem Zk {κ α:Type} [DecidableEq κ] (k k':κ) (v:α) (m:List (κ×α)):Gt k' (LM k v m)=if k'=k then some v else Gt k' m:=by
 induction m with
 | nil=>simp [LM,Gt]
 | cons p m ih=>
  simp only [LM]
  by_cases h:k=p.1
  ·rw [if_pos h]
   simp only [Gt]
   by_cases h':k'=k
   ·simp [h']
   ·have:k'≠p.1:=λ e=>h' (e.trans h.symm)
    simp [h',this]
  ·rw [if_neg h]
   simp only [Gt]
   by_cases h':k'=p.1
   ·have:k'≠k:=λ e=>h (e▸h')
    rw [if_pos h',if_neg this,if_pos h']
   ·rw [if_neg h',if_neg h',ih]
theorem IC.snoc {st:List Aa} {nb:List (Aa×Int)} (h:IC st nb) (hn:st.Nodup) {p:Aa} (hp:p ∉ st):IC (st++[p]) (LM p (st.length:Nat) nb):=by
 intro s
 rw [Zk]
 have hnd:(st++[p]).Nodup:=by
  rw [List.nodup_append]
  exact ⟨hn,by simp,λ a ha b hb=>by simp at hb;subst hb;exact λ e=>hp (e▸ha)⟩
 by_cases e:s=p
 ·subst e
  rw [if_pos rfl,CI hnd (i:=st.length) (by simp)]
  rfl
 ·rw [if_neg e,h s]
  by_cases hs:s∈st
  ·obtain ⟨i,hi⟩:=List.mem_iff_getElem?.1 hs
   rw [CI hn hi,CI hnd (i:=i) (by rw [JkK (Aj hi)];exact hi)]
  ·rw [Hr hs,Hr (by simp [hs,e])]
def HU (i m j k:Nat):Prop:=j<i\/(j=i/\k<m)
structure Dl (t:Ab) (st:List Aa) (fr:List (List Int)) (i m:Nat):Prop where
 len:fr.length=st.length
 cov:∀ j s k,HU i m j k->st[j]? = some s->k<t.Rules.length->(Ap t s (k:Nat)).2=true->(Ap t s (k:Nat)).1∈st
 sound:∀ (n:Nat) l,fr[n]? = some l->∀ x∈l,∃ (j:Nat) (s:Aa) (k:Nat) (s':Aa),x=(j:Int)/\st[j]? = some s/\k<t.Rules.length/\st[n]? = some s'/\Ap t s (k:Nat)=(s',true)
 compl:∀ (n:Nat) l,fr[n]? = some l->∀ (j:Nat) (s:Aa) (k:Nat) (s':Aa),HU i m j k->st[j]? = some s->k<t.Rules.length->st[n]? = some s'->Ap t s (k:Nat)=(s',true)->(j:Int)∈l
 small:∀ (n:Nat) l,fr[n]? = some l->l.length<=i*11+m
theorem Dl.snoc {t:Ab} {st:List Aa} {fr:List (List Int)} {i m:Nat} (h:Dl t st fr i m) {p:Aa} (hp:p ∉ st) (hi:i<st.length):Dl t (st++[p]) (fr++[[]]) i m:=by
 have hget:∀ (j:Nat) s,HU i m j 0\/j<=i->(st++[p])[j]? = some s->st[j]? = some s:=λ j s hj hs=>by
  rcases Nat.lt_or_ge j st.length with hlt|hge
  ·rwa [JkK hlt] at hs
  ·rcases hj with (h1|⟨h1,_⟩)|h1<;>omega
 have hle:∀ {j k},HU i m j k->j<=i:=λ h=>by rcases h with h|⟨h,_⟩<;>omega
 refine ⟨by simp [h.len],λ j s k ht hs hk h2=>?_,λ n l hl x hx=>?_,λ n l hl j s k s' ht hs hk hs' he=>?_,λ n l hl=>?_⟩
 ·exact List.mem_append_left _ (h.cov j s k ht (hget j s (.inr (hle ht)) hs) hk h2)
 ·rcases Nat.lt_or_ge n fr.length with hlt|hge
  ·rw [JkK hlt] at hl
   obtain ⟨j,s,k,s',a1,a2,a3,a4,a5⟩:=h.sound n l hl x hx
   exact ⟨j,s,k,s',a1,by rw [JkK (Aj a2)];exact a2,a3,by rw [JkK (Aj a4)];exact a4,a5⟩
  ·rw [JkV hge] at hl
   have:n-fr.length=0:=by have:=Aj hl;simp at this;omega
   rw [this] at hl;simp at hl;subst hl;simp at hx
 ·have hs0:=hget j s (.inr (hle ht)) hs
  have hmem:s'∈st:=by have:=h.cov j s k ht hs0 hk (by rw [he]);rwa [he] at this
  rcases Nat.lt_or_ge n fr.length with hlt|hge
  ·rw [JkK hlt] at hl
   rw [JkK (by rw [← h.len];exact hlt)] at hs'
   exact h.compl n l hl j s k s' ht hs0 hk hs' he
  ·have hn:n=st.length:=by have:=Aj hs';simp at this;rw [h.len] at hge;omega
   subst hn
   simp at hs'
   subst hs'
   exact absurd hmem hp
 ·rcases Nat.lt_or_ge n fr.length with hlt|hge
  ·rw [JkK hlt] at hl;exact h.small n l hl
  ·rw [JkV hge] at hl
   have:n-fr.length=0:=by have:=Aj hl;simp at this;omega
   rw [this] at hl;simp at hl;subst hl;simp
theorem Dl.put {t:Ab} {st:List Aa} {fr:List (List Int)} {i m:Nat} (h:Dl t st fr i m) (hnd:st.Nodup) {s p:Aa} {q:Nat} {l:List Int} (hs:st[i]? = some s) (hm:m<t.Rules.length) (hst:Ap t s (m:Nat)=(p,true)) (hq:st[q]? = some p) (hl:fr[q]? = some l):Dl t st (fr.set q (l++[(i:Int)])) i (m+1):=by
 have htk:∀ {j k},HU i (m+1) j k->HU i m j k\/(j=i/\k=m):=λ {j k} h=>by
  unfold HU at *
  omega
 have hql:=Aj hl
 refine ⟨by simp [h.len],λ j x k ht hx hk h2=>?_,λ n l' hl' x hx=>?_,λ n l' hl' j x k x' ht hx hk hx' he=>?_,λ n l' hl'=>?_⟩
 ·rcases htk ht with ht|⟨rfl,rfl⟩
  ·exact h.cov j x k ht hx hk h2
  ·rw [hs] at hx;cases hx;rw [hst];exact JkE hq
 ·by_cases e:n=q
  ·subst e
   rw [JkO hql] at hl'
   cases hl'
   simp only [List.mem_append,List.mem_singleton] at hx
   rcases hx with hx|rfl
   ·exact h.sound n l hl x hx
   ·exact ⟨i,s,m,p,rfl,hs,hm,hq,hst⟩
  ·rw [JkT (Ne.symm e)] at hl';exact h.sound n l' hl' x hx
 ·rcases htk ht with ht|⟨rfl,rfl⟩
  ·by_cases e:n=q
   ·subst e
    rw [JkO hql] at hl'
    cases hl'
    exact List.mem_append_left _ (h.compl n l hl j x k x' ht hx hk hx' he)
   ·rw [JkT (Ne.symm e)] at hl';exact h.compl n l' hl' j x k x' ht hx hk hx' he
  ·rw [hs] at hx;cases hx
   rw [hst] at he;cases he
   have e:n=q:=by
    have h1:=Aj hx'
    have h2:=Aj hq
    rw [JkC h1] at hx'
    rw [JkC h2] at hq
    exact (List.getElem_inj (h₀:=h1) (h₁:=h2) hnd).1 ((Option.some.inj hx').trans (Option.some.inj hq).symm)
   subst e
   rw [JkO hql] at hl'
   cases hl'
   simp
 ·by_cases e:n=q
  ·subst e
   rw [JkO hql] at hl'
   cases hl'
   have:=h.small n l hl
   simp;omega
  ·rw [JkT (Ne.symm e)] at hl'
   have:=h.small n l' hl'
   omega
theorem Dl.skip {t:Ab} {st:List Aa} {fr:List (List Int)} {i m:Nat} (h:Dl t st fr i m) {s:Aa} (hs:st[i]? = some s) (hst:(Ap t s (m:Nat)).2=false):Dl t st fr i (m+1):=by
 have htk:∀ {j k},HU i (m+1) j k->HU i m j k\/(j=i/\k=m):=λ {j k} h=>by
  unfold HU at *
  omega
 refine ⟨h.len,λ j x k ht hx hk h2=>?_,h.sound,λ n l hl j x k x' ht hx hk hx' he=>?_,λ n l hl=>by have:=h.small n l hl;omega⟩
 ·rcases htk ht with ht|⟨rfl,rfl⟩
  ·exact h.cov j x k ht hx hk h2
  ·rw [hs] at hx;cases hx;rw [hst] at h2;cases h2
 ·rcases htk ht with ht|⟨rfl,rfl⟩
  ·exact h.compl n l hl j x k x' ht hx hk hx' he
  ·rw [hs] at hx;cases hx;rw [he] at hst;cases hst
end Go.AI
end
section
namespace Go.AI
theorem Kd {α:Type} {l:List α} {i:Nat} {x:α} (h:l[i]? = some x):idx l (i:Int)=some x:=by
 unfold idx
 rw [if_pos (by omega)]
 simpa using h
theorem UC {α:Type} {eb:Nat} {xs ys:List α} (h:(xs.length+ys.length)*eb<=70368744177664):app eb xs ys=some (xs++ys):=by
 unfold app;rw [if_pos h]
theorem We {t:Ab} (ht:DK t) {i m:Nat} {s:Aa} {st:List Aa} {fr:List (List Int)} {nb:List (Aa×Int)} (hF:DL t st) (hi:st[i]? = some s) (hN:IC st nb) (hR:Dl t st fr i m) (hm:m<t.Rules.length) :
  ∃ fr' nb',IC (Kc t s st m) nb'/\Dl t (Kc t s st m) fr' i (m+1)/\∀ n,Bv n t (i:Int) st fr nb (m:Int)=some (.inl (Kc t s st m,fr',nb',((m+1:Nat):Int))):=by
 have hil:=Aj hi
 have hlen:=hF.len
 have hrl:=ht.1
 have hinc:Ay .i64 (m:Int) 1=((m+1:Nat):Int):=by rw [MN (by omega) (by omega)];rfl
 have hcond:decide ((m:Int)<((t.Rules.length:Nat):Int))=true:=by simpa using hm
 cases hp:(Ap t s (m:Nat)).2 with
 | false=>
  have ha:Kc t s st m=st:=by unfold Kc;rw [if_neg (by rw [hp];simp)]
  refine ⟨fr,nb,by rw [ha];exact hN,by rw [ha];exact hR.skip hi hp,λ n=>?_⟩
  unfold Bv
  rw [if_pos hcond,Kd hi]
  simp only [Option.bind_some,Qc ht.short,hp,Bool.not_false,if_true,Cv,hinc,ha]
 | true=>
  have hpe:Ap t s (m:Nat)=((Ap t s (m:Nat)).1,true):=Prod.ext rfl hp
  generalize hpp:(Ap t s (m:Nat)).1=p at hpe
  by_cases hmem:p∈st
  ·have ha:Kc t s st m=st:=by unfold Kc;rw [if_neg (by rw [hpp];exact λ hh=>hh.2 hmem)]
   obtain ⟨q,hq⟩:=List.mem_iff_getElem?.1 hmem
   have hql:=Aj hq
   obtain ⟨lq,hfq⟩:∃ lq,fr[q]? = some lq:=⟨_,JkC (by rw [hR.len];exact hql)⟩
   have hsm:=hR.small q _ hfq
   have hget:Gt p nb=some (q:Int):=by rw [hN p,CI hF.nodup hq];rfl
   have hiv:i<768:=by omega
   refine ⟨fr.set q (lq++[(i:Int)]),nb,by rw [ha];exact hN,by rw [ha];exact hR.put hF.nodup hi hm hpe hq hfq,λ n=>?_⟩
   unfold Bv
   rw [if_pos hcond,Kd hi]
   simp only [Option.bind_some,Qc ht.short,hpe,hget,Option.isSome_some,Bool.not_true,JkP,if_false,Option.getD_some,CS]
   rw [Kd hfq]
   simp only [Option.bind_some]
   rw [UC (by simp;omega)]
   simp only [Option.bind_some,Cv,hinc,ha,JkM]
  ·have ha:Kc t s st m=st++[p]:=by unfold Kc;rw [if_pos ⟨hp,by rw [hpp];exact hmem⟩,hpp]
   have hnd:(st++[p]).Nodup:=by have:=(hF.add ht hi hm).nodup;rwa [ha] at this
   have hget:Gt p nb=none:=by rw [hN p,Hr hmem];rfl
   have hR':=hR.snoc hmem hil
   have hfq:(fr++[[]])[st.length]? = some ([]:List Int):=by rw [← hR.len];simp
   refine ⟨(fr++[[]]).set st.length ([]++[(i:Int)]),LM p (st.length:Nat) nb,by rw [ha];exact hN.snoc hF.nodup hmem,by rw [ha];exact hR'.put hnd (by rw [JkK hil];exact hi) hm hpe (by simp) hfq,λ n=>?_⟩
   unfold Bv
   rw [if_pos hcond,Kd hi]
   simp only [Option.bind_some,Qc ht.short,hpe,hget,Option.isSome_none,Bool.not_false,Bool.not_true,JkP,if_true,if_false]
   rw [UC (by simp;omega),Option.bind_some,UC (by simp [hR.len];omega),Option.bind_some]
   simp only [CS]
   rw [Kd hfq]
   simp only [Option.bind_some]
   rw [UC (by simp)]
   simp only [Option.bind_some,Cv,hinc,ha,JkM]
theorem Dl.next {t:Ab} {st:List Aa} {fr:List (List Int)} {i:Nat} (h:Dl t st fr i t.Rules.length) (hr:t.Rules.length<=11):Dl t st fr (i+1) 0:=by
 have htk:∀ {j k},k<t.Rules.length->HU (i+1) 0 j k->HU i t.Rules.length j k:=λ {j k} hk h=>by
  unfold HU at *
  omega
 exact ⟨h.len,λ j s k ht hs hk=>h.cov j s k (htk hk ht) hs hk,h.sound,λ n l hl j s k s' ht hs hk=>h.compl n l hl j s k s' (htk hk ht) hs hk,λ n l hl=>by have:=h.small n l hl;omega⟩
theorem Jcf {t:Ab} (ht:DK t) {i:Nat} {s:Aa} {st:List Aa} {fr:List (List Int)} {nb:List (Aa×Int)} (hF:DL t st) (hi:st[i]? = some s) (hN:IC st nb) (hR:Dl t st fr i 0) :
  ∃ r:List Aa×List (List Int)×List (Aa×Int),(r.1=Jk t s t.Rules.length st/\IC r.1 r.2.2/\Dl t r.1 r.2.1 (i+1) 0) /\
   Ev (λ n=>whl (λ (x:((List Aa)×(List (List Int))×(List (Aa×Int))×Int))=>Bv n t (i:Int) x.1 x.2.1 x.2.2.1 x.2.2.2) n (st,fr,nb,0)) r:=by
 refine Ev.whlR (body:=λ n x=>Bv n t (i:Int) x.1 x.2.1 x.2.2.1 x.2.2.2) (λ k x=>∃ m:Nat,m<=t.Rules.length/\k=t.Rules.length-m/\x.1=Jk t s m st/\x.2.2.2=(m:Int)/\IC x.1 x.2.2.1/\Dl t x.1 x.2.1 i m) ?_ t.Rules.length (st,fr,nb,0) ⟨0,by omega,by omega,rfl,rfl,hN,hR⟩
 rintro k ⟨st',fr',nb',m'⟩ ⟨m,hm,rfl,h1,h2,h3,h4⟩
 simp only at h1 h2 h3 h4
 subst h1
 subst h2
 rcases Nat.lt_or_ge m t.Rules.length with hlt|hge
 ·left
  have hi':(Jk t s m st)[i]? = some s:=LG (G3 t s st m) hi
  obtain ⟨fr2,nb2,g1,g2,g3⟩:=We ht (hF.exp ht hi m hm) hi' h3 h4 hlt
  exact ⟨_,t.Rules.length-(m+1),by omega,⟨m+1,hlt,rfl,(Jl t s m st).symm,rfl,g1,g2⟩,Ev.all g3⟩
 ·right
  have e:m=t.Rules.length:=by omega
  subst e
  refine ⟨(Jk t s t.Rules.length st,fr',nb'),⟨rfl,h3,h4.next ht.1⟩,Ev.all λ n=>?_⟩
  unfold Bv
  rw [if_neg (by simp)]
theorem Xx {t:Ab} (ht:DK t):∃ fr,Dl t (Ae t) fr (Ae t).length 0/\Ev (λ n=>Fn n t) (Ae t,fr):=by
 have h0:DL t [As]:=⟨by simp,λ s hs=>by simp at hs;subst hs;exact ⟨by decide,by decide,by decide,by decide,by decide,by decide⟩,rfl,λ j s hj h0=>by cases j with|zero=>omega|succ j=>simp at hj⟩
 have loop:∃ r:List Aa×List (List Int),(r.1=Ae t/\Dl t r.1 r.2 r.1.length 0) /\
   Ev (λ n=>whl (λ (x:((List Aa)×(List (List Int))×(List (Aa×Int))×Int))=>Cw n t x.1 x.2.1 x.2.2.1 x.2.2.2) n ([As],([[]]:List (List Int)),(LM As 0 []),0)) r:=by
  refine Ev.whlR (body:=λ n x=>Cw n t x.1 x.2.1 x.2.2.1 x.2.2.2) (λ k x=>∃ i:Nat,i<=x.1.length/\k=800-i/\R6 t (800-i) i x.1=Ae t/\x.2.2.2=(i:Int)/\DL t x.1/\IC x.1 x.2.2.1/\Dl t x.1 x.2.1 i 0) ?_ 800 _ ⟨0,by simp,by omega,rfl,rfl,h0,?_,?_⟩
  ·rintro k ⟨st,fr,nb,i'⟩ ⟨i,hil,rfl,hb,hi',hF,hN,hR⟩
   simp only at hil hb hi' hF hN hR
   subst hi'
   have hlen:=hF.len
   rcases Nat.lt_or_ge i st.length with hlt|hge
   ·left
    have hi:st[i]? = some st[i]:=JkC hlt
    obtain ⟨r,⟨g1,g2,g3⟩,g4⟩:=Jcf ht hF hi hN hR
    have hexp:=hF.exp ht hi _ (Nat.le_refl _)
    refine ⟨(r.1,r.2.1,r.2.2,((i+1:Nat):Int)),800-(i+1),by omega,⟨i+1,?_,rfl,?_,rfl,by rw [g1];exact hexp,g2,g3⟩,?_⟩
    ·simp only [g1]
     have:=(G3 t st[i] st t.Rules.length).length_le
     omega
    ·simp only [g1]
     rw [← hb]
     have e:800-i=(800-(i+1))+1:=by omega
     rw [e]
     simp only [R6,hi]
    ·refine (Ev.bind g4 (g:=λ _ y2=>some (.inl (y2.1,y2.2.1,y2.2.2,((i+1:Nat):Int)))) Ev.const).congr λ n=>?_
     unfold Cw
     rw [if_pos (by simpa using hlt)]
     have hinc:Ay .i64 (i:Int) 1=((i+1:Nat):Int):=by rw [MN (by omega) (by omega)];rfl
     rw [hinc]
   ·right
    have e:i=st.length:=by omega
    subst e
    have hst:st=Ae t:=by
     rw [← hb]
     have e:800-st.length=(800-(st.length+1))+1:=by omega
     rw [e]
     simp [R6]
    refine ⟨(st,fr),⟨hst,hR⟩,Ev.all λ n=>?_⟩
    unfold Cw
    rw [if_neg (by simp)]
  ·intro s
   simp only [LM,Gt]
   by_cases e:s=As
   ·subst e;simp
   ·have:¬ As=s:=λ h=>e h.symm
    simp [e,this]
  ·refine ⟨rfl,λ j s k ht=>?_,λ n l hl x hx=>?_,λ n l hl j s k s' ht=>?_,λ n l hl=>?_⟩
   ·unfold HU at ht;omega
   ·cases n with
    | zero=>simp at hl;subst hl;simp at hx
    | succ n=>simp at hl
   ·unfold HU at ht;omega
   ·cases n with
    | zero=>simp at hl;subst hl;simp
    | succ n=>simp at hl
 obtain ⟨⟨st,fr⟩,⟨g1,g2⟩,g3⟩:=loop
 simp only at g1 g2
 subst g1
 refine ⟨fr,g2,?_⟩
 have hs:∀ n,I1 n=some As:=λ n=>rfl
 refine (Ev.bind g3 (g:=λ _ y3=>some (y3.1,y3.2)) Ev.const).congr λ n=>?_
 unfold Fn
 rw [hs,Option.bind_some]
theorem Xy {t:Ab} (ht:DK t):Ev (λ n=>HL n t) (Ae t):=by
 obtain ⟨fr,_,h⟩:=Xx ht
 exact (Ev.bind h (g:=λ _ r=>some r.1) Ev.const).congr λ n=>rfl
end Go.AI
end
section
namespace Go.AI
def Tot {α:Type} (f:Nat->Option α) (P:α->Prop):Prop:=∃ z,P z/\Ev f z
def Rd2 {σ ρ:Type} (I:σ->Prop) (P:ρ->Prop):σ⊕ρ->Prop
 | .inl y=>I y
 | .inr r=>P r
variable {α β σ ρ:Type} {P R:α->Prop}
theorem Tot.ev {f:Nat->Option α} {z:α} (h:Tot f (λ x=>x=z)):Ev f z:=by obtain ⟨_,rfl,h⟩:=h;exact h
theorem Ev.tot {f:Nat->Option α} {z:α} (h:Ev f z) (hp:P z):Tot f P:=⟨z,hp,h⟩
theorem Tot.pure {z:α} (h:P z):Tot (λ _=>some z) P:=⟨z,h,Ev.const⟩
theorem Tot.all {f:Nat->Option α} {z:α} (h:∀ n,f n=some z) (hp:P z):Tot f P:=⟨z,hp,Ev.all h⟩
theorem Tot.mono {f:Nat->Option α} (h:Tot f R) (hp:∀ x,R x->P x):Tot f P:=by obtain ⟨z,hz,h⟩:=h;exact ⟨z,hp z hz,h⟩
theorem Tot.bind {f:Nat->Option β} {g:Nat->β->Option α} {R:β->Prop} (h:Tot f R) (k:∀ x,R x->Tot (λ n=>g n x) P):Tot (λ n=>(f n).bind (g n)) P:=by
 obtain ⟨x,hx,h⟩:=h
 obtain ⟨z,hz,h'⟩:=k x hx
 exact ⟨z,hz,Ev.bind h h'⟩
theorem Tot.bindE {f:Nat->Option β} {g:Nat->β->Option α} {x:β} (h:Ev f x) (k:Tot (λ n=>g n x) P):Tot (λ n=>(f n).bind (g n)) P:=by
 obtain ⟨z,hz,h'⟩:=k
 exact ⟨z,hz,Ev.bind h h'⟩
theorem Tot.bindC {x:Option β} {y:β} {g:Nat->β->Option α} (h:x=some y) (k:Tot (λ n=>g n y) P):Tot (λ n=>x.bind (g n)) P:=by subst h;exact k
theorem Tot.bindA {f:Nat->Option β} {y:β} {g:Nat->β->Option α} (h:∀ n,f n=some y) (k:Tot (λ n=>g n y) P):Tot (λ n=>(f n).bind (g n)) P:=Tot.bindE (Ev.all h) k
theorem Tot.ite {c:Bool} {a b:Nat->Option α} (h1:c=true->Tot a P) (h2:c=false->Tot b P):Tot (λ n=>if c=true then a n else b n) P:=by
 cases c with
 | true=>exact h1 rfl
 | false=>exact h2 rfl
theorem Tot.iteT {c:Bool} {a b:Nat->Option α} (h:c=true) (k:Tot a P):Tot (λ n=>if c=true then a n else b n) P:=by subst h;exact k
theorem Tot.iteF {c:Bool} {a b:Nat->Option α} (h:c=false) (k:Tot b P):Tot (λ n=>if c=true then a n else b n) P:=by subst h;exact k
theorem Tot.guard {c:Bool} {f:Nat->Option β} {d:β} {g:Nat->β->Option α} {R:β->Prop} (h:c=true->Tot f R) (k:∀ x,(c=true->R x)->Tot (λ n=>g n x) P):Tot (λ n=>(if c=true then f n else some d).bind (g n)) P:=by
 cases c with
 | true=>exact Tot.bind (h rfl) λ x hx=>k x λ _=>hx
 | false=>exact k d λ h=>by cases h
theorem Tot.congr {f g:Nat->Option α} (h:Tot f P) (e:∀ n,g n=f n):Tot g P:=by obtain ⟨z,hz,h⟩:=h;exact ⟨z,hz,h.congr e⟩
theorem Tot.sum {y:β⊕σ} {f:Nat->β->Option α} {g:Nat->σ->Option α} (h1:∀ b,y=.inl b->Tot (λ n=>f n b) P) (h2:∀ b,y=.inr b->Tot (λ n=>g n b) P):Tot (λ n=>match y with | .inl b=>f n b | .inr b=>g n b) P:=by
 cases y with
 | inl b=>exact h1 b rfl
 | inr b=>exact h2 b rfl
theorem Tot.whl {body:Nat->σ->Option (σ⊕ρ)} {P:ρ->Prop} (I:Nat->σ->Prop) (h:∀ k x,I k x->Tot (λ n=>body n x) (Rd2 (λ y=>∃ j,j<k/\I j y) P)):∀ (k:Nat) (x:σ),I k x->Tot (λ n=>Go.AI.whl (body n) n x) P:=by
 have key:∀ (k:Nat) (x:σ),I k x->∃ r,P r/\∃ N c,∀ n fuel,N<=n->c<=fuel->Go.AI.whl (body n) fuel x=some r:=by
  intro k
  induction k using Nat.strongRecOn with
  | _ k ih=>
   intro x hx
   obtain ⟨z,hz,N1,h1⟩:=h k x hx
   cases z with
   | inl y=>
    obtain ⟨j,hj,hy⟩:=hz
    obtain ⟨r,hr,N2,c,h2⟩:=ih j hj y hy
    refine ⟨r,hr,max N1 N2,c+1,λ n fuel hn hf=>?_⟩
    cases fuel with
    | zero=>omega
    | succ fuel=>
     have e:=h1 n (by omega)
     simp only at e
     simp only [Go.AI.whl,e]
     exact h2 n fuel (by omega) (by omega)
   | inr r=>
    refine ⟨r,hz,N1,1,λ n fuel hn hf=>?_⟩
    cases fuel with
    | zero=>omega
    | succ fuel=>
     have e:=h1 n hn
     simp only at e
     simp only [Go.AI.whl,e]
 intro k x hx
 obtain ⟨r,hr,N,c,hh⟩:=key k x hx
 exact ⟨r,hr,max N c,λ m hm=>hh m m (by omega) (by omega)⟩
theorem Tot.upto {body:Nat->σ->Option (σ⊕ρ)} {P:ρ->Prop} (N:Nat) (I:Nat->σ->Prop)
  (step:∀ i x,i<N->I i x->Tot (λ n=>body n x) (Rd2 (I (i+1)) P))
  (last:∀ x,I N x->Tot (λ n=>body n x) (Rd2 (λ _=>False) P)) (x:σ) (h0:I 0 x):Tot (λ n=>Go.AI.whl (body n) n x) P:=by
 refine Tot.whl (body:=body) (λ k x=>∃ i,i<=N/\k=N-i/\I i x) ?_ N x ⟨0,by omega,by omega,h0⟩
 rintro k x ⟨i,hi,rfl,hx⟩
 rcases Nat.lt_or_ge i N with hlt|hge
 ·refine (step i x hlt hx).mono λ z hz=>?_
  cases z with
  | inl y=>exact ⟨N-(i+1),by omega,i+1,by omega,rfl,hz⟩
  | inr r=>exact hz
 ·have:i=N:=by omega
  subst this
  refine (last x hx).mono λ z hz=>?_
  cases z with
  | inl y=>exact hz.elim
  | inr r=>exact hz
theorem Cb {l:List α} {i:Nat} {x:α} (h:l[i]? = some x):idx l (i:Int)=some x:=by
 unfold idx
 rw [if_pos (by omega)]
 simpa using h
theorem CE {l:List α} {i:Nat} (h:i<l.length):idx l (i:Int)=some l[i]:=Cb (JkC h)
theorem D1 {eb:Nat} {xs ys:List α} (h:(xs.length+ys.length)*eb<=70368744177664):app eb xs ys=some (xs++ys):=by
 unfold app;rw [if_pos h]
theorem GA {l:List α} {i:Nat} {y:α} (h:i<l.length):put l (i:Int) y=some (l.set i y):=by
 unfold put;rw [if_pos (by omega),JkM]
theorem Jcg {x y:List UInt8} (h:x.length+y.length<=9223372036854775807):cat x y=some (x++y):=by
 unfold cat;rw [if_pos h]
end Go.AI
end
