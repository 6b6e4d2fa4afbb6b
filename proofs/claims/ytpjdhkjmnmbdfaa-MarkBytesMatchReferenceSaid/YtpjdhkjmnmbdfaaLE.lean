/- Part 5 of 6 of the proof: lemmas about the model and the program's functions, with no condition beyond those that each states. -/
import Derived.Test.YtpjdhkjmnmbdfaaLD
import Derived.ChangeArms
import Derived.WalkKit
import Derived.ProofKit
import Derived.OpenShut
import Derived.Carry
import Derived.WideKeyArgs
import Derived.ChangeSame
import Derived.KernelRfl
section
namespace Go.AI
open Go.Proofs
set_option maxRecDepth 10000
variable {n:Nat}
section
variable (p0_:Int) (p1_:Bool) (b1_0_:Int) (b2_0_:Int) (b3_:Ad) (x_22:Ad) (x_23:Bool) (x41:(List Fu)) (x_24:Ad) (better_1:Bool) (x_25:Int) (x_26:Ad) (better_2:Bool) (x_27:Ad) (better_3:Bool)
def Jaz:St:=⟨(0,.d (.int .i64 p0_))::(1,.d (.bool p1_))::(2,.ptr 0 0)::(3,.ptr 1 0)::(4,.ptr 2 0)::[],[some (.box [.ptr 3 0]),some (.box [.eptr 4 2 (0+Int.toNat b1_0_) 0]),some (.box [.d (.int .i64 b2_0_)]),some (.box (Al b3_ (.osl 4 2 0 (b3_.Columns.length)))),some (.narr 2 (b3_.Columns.map Ab))]⟩
def JaA:St:=⟨(7,.d (.bool x_23))::[],[some (.box [.ptr 3 0]),some (.box [.eptr 4 2 (0+Int.toNat b1_0_) 0]),some (.box [.d (.int .i64 b2_0_)]),some (.box (Al x_22 (.osl 4 2 0 (x_22.Columns.length)))),some (.narr 2 (x_22.Columns.map Ab))]⟩
def JaB:St:=⟨(0,.d (.int .i64 p0_))::(1,.d (.bool p1_))::(2,.ptr 0 0)::(3,.ptr 1 0)::(4,.ptr 2 0)::(8,.d (.bool better_1))::(27,.d (.sl (x41.map BB)))::(28,.d (.int .i64 ((x41.length:Nat):Int)))::(29,.d (.int .i64 x_25))::[],[some (.box [.ptr 3 0]),some (.box [.eptr 4 2 (0+Int.toNat b1_0_) 0]),some (.box [.d (.int .i64 b2_0_)]),some (.box (Al x_24 (.osl 4 2 0 (x_24.Columns.length)))),some (.narr 2 (x_24.Columns.map Ab))]⟩
def JaC:St:=⟨(8,.d (.bool better_2))::[],[some (.box [.ptr 3 0]),some (.box [.eptr 4 2 (0+Int.toNat b1_0_) 0]),some (.box [.d (.int .i64 b2_0_)]),some (.box (Al x_26 (.osl 4 2 0 (x_26.Columns.length)))),some (.narr 2 (x_26.Columns.map Ab))]⟩
def JaD:St:=⟨(0,.d (.int .i64 p0_))::(1,.d (.bool p1_))::(2,.ptr 0 0)::(3,.ptr 1 0)::(4,.ptr 2 0)::(8,.d (.bool better_3))::(27,.d (.sl (x41.map BB)))::(28,.d (.int .i64 ((x41.length:Nat):Int)))::(29,.d (.int .i64 x_25))::[],[some (.box [.ptr 3 0]),some (.box [.eptr 4 2 (0+Int.toNat b1_0_) 0]),some (.box [.d (.int .i64 b2_0_)]),some (.box (Al x_27 (.osl 4 2 0 (x_27.Columns.length)))),some (.narr 2 (x_27.Columns.map Ab))]⟩
def IJ:(Ad×Bool)->Ex->St->Prop:=xX 5 0 (λ (y:(Ad×Bool))=>JaC b1_0_ b2_0_ y.1 y.2)
def Fk:(Ad×Bool×Int)->St:=(λ (x:(Ad×Bool×Int))=>JaB p0_ p1_ b1_0_ b2_0_ x41 x.1 x.2.1 x.2.2)
variable {p0_ p1_ b1_0_ b2_0_ b3_ x_22 x_23 x41 x_24 better_1 x_25 x_26 better_2 x_27 better_3}
theorem Ig (x:(Ad×Bool×Int)) (z:((Ad×Bool×Int)⊕(Ad×Bool))) (H:Bc n p0_ p1_ b1_0_ b2_0_ x41 x.1 x.2.1 x.2.2=some z):WP (cxk 104 5) (AH Try.f63) [1,1,0,1,0,0] (AJ 5 (Fk p0_ p1_ b1_0_ b2_0_ x41) (IJ b1_0_ b2_0_) z) (Fk p0_ p1_ b1_0_ b2_0_ x41 x):=by
 obtain ⟨x_24,better_1,x_25⟩:=x
 refine sr (ck 1 (en (sq (cn H (λ H=>?_) (λ H=>?_)))))
 ·refine sk (qz (sj (λ (x:(Ad×Bool))=>JaD p0_ p1_ b1_0_ b2_0_ x41 x_25 x.1 x.2) (λ (x:(Ad×Bool))=>Bb n x_25 x.1 x.2) z ?_ (λ hFTr_writer_price_1_J1=>?_)))
  ·rintro ⟨x_27,better_3⟩ H
   exact rz (ck 2 (ae (by cases H;exact og (gP [0,1,2,3,4,8,27,28,29] [0,1,2,3,4] (po1 (po1 (po1 (po1 (pn1 Ab x_27.Columns (Pl.z))))))))))
  refine bk 1 (sr (bx H λ x42 h127 H=>sp (Au BB h127) (ck 3 (en (sr (ck 4 (bx H λ r38 h128 H=>ltP [3,4] (DR h128) (po1 (pn1 Ab x_24.Columns (Pl.z))) (tb (f:=D1 (CU [3,4] 6 2)) [some (.box [.ptr 3 0]),some (.box [.eptr 4 2 (0+Int.toNat b1_0_) 0]),some (.box [.d (.int .i64 b2_0_)]),some (.box (Al x_24 (.osl 4 2 0 (x_24.Columns.length)))),some (.narr 2 (x_24.Columns.map Ab)),some (.box [.d (.int .i64 x42.Rule),.d (.int .i64 x42.To)])] (po1 (po1 (po1 (po1 (pn1 Ab x_24.Columns (po1 (Pl.z))))))) (ck 5 (en (sq (sr (ck 5 (gc 1 (!(!r38.2)) (ck 1 (gc 1 (!(!r38.2)) (pO (en (cn H (λ H=>?_) (λ H=>?_))))))))))))))))))))
  ·exact ex 1 (qx (qH (qs (gP [0,1,2,3,4,8,27,28,29] [0,1,2,3,4] (po1 (po1 (po1 (po1 (pn1 Ab x_24.Columns (Pl.z))))))) (hFTr_writer_price_1_J1 (x_24,better_1) H))))
  ·refine sk (qz (sr (ck 5 (bx H λ x43 h129 H=>sp (AC 4 2 h129) (ck 2 (bx H λ r39 h130 H=>cb (ks:=[4]) (obl:=[(0+Int.toNat r38.1+1,List.length (x_24.Columns.map Ab)),(Mg (x_24.Columns.map Ab),0)]) false (leK (Jd8 (encN:=Ab) h129) (leK (Jcx λ _=>rfl) (leZ))) (E6 (ZN (encN:=Ab) (encD:=KD) h129 λ _=>rfl) (E6 rfl rfl)) (EW h130) (Or.inr trivial) rfl (ck 1 (en (sr (ck 8 (bx H λ x44 h131 H=>sp (Au Am h131) (ck 2 (sp (AM eU8 x44.Cells) (ck 2 (en (sq (bx H λ x45 h132 H=>rg (tr (so1 (encN:=Ab) 4 2 h132) (sno (encN:=Ab) (enc:=Ag) h132 [.own 1 (x45.States.map Ag),.own 1 (x45.Costs.map Ag)] x45.Costs 2 4 1 1)) (ck 4 (gc 2 (decide (r39>=0)) (sE (g:=decide (r39>=0)) (λ hg=>B6 (encN:=Ab) (row:=[.own 1 (x45.States.map Ag),.osl 6 1 0 (x45.Costs.length)]) (k:=4) (sz:=2) (off:=1) (t:=ty 40) (v:=.osl 6 1 0 (x45.Costs.length)) h132) (ck 1 (bx H λ x46 h133 H=>sE (λ hg=>AC 6 1 (Ce h133 hg)) (sE (g:=decide (r39>=0)) (λ hg=>CC Ag 6 0 (ty 3) (Ce h133 hg)) (gc 2 (decide (r39>=0)) (ck 2 (gc 2 ((decide (r39>=0))&&!(decide (x46<0))) (sE (g:=((decide (r39>=0))&&!(decide (x46<0)))) (λ hg=>B6 (encN:=Ab) (row:=[.own 1 (x45.States.map Ag),.osl 6 1 0 (x45.Costs.length)]) (k:=4) (sz:=2) (off:=1) (t:=ty 40) (v:=.osl 6 1 0 (x45.Costs.length)) h132) (ck 1 (bx H λ x47 h134 H=>sE (λ hg=>AC 6 1 (Ce h134 hg)) (sE (g:=((decide (r39>=0))&&!(decide (x46<0)))) (λ hg=>CC Ag 6 0 (ty 3) (Ce h134 hg)) (gc 1 ((decide (r39>=0))&&!(decide (x46<0))) (pG (g:=decide (r39>=0)) (v:=.d (.bool ((decide (x46<0))||(decide (Az .i64 r39 ((x44.Cells.length:Nat):Int)<x47))))) (λ hg=>K5 (c:=.gv (decide (r39>=0)) (.d (.bool (decide (x46<0))))) (a:=.d (.bool true)) (b:=.gv ((decide (r39>=0))&&!(decide (x46<0))) (.d (.bool (decide (Az .i64 r39 ((x44.Cells.length:Nat):Int)<x47))))) rfl rfl rfl ((λ hh=>hh) hg) trivial (λ ht=>by rw [(λ hh=>hh) hg,ht];rfl)) (pA (en (cn H (λ H=>?_) (λ H=>?_))))))))))))))))))))))))))))))))))))
   ·exact sq (bx H λ x48 h135 H=>rg (tr (tr (tr (tr (tr (sni (encN:=Ab) (xs:=x_24.Columns) (n:=b1_0_) (enc:=Ag) [.own 1 (x45.States.map Ag),.osl 6 1 0 (x45.Costs.length)] x45.Costs 2 4 1 6 1) (scl (encN:=Ab) (xss:=x_24.Columns) b1_0_ [.own 1 (x45.States.map Ag),.own 1 (x45.Costs.map Ag)] 2 4 x45)) (sn 53 4 2 (lsS x_24.Columns b1_0_.toNat x45))) (snc 3 6 4 2 (lsS x_24.Columns b1_0_.toNat x45))) (so1 (encN:=Ab) 4 2 h135)) (sno (encN:=Ab) (enc:=Ag) h135 [.own 1 (x48.States.map Ag),.own 1 (x48.Costs.map Ag)] x48.Costs 2 4 1 1)) (ck 3 (sp (B6 (encN:=Ab) (row:=[.own 1 (x48.States.map Ag),.osl 7 1 0 (x48.Costs.length)]) (k:=4) (sz:=2) (off:=1) (t:=ty 40) (v:=.osl 7 1 0 (x48.Costs.length)) h135) (ck 2 (bx H λ x49 h136 H=>sp (AC 7 1 h136) (bx H λ l15 h137 H=>stA Ag 7 0 (ty 3) h136 h137 (en (rg (tr (tr (tr (tr (tr (sn 98 7 1 (BX h137)) (snr (encN:=Ab) (xs:=List.set x_24.Columns b1_0_.toNat x45) (n:=b1_0_) [.own 1 (x48.States.map Ag),.osl 7 1 0 (x48.Costs.length)] 2 4 1 7 1 (BX h137))) (sni (encN:=Ab) (xs:=List.set x_24.Columns b1_0_.toNat x45) (n:=b1_0_) (enc:=Ag) [.own 1 (x48.States.map Ag),.osl 7 1 0 (l15.length)] l15 2 4 1 7 1)) (scl (encN:=Ab) (xss:=List.set x_24.Columns b1_0_.toNat x45) b1_0_ [.own 1 (x48.States.map Ag),.own 1 (l15.map Ag)] 2 4 ({ States:=x48.States,Costs:=l15 }:Aw))) (sn 53 4 2 (lsS (List.set x_24.Columns b1_0_.toNat x45) b1_0_.toNat ({ States:=x48.States,Costs:=l15 }:Aw)))) (snc 3 6 4 2 (lsS (List.set x_24.Columns b1_0_.toNat x45) b1_0_.toNat ({ States:=x48.States,Costs:=l15 }:Aw)))) (ck 1 (ae (qN (qs (gP [0,1,2,3,4,8,27,28,29] [0,1,2,3,4] (po1 (po1 (po1 (po1 (pn1 Ab (List.set (List.set x_24.Columns b1_0_.toNat x45) b1_0_.toNat ({ States:=x48.States,Costs:=l15 }:Aw)) (Pl.z))))))) (hFTr_writer_price_1_J1 (({ T:=x_24.T,S:=x_24.S,States:=x_24.States,Arcs:=x_24.Arcs,Columns:=List.set (List.set x_24.Columns b1_0_.toNat x45) b1_0_.toNat ({ States:=x48.States,Costs:=l15 }:Aw),Last:=x_24.Last }:Ad),true) H)))))))))))))
   ·exact sk (qN (qs (tr (tr (tr (tr (sni (encN:=Ab) (xs:=x_24.Columns) (n:=b1_0_) (enc:=Ag) [.own 1 (x45.States.map Ag),.osl 6 1 0 (x45.Costs.length)] x45.Costs 2 4 1 6 1) (scl (encN:=Ab) (xss:=x_24.Columns) b1_0_ [.own 1 (x45.States.map Ag),.own 1 (x45.Costs.map Ag)] 2 4 x45)) (sn 53 4 2 (lsS x_24.Columns b1_0_.toNat x45))) (snc 3 6 4 2 (lsS x_24.Columns b1_0_.toNat x45))) (gP [0,1,2,3,4,8,27,28,29] [0,1,2,3,4] (po1 (po1 (po1 (po1 (pn1 Ab (List.set x_24.Columns b1_0_.toNat x45) (Pl.z)))))))) (hFTr_writer_price_1_J1 (({ T:=x_24.T,S:=x_24.S,States:=x_24.States,Arcs:=x_24.Arcs,Columns:=List.set x_24.Columns b1_0_.toNat x45,Last:=x_24.Last }:Ad),better_1) H)))
 ·exact ex 0 (qx (by cases H;exact xo rfl (gP [8] [0,1,2,3,4] (po1 (po1 (po1 (po1 (pn1 Ab x_24.Columns (Pl.z)))))))))
theorem FP {z} (H:BT n p0_ p1_ b1_0_ b2_0_ b3_=some z):Co Try.prog 63 [.d (.int .i64 p0_),.d (.bool p1_),.ptr 0 0,.ptr 1 0,.ptr 2 0] [some (.box [.ptr 3 0]),some (.box [.eptr 4 2 (0+Int.toNat b1_0_) 0]),some (.box [.d (.int .i64 b2_0_)]),some (.box (Al b3_ (.osl 4 2 0 (b3_.Columns.length)))),some (.narr 2 (b3_.Columns.map Ab))] 5 (.d (.bool z.2)) [some (.box [.ptr 3 0]),some (.box [.eptr 4 2 (0+Int.toNat b1_0_) 0]),some (.box [.d (.int .i64 b2_0_)]),some (.box (Al z.1 (.osl 4 2 0 (z.1.Columns.length)))),some (.narr 2 (z.1.Columns.map Ab))]:=by
 exact fL 104 5 (Jaz p0_ p1_ b1_0_ b2_0_ b3_) Try.func63 (sr (ck 1 (en (sr (ck 1 (en (sq (sq (bx H λ x39 h124 H=>rg (tr (so1 (encN:=Ab) 4 2 h124) (sno (encN:=Ab) (enc:=Ag) h124 [.own 1 (x39.States.map Ag),.own 1 (x39.Costs.map Ag)] x39.States 2 4 0 1)) (ck 7 (sp (B6 (encN:=Ab) (row:=[.osl 5 1 0 (x39.States.length),.own 1 (x39.Costs.map Ag)]) (k:=4) (sz:=2) (off:=0) (t:=ty 40) (v:=.osl 5 1 0 (x39.States.length)) h124) (ck 1 (bx H λ x40 h125 H=>sp (AC 5 1 h125) (sp (CC Ag 5 0 (ty 3) h125) (bx H λ x41 h126 H=>sp (Au (eL BB) h126) (ck 1 (sp (AM BB x41) (ck 1 (en (bk 0 (bx H λ y34 h138 H=>lX Ig h138 (tr (tr (tr (sni (encN:=Ab) (xs:=b3_.Columns) (n:=b1_0_) (enc:=Ag) [.osl 5 1 0 (x39.States.length),.own 1 (x39.Costs.map Ag)] x39.States 2 4 0 5 1) (scl (encN:=Ab) (xss:=b3_.Columns) b1_0_ [.own 1 (x39.States.map Ag),.own 1 (x39.Costs.map Ag)] 2 4 x39)) (snc 3 6 4 2 (lsS b3_.Columns b1_0_.toNat x39))) (gP [0,1,2,3,4,8,27,28,29] [0,1,2,3,4] (po1 (po1 (po1 (po1 (pn1 Ab (List.set b3_.Columns b1_0_.toNat x39) (Pl.z)))))))) rfl λ s hE27=>qH (qs (hE27) (sr (ck 2 (en (re (by cases H;exact pL (rl (s':=JaA b1_0_ b2_0_ y34.1 y34.2) (gP [7] [0,1,2,3,4] (po1 (po1 (po1 (po1 (pn1 Ab y34.1.Columns (Pl.z)))))))))))))))))))))))))))))))))))
end
section
variable (b0_:Ad) (x_28:Ad) (w_13:Ad) (place_3:Int) (x_29:Ad) (x51:Aw) (l16:(List Int)) (x52:Aw) (r_1:(List Int)) (x_30:Int) (w_14:Ad) (r_2:(List Int)) (x58:Aw) (w_15:Ad) (x_31:Int) (w_16:Ad) (w_17:Ad) (w_18:Ad) (x59:Aw) (w_19:Ad) (better_4:Bool) (x_32:Int) (w_20:Ad) (better_5:Bool)
def JaE:St:=⟨(0,.ptr 0 0)::[],[some (.box (Al b0_ (.osl 1 2 0 (b0_.Columns.length)))),some (.narr 2 (b0_.Columns.map Ab))]⟩
def JaF:St:=⟨[],[some (.box (Al x_28 (.osl 1 2 0 (x_28.Columns.length)))),some (.narr 2 (x_28.Columns.map Ab))]⟩
def JaG:St:=⟨(1,.ptr 2 0)::(2,.ptr 3 0)::[],[some (.box (Al w_13 (.osl 1 2 0 (w_13.Columns.length)))),some (.narr 2 (w_13.Columns.map Ab)),some (.box [.ptr 0 0]),some (.box [.d (.int .i64 place_3)])]⟩
def JaH:St:=⟨[],[some (.box (Al x_29 (.osl 1 2 0 (x_29.Columns.length)))),some (.narr 2 (x_29.Columns.map Ab))]⟩
def JaI:St:=⟨(1,.ptr 2 0)::(2,.ptr 3 0)::(3,.ptr 4 0)::(37,.osl 5 1 0 (x52.States.length))::(38,.d (.int .i64 ((x52.States.length:Nat):Int)))::(39,.d (.int .i64 x_30))::[],[some (.box (Al w_13 (.osl 1 2 0 (List.length (List.set w_13.Columns place_3.toNat ({ States:=x51.States,Costs:=l16 }:Aw)))))),some (.narr 2 (List.set (List.map Ab (List.set w_13.Columns place_3.toNat ({ States:=x51.States,Costs:=l16 }:Aw))) place_3.toNat [.osl 5 1 0 (x52.States.length),.own 1 (r_1.map Ag)])),some (.box [.ptr 0 0]),some (.box [.d (.int .i64 place_3)]),some (.box [.eptr 1 2 (0+Int.toNat place_3) 0]),some (.arr 1 (x52.States.map Ag))]⟩
def JaJ:St:=⟨(1,.ptr 2 0)::(2,.ptr 3 0)::(3,.ptr 4 0)::[],[some (.box (Al w_14 (.osl 1 2 0 (w_14.Columns.length)))),some (.narr 2 (w_14.Columns.map Ab)),some (.box [.ptr 0 0]),some (.box [.d (.int .i64 place_3)]),some (.box [.eptr 1 2 (0+Int.toNat place_3) 0])]⟩
def JaK:St:=⟨(1,.ptr 2 0)::(2,.ptr 3 0)::(3,.ptr 4 0)::(37,.osl 5 1 0 (x52.States.length))::(38,.d (.int .i64 ((x52.States.length:Nat):Int)))::(39,.d (.int .i64 x_30))::[],[some (.box (Al w_13 (.osl 1 2 0 (List.length (List.set w_13.Columns place_3.toNat ({ States:=x51.States,Costs:=l16 }:Aw)))))),some (.narr 2 (List.set (List.map Ab (List.set w_13.Columns place_3.toNat ({ States:=x51.States,Costs:=l16 }:Aw))) place_3.toNat [.osl 5 1 0 (x52.States.length),.own 1 (r_2.map Ag)])),some (.box [.ptr 0 0]),some (.box [.d (.int .i64 place_3)]),some (.box [.eptr 1 2 (0+Int.toNat place_3) 0]),some (.arr 1 (x52.States.map Ag))]⟩
def Kg:Ad->Ex->St->Prop:=xX 2 2 (λ (y:Ad)=>JaJ place_3 y)
def FQ:((List Int)×Int)->St:=(λ (x:((List Int)×Int))=>JaI w_13 place_3 x51 l16 x52 x.1 x.2)
def JaL:St:=⟨(1,.ptr 2 0)::(2,.ptr 3 0)::(3,.ptr 4 0)::(6,.clo 63 [.ptr 2 0,.ptr 4 0,.ptr 3 0])::(83,.d (.int .i64 ((x58.States.length:Nat):Int)))::(84,.d (.int .i64 x_31))::[],[some (.box (Al w_15 (.osl 1 2 0 (w_15.Columns.length)))),some (.narr 2 (w_15.Columns.map Ab)),some (.box [.ptr 0 0]),some (.box [.d (.int .i64 place_3)]),some (.box [.eptr 1 2 (0+Int.toNat place_3) 0])]⟩
def JaM:St:=⟨(1,.ptr 2 0)::(2,.ptr 3 0)::(3,.ptr 4 0)::(6,.clo 63 [.ptr 2 0,.ptr 4 0,.ptr 3 0])::[],[some (.box (Al w_16 (.osl 1 2 0 (w_16.Columns.length)))),some (.narr 2 (w_16.Columns.map Ab)),some (.box [.ptr 0 0]),some (.box [.d (.int .i64 place_3)]),some (.box [.eptr 1 2 (0+Int.toNat place_3) 0])]⟩
def Kh:Ad->Ex->St->Prop:=xX 2 4 (λ (y:Ad)=>JaM place_3 y)
def FR:(Ad×Int)->St:=(λ (x:(Ad×Int))=>JaL place_3 x58 x.1 x.2)
def X9:St:=⟨(1,.ptr 2 0)::(2,.ptr 3 0)::(3,.ptr 4 0)::(6,.clo 63 [.ptr 2 0,.ptr 4 0,.ptr 3 0])::[],[some (.box (Al w_17 (.osl 1 2 0 (w_17.Columns.length)))),some (.narr 2 (w_17.Columns.map Ab)),some (.box [.ptr 0 0]),some (.box [.d (.int .i64 place_3)]),some (.box [.eptr 1 2 (0+Int.toNat place_3) 0])]⟩
def Ya:St:=⟨(1,.ptr 2 0)::(2,.ptr 3 0)::[],[some (.box (Al w_18 (.osl 1 2 0 (w_18.Columns.length)))),some (.narr 2 (w_18.Columns.map Ab)),some (.box [.ptr 0 0]),some (.box [.d (.int .i64 place_3)])]⟩
def Yb:St:=⟨(1,.ptr 2 0)::(2,.ptr 3 0)::(3,.ptr 4 0)::(6,.clo 63 [.ptr 2 0,.ptr 4 0,.ptr 3 0])::(8,.d (.bool better_4))::(95,.d (.int .i64 ((x59.States.length:Nat):Int)))::(96,.d (.int .i64 x_32))::[],[some (.box (Al w_19 (.osl 1 2 0 (w_19.Columns.length)))),some (.narr 2 (w_19.Columns.map Ab)),some (.box [.ptr 0 0]),some (.box [.d (.int .i64 place_3)]),some (.box [.eptr 1 2 (0+Int.toNat place_3) 0])]⟩
def Yc:St:=⟨(1,.ptr 2 0)::(2,.ptr 3 0)::(3,.ptr 4 0)::(6,.clo 63 [.ptr 2 0,.ptr 4 0,.ptr 3 0])::(8,.d (.bool better_5))::[],[some (.box (Al w_20 (.osl 1 2 0 (w_20.Columns.length)))),some (.narr 2 (w_20.Columns.map Ab)),some (.box [.ptr 0 0]),some (.box [.d (.int .i64 place_3)]),some (.box [.eptr 1 2 (0+Int.toNat place_3) 0])]⟩
def Ki:(Ad×Bool)->Ex->St->Prop:=xX 2 8 (λ (y:(Ad×Bool))=>Yc place_3 y.1 y.2)
def FS:(Ad×Bool×Int)->St:=(λ (x:(Ad×Bool×Int))=>Yb place_3 x59 x.1 x.2.1 x.2.2)
def Kj:Ad->Ex->St->Prop:=xX 2 6 (λ (y:Ad)=>Ya place_3 y)
def FT:Ad->St:=(λ (x:Ad)=>X9 place_3 x)
def Kk:Ad->Ex->St->Prop:=xX 2 0 (λ (y:Ad)=>JaH y)
def FU:(Ad×Int)->St:=(λ (x:(Ad×Int))=>JaG x.1 x.2)
variable {b0_ x_28 w_13 place_3 x_29 x51 l16 x52 r_1 x_30 w_14 r_2 x58 w_15 x_31 w_16 w_17 w_18 x59 w_19 better_4 x_32 w_20 better_5}
theorem Ju (x:((List Int)×Int)) (z:(((List Int)×Int)⊕Ad)) (H:Bn n w_13 place_3 x51 l16 x52 x.1 x.2=some z):WP (cxk 109 2) (AH Try.f38) [1,1,0,0,1,0,0,0,1,1,0,1,0,0] (AJ 2 (FQ w_13 place_3 x51 l16 x52) (Kg place_3) z) (FQ w_13 place_3 x51 l16 x52 x):=by
 obtain ⟨r_1,x_30⟩:=x
 refine sr (ck 1 (en (sq (cn H (λ H=>?_) (λ H=>?_)))))
 ·refine sk (qz (sj (λ (x:(List Int))=>JaK w_13 place_3 x51 l16 x52 x_30 x) (λ (x:(List Int))=>BI n x_30 x) z ?_ (λ hFTr_writer_price_J1=>?_)))
  ·intro r_2 H
   exact rz (ck 2 (ae (by cases H;exact og (gP [1,2,3,37,38,39] [0,1,2,3,4,5] (po1 (Pl.n _ (nrH (n:=Int.toNat place_3) (row:=[.osl 5 1 0 (x52.States.length),.own 1 (r_2.map Ag)]) (row':=[.osl 5 1 0 (x52.States.length),.own 1 (r_2.map Ag)]) (nrM (encN:=Ab) (xss:=List.set w_13.Columns place_3.toNat ({ States:=x51.States,Costs:=l16 }:Aw)) λ _=>rfl) rfl) (po1 (po1 (po1 (po1 (Pl.z)))))))))))
  refine bk 3 (sr (ck 1 (bx H λ x53 h143 H=>sp (AC 5 1 h143) (sp (CC Ag 5 0 (ty 3) h143) (ck 2 (en (sq (bx H λ x54 h144 H=>rg (sno (encN:=Ab) (enc:=Ag) h144 [.osl 5 1 0 (x52.States.length),.own 1 (r_1.map Ag)] r_1 2 1 1 1) (ck 3 (sp (B6 (encN:=Ab) (row:=[.osl 5 1 0 (x52.States.length),.osl 6 1 0 (r_1.length)]) (k:=1) (sz:=2) (off:=1) (t:=ty 40) (v:=.osl 6 1 0 (r_1.length)) h144) (ck 1 (bx H λ x55 h145 H=>sp (AC 6 1 h145) (bx H λ l17 h146 H=>stA Ag 6 0 (ty 3) h145 h146 (en (sq (rg (tr (tr (sn 47 6 1 (BX h146)) (snr (encN:=Ab) (xs:=List.set w_13.Columns place_3.toNat ({ States:=x51.States,Costs:=l16 }:Aw)) (n:=place_3) [.osl 5 1 0 (x52.States.length),.osl 6 1 0 (r_1.length)] 2 1 1 6 1 (BX h146))) (sni (encN:=Ab) (xs:=List.set w_13.Columns place_3.toNat ({ States:=x51.States,Costs:=l16 }:Aw)) (n:=place_3) (enc:=Ag) [.osl 5 1 0 (x52.States.length),.osl 6 1 0 (l17.length)] l17 2 1 1 6 1)) (ck 9 (gc 3 (place_3==((w_13.S.length:Nat):Int)) (ck 1 (gc 3 (place_3==((w_13.S.length:Nat):Int)) (ck 1 (bx H λ x56 h147 H=>sE (λ hg=>Au Ak (Ce h147 hg)) (gc 1 (place_3==((w_13.S.length:Nat):Int)) (bx H λ r40 h148 H=>cG false (leZ) rfl (λ hg=>QF (Ce h148 hg)) (Or.inl rfl) (Db (λ hh=>hh) (Db (λ hh=>hh) (GE))) rfl (pA (en (cn H (λ H=>?_) (λ H=>?_))))))))))))))))))))))))))))
  ·exact rg (sno (encN:=Ab) (enc:=Ag) h144 [.osl 5 1 0 (x52.States.length),.own 1 (l17.map Ag)] l17 2 1 1 1) (ck 3 (sp (B6 (encN:=Ab) (row:=[.osl 5 1 0 (x52.States.length),.osl 7 1 0 (l17.length)]) (k:=1) (sz:=2) (off:=1) (t:=ty 40) (v:=.osl 7 1 0 (l17.length)) h144) (ck 1 (bx H λ x57 h149 H=>sp (AC 7 1 h149) (bx H λ l18 h150 H=>stA Ag 7 0 (ty 3) h149 h150 (ae (qN (qs (tr (tr (tr (sn 74 7 1 (BX h150)) (snr (encN:=Ab) (xs:=List.set w_13.Columns place_3.toNat ({ States:=x51.States,Costs:=l16 }:Aw)) (n:=place_3) [.osl 5 1 0 (x52.States.length),.osl 7 1 0 (l17.length)] 2 1 1 7 1 (BX h150))) (sni (encN:=Ab) (xs:=List.set w_13.Columns place_3.toNat ({ States:=x51.States,Costs:=l16 }:Aw)) (n:=place_3) (enc:=Ag) [.osl 5 1 0 (x52.States.length),.osl 7 1 0 (l18.length)] l18 2 1 1 7 1)) (gP [1,2,3,37,38,39] [0,1,2,3,4,5] (po1 (Pl.n _ (nrH (n:=Int.toNat place_3) (row:=[.osl 5 1 0 (x52.States.length),.own 1 (l18.map Ag)]) (row':=[.osl 5 1 0 (x52.States.length),.own 1 (l18.map Ag)]) (nrM (encN:=Ab) (xss:=List.set w_13.Columns place_3.toNat ({ States:=x51.States,Costs:=l16 }:Aw)) λ _=>rfl) rfl) (po1 (po1 (po1 (po1 (Pl.z))))))))) (hFTr_writer_price_J1 l18 H)))))))))
  ·exact sk (qN (qs (gP [1,2,3,37,38,39] [0,1,2,3,4,5] (po1 (Pl.n _ (nrH (n:=Int.toNat place_3) (row:=[.osl 5 1 0 (x52.States.length),.own 1 (l17.map Ag)]) (row':=[.osl 5 1 0 (x52.States.length),.own 1 (l17.map Ag)]) (nrM (encN:=Ab) (xss:=List.set w_13.Columns place_3.toNat ({ States:=x51.States,Costs:=l16 }:Aw)) λ _=>rfl) rfl) (po1 (po1 (po1 (po1 (Pl.z)))))))) (hFTr_writer_price_J1 l17 H)))
 ·exact ex 2 (qx (by cases H;exact xo rfl (tr (tr (tr (sni (encN:=Ab) (xs:=List.set w_13.Columns place_3.toNat ({ States:=x51.States,Costs:=l16 }:Aw)) (n:=place_3) (enc:=Ag) [.osl 5 1 0 (x52.States.length),.own 1 (r_1.map Ag)] x52.States 2 1 0 5 1) (scl (encN:=Ab) (xss:=List.set w_13.Columns place_3.toNat ({ States:=x51.States,Costs:=l16 }:Aw)) place_3 [.own 1 (x52.States.map Ag),.own 1 (r_1.map Ag)] 2 1 ({ States:=x52.States,Costs:=r_1 }:Aw))) (snc 0 6 1 2 (lsS (List.set w_13.Columns place_3.toNat ({ States:=x51.States,Costs:=l16 }:Aw)) place_3.toNat ({ States:=x52.States,Costs:=r_1 }:Aw)))) (gP [1,2,3] [0,1,2,3,4] (po1 (pn1 Ab (List.set (List.set w_13.Columns place_3.toNat ({ States:=x51.States,Costs:=l16 }:Aw)) place_3.toNat ({ States:=x52.States,Costs:=r_1 }:Aw)) (po1 (po1 (po1 (Pl.z))))))))))
theorem Jv (x:(Ad×Int)) (z:((Ad×Int)⊕Ad)) (H:Bo n place_3 x58 x.1 x.2=some z):WP (cxk 109 2) (AH Try.f38) [1,1,0,0,1,0,0,0,1,1,1,1,0,1,0,0] (AJ 2 (FR place_3 x58) (Kh place_3) z) (FR place_3 x58 x):=by
 obtain ⟨w_15,x_31⟩:=x
 refine sr (ck 1 (en (sq (cn H (λ H=>?_) (λ H=>?_)))))
 ·exact sk (qz (sq (bk 5 (sr (ck 2 (en (rz (ck 2 (bx H λ r41 h153 H=>xcP (xok _ _) [2,4,3,0,1] (FP h153) (po1 (po1 (po1 (po1 (pn1 Ab w_15.Columns (Pl.z)))))) (tb (f:=D1 (CU [2,4,3,0,1] 5 5)) [some (.box (Al r41.1 (.osl 1 2 0 (r41.1.Columns.length)))),some (.narr 2 (r41.1.Columns.map Ab)),some (.box [.ptr 0 0]),some (.box [.d (.int .i64 place_3)]),some (.box [.eptr 1 2 (0+Int.toNat place_3) 0])] (po1 (pn1 Ab r41.1.Columns (po1 (po1 (po1 (Pl.z)))))) (ae (qN (qz (rz (ck 2 (ae (by cases H;exact og (gP [1,2,3,6,83,84] [0,1,2,3,4] (po1 (pn1 Ab r41.1.Columns (po1 (po1 (po1 (Pl.z))))))))))))))))))))))))
 ·exact ex 4 (qx (by cases H;exact xo rfl (gP [1,2,3,6] [0,1,2,3,4] (po1 (pn1 Ab w_15.Columns (po1 (po1 (po1 (Pl.z)))))))))
theorem Jw (x:(Ad×Bool×Int)) (z:((Ad×Bool×Int)⊕(Ad×Bool))) (H:Bp n place_3 x59 x.1 x.2.1 x.2.2=some z):WP (cxk 109 2) (AH Try.f38) [1,1,0,0,1,0,0,0,1,1,1,1,1,1,0,0,0,1,0,1,0,0] (AJ 2 (FS place_3 x59) (Ki place_3) z) (FS place_3 x59 x):=by
 obtain ⟨w_19,better_4,x_32⟩:=x
 refine sr (ck 1 (en (sq (cn H (λ H=>?_) (λ H=>?_)))))
 ·exact sk (qz (sq (bk 9 (sr (ck 2 (en (rz (ck 2 (bx H λ r42 h156 H=>xcP (xok _ _) [2,4,3,0,1] (FP h156) (po1 (po1 (po1 (po1 (pn1 Ab w_19.Columns (Pl.z)))))) (tb (f:=D1 (CU [2,4,3,0,1] 5 5)) [some (.box (Al r42.1 (.osl 1 2 0 (r42.1.Columns.length)))),some (.narr 2 (r42.1.Columns.map Ab)),some (.box [.ptr 0 0]),some (.box [.d (.int .i64 place_3)]),some (.box [.eptr 1 2 (0+Int.toNat place_3) 0])] (po1 (pn1 Ab r42.1.Columns (po1 (po1 (po1 (Pl.z)))))) (ck 2 (pO (ck 1 (ae (qN (qz (rz (ck 2 (ae (by cases H;exact og (gP [1,2,3,6,8,95,96] [0,1,2,3,4] (po1 (pn1 Ab r42.1.Columns (po1 (po1 (po1 (Pl.z)))))))))))))))))))))))))))
 ·exact ex 8 (qx (by cases H;exact xo rfl (gP [1,2,3,6,8] [0,1,2,3,4] (po1 (pn1 Ab w_19.Columns (po1 (po1 (po1 (Pl.z)))))))))
theorem Jx (x:Ad) (z:(Ad⊕Ad)) (H:BJ n place_3 x=some z):WP (cxk 109 2) (AH Try.f38) [1,1,0,0,1,0,0,0,1,1,1,1,1,1,0,0] (AJ 2 (FT place_3) (Kj place_3) z) (FT place_3 x):=by
 revert H
 generalize x=w_17
 intro H
 refine bk 7 (sr (ck 1 (en (sq (sq (bx H λ x59 h155 H=>rg (tr (so1 (encN:=Ab) 1 2 h155) (sno (encN:=Ab) (enc:=Ag) h155 [.own 1 (x59.States.map Ag),.own 1 (x59.Costs.map Ag)] x59.States 2 1 0 1)) (ck 3 (sp (B6 (encN:=Ab) (row:=[.osl 5 1 0 (x59.States.length),.own 1 (x59.Costs.map Ag)]) (k:=1) (sz:=2) (off:=0) (t:=ty 40) (v:=.osl 5 1 0 (x59.States.length)) h155) (ck 2 (en (bk 8 (bx H λ y37 h157 H=>lX Jw h157 (tr (tr (tr (sni (encN:=Ab) (xs:=w_17.Columns) (n:=place_3) (enc:=Ag) [.osl 5 1 0 (x59.States.length),.own 1 (x59.Costs.map Ag)] x59.States 2 1 0 5 1) (scl (encN:=Ab) (xss:=w_17.Columns) place_3 [.own 1 (x59.States.map Ag),.own 1 (x59.Costs.map Ag)] 2 1 x59)) (snc 0 6 1 2 (lsS w_17.Columns place_3.toNat x59))) (gP [1,2,3,6,8,95,96] [0,1,2,3,4] (po1 (pn1 Ab (List.set w_17.Columns place_3.toNat x59) (po1 (po1 (po1 (Pl.z)))))))) rfl λ s hE30=>qH (qs (hE30) (sr (ck 2 (en (cn H (λ H=>?_) (λ H=>?_))))))))))))))))))
 ·exact ex 6 (qX rfl (by cases H;exact xo rfl (gP [1,2] [0,1,2,3] (po1 (pn1 Ab y37.1.Columns (po1 (po1 (Pl.z))))))))
 ·exact sk (qN (by cases H;exact og (gP [1,2,3,6] [0,1,2,3,4] (po1 (pn1 Ab y37.1.Columns (po1 (po1 (po1 (Pl.z)))))))))
theorem Jy (x:(Ad×Int)) (z:((Ad×Int)⊕Ad)) (H:B7 n x.1 x.2=some z):WP (cxk 109 2) (AH Try.f38) [1,1,0,0] (AJ 2 (FU) (Kk) z) (FU x):=by
 obtain ⟨w_13,place_3⟩:=x
 refine sq (sr (ck 2 (en (cn H (λ H=>?_) (λ H=>?_)))))
 ·exact sk (qz (sq (bk 1 (sc (sr (ck 5 (bx H λ x50 h139 H=>sp (AC 1 2 h139) (ck 2 (en (sq (bx H λ x51 h140 H=>rg (tr (so1 (encN:=Ab) 1 2 h140) (sno (encN:=Ab) (enc:=Ag) h140 [.own 1 (x51.States.map Ag),.own 1 (x51.Costs.map Ag)] x51.States 2 1 0 1)) (ck 4 (sp (B6 (encN:=Ab) (row:=[.osl 5 1 0 (x51.States.length),.own 1 (x51.Costs.map Ag)]) (k:=1) (sz:=2) (off:=0) (t:=ty 40) (v:=.osl 5 1 0 (x51.States.length)) h140) (ck 1 (bx H λ l16 h141 H=>sp (W5 Ag 1 h141) (ck 2 (sp (LT (encN:=Ab) (row:=[.osl 5 1 0 (x51.States.length),.own 1 (x51.Costs.map Ag)]) (row':=[.osl 5 1 0 (x51.States.length),.osl 6 1 0 (l16.length)]) (k:=1) (sz:=2) (off:=1) (t:=ty 40) (v:=.osl 6 1 0 (l16.length)) h140) (en (sq (sq (bx H λ x52 h142 H=>rg (tr (tr (tr (tr (tr (tr (sni (encN:=Ab) (xs:=w_13.Columns) (n:=place_3) (enc:=Ag) [.osl 5 1 0 (x51.States.length),.osl 6 1 0 (l16.length)] x51.States 2 1 0 5 1) (sni (encN:=Ab) (xs:=w_13.Columns) (n:=place_3) (enc:=Ag) [.own 1 (x51.States.map Ag),.osl 6 1 0 (l16.length)] l16 2 1 1 6 1)) (scl (encN:=Ab) (xss:=w_13.Columns) place_3 [.own 1 (x51.States.map Ag),.own 1 (l16.map Ag)] 2 1 ({ States:=x51.States,Costs:=l16 }:Aw))) (sn 22 1 2 (lsS w_13.Columns place_3.toNat ({ States:=x51.States,Costs:=l16 }:Aw)))) (snc 0 6 1 2 (lsS w_13.Columns place_3.toNat ({ States:=x51.States,Costs:=l16 }:Aw)))) (so1 (encN:=Ab) 1 2 h142)) (sno (encN:=Ab) (enc:=Ag) h142 [.own 1 (x52.States.map Ag),.own 1 (x52.Costs.map Ag)] x52.States 2 1 0 1)) (ck 3 (sp (B6 (encN:=Ab) (row:=[.osl 7 1 0 (x52.States.length),.own 1 (x52.Costs.map Ag)]) (k:=1) (sz:=2) (off:=0) (t:=ty 40) (v:=.osl 7 1 0 (x52.States.length)) h142) (ck 2 (en (bk 2 (bx H λ y35 h151 H=>lX Ju h151 (gP [1,2,3,37,38,39] [0,1,2,3,4,7] (po1 (Pl.n _ (nrH (n:=Int.toNat place_3) (row:=[.osl 7 1 0 (x52.States.length),.own 1 (x52.Costs.map Ag)]) (row':=[.osl 5 1 0 (x52.States.length),.own 1 (x52.Costs.map Ag)]) (nrM (encN:=Ab) (xss:=List.set w_13.Columns place_3.toNat ({ States:=x51.States,Costs:=l16 }:Aw)) λ _=>rfl) rfl) (po1 (po1 (po1 (po1 (Pl.z)))))))) rfl λ s hE28=>qH (qs (hE28) (sr (xm (xok _ _) (ck 1 (en (sq (sq (bx H λ x58 h152 H=>rg (tr (so1 (encN:=Ab) 1 2 h152) (sno (encN:=Ab) (enc:=Ag) h152 [.own 1 (x58.States.map Ag),.own 1 (x58.Costs.map Ag)] x58.States 2 1 0 1)) (ck 3 (sp (B6 (encN:=Ab) (row:=[.osl 5 1 0 (x58.States.length),.own 1 (x58.Costs.map Ag)]) (k:=1) (sz:=2) (off:=0) (t:=ty 40) (v:=.osl 5 1 0 (x58.States.length)) h152) (ck 2 (en (bk 4 (bx H λ y36 h154 H=>lX Jv h154 (tr (tr (tr (sni (encN:=Ab) (xs:=y35.Columns) (n:=place_3) (enc:=Ag) [.osl 5 1 0 (x58.States.length),.own 1 (x58.Costs.map Ag)] x58.States 2 1 0 5 1) (scl (encN:=Ab) (xss:=y35.Columns) place_3 [.own 1 (x58.States.map Ag),.own 1 (x58.Costs.map Ag)] 2 1 x58)) (snc 0 6 1 2 (lsS y35.Columns place_3.toNat x58))) (gP [1,2,3,6,83,84] [0,1,2,3,4] (po1 (pn1 Ab (List.set y35.Columns place_3.toNat x58) (po1 (po1 (po1 (Pl.z)))))))) rfl λ s hE29=>qH (qs (hE29) (sq (lbl (qz (bk 6 (bx H λ y38 h158 H=>lX Jx h158 (gP [1,2,3,6] [0,1,2,3,4] (po1 (pn1 Ab y36.Columns (po1 (po1 (po1 (Pl.z))))))) rfl λ s hE31=>qH (qN (qs (hE31) (sq (sr (ck 1 (en (rz (ck 2 (en (rz (ck 3 (ae (by cases H;exact og (gP [1,2] [0,1,2,4] (po1 (pn1 Ab y38.Columns (po1 (po1 (Pl.z))))))))))))))))))))))))))))))))))))))))))))))))))))))))))))))))))
 ·exact ex 0 (qx (by cases H;exact xo rfl (gP [] [0,1] (po1 (pn1 Ab w_13.Columns (Pl.z))))))
theorem Lr {z} (H:CJ n b0_=some z):Co Try.prog 38 [.ptr 0 0] [some (.box (Al b0_ (.osl 1 2 0 (b0_.Columns.length)))),some (.narr 2 (b0_.Columns.map Ab))] 2 (.tup []) [some (.box (Al z (.osl 1 2 0 (z.Columns.length)))),some (.narr 2 (z.Columns.map Ab))]:=by
 exact fL 109 2 (JaE b0_) Try.func38 (sr (ck 1 (en (sr (ck 7 (en (bk 0 (bx H λ y39 h159 H=>lX Jy h159 (gP [1,2] [0,1,2,3] (po1 (pn1 Ab b0_.Columns (po1 (po1 (Pl.z)))))) rfl λ s hE32=>qH (by cases H;exact pL' (rl (s':=JaF z) (tr (hE32) (gP [] [0,1] (po1 (pn1 Ab z.Columns (Pl.z)))))))))))))))
end
section
variable (b0_:Ad) (x_33:AS) (result_4:AS) (place_4:Int) (state_3:Int) (cost_3:Int) (result_5:AS) (x61:(List Fu)) (x_34:Int) (result_6:AS) (place_5:Int) (state_4:Int) (cost_4:Int)
def JaN:St:=⟨(0,.ptr 0 0)::[],[some (.box (Al b0_ (.osl 1 2 0 (b0_.Columns.length)))),some (.narr 2 (b0_.Columns.map Ab))]⟩
def JaO:St:=⟨(2,.ptr 2 0)::[],[some (.box (Al b0_ (.osl 1 2 0 (b0_.Columns.length)))),some (.narr 2 (b0_.Columns.map Ab)),some (.box [.osl 3 1 0 (x_33.Cells.length),.osl 4 1 0 (x_33.Path.length)]),some (.arr 1 (x_33.Cells.map eU8)),some (.arr 1 (x_33.Path.map Ag))]⟩
def JaP:St:=⟨(0,.ptr 0 0)::(2,.ptr 2 0)::(3,.ptr 3 0)::(4,.d (.int .i64 place_4))::(5,.d (.int .i64 state_3))::(6,.d (.int .i64 cost_3))::[],[some (.box (Al b0_ (.osl 1 2 0 (b0_.Columns.length)))),some (.narr 2 (b0_.Columns.map Ab)),some (.box [.osl 4 1 0 (List.length ([]:List Int)),.osl 5 1 0 (List.length ([]:List Int))]),some (.box [.osl 6 1 0 (result_4.Cells.length),.osl 7 1 0 (result_4.Path.length)]),some (.arr 1 (List.map eU8 ([]:List Int))),some (.arr 1 (List.map Ag ([]:List Int))),some (.arr 1 (result_4.Cells.map eU8)),some (.arr 1 (result_4.Path.map Ag))]⟩
def JaQ:St:=⟨(2,.ptr 2 0)::(3,.ptr 3 0)::[],[some (.box (Al b0_ (.osl 1 2 0 (b0_.Columns.length)))),some (.narr 2 (b0_.Columns.map Ab)),some (.box [.osl 4 1 0 (List.length ([]:List Int)),.osl 5 1 0 (List.length ([]:List Int))]),some (.box [.osl 6 1 0 (result_5.Cells.length),.osl 7 1 0 (result_5.Path.length)]),some (.arr 1 (List.map eU8 ([]:List Int))),some (.arr 1 (List.map Ag ([]:List Int))),some (.arr 1 (result_5.Cells.map eU8)),some (.arr 1 (result_5.Path.map Ag))]⟩
def JaR:St:=⟨(0,.ptr 0 0)::(2,.ptr 2 0)::(3,.ptr 3 0)::(4,.d (.int .i64 place_4))::(6,.d (.int .i64 cost_3))::(27,.d (.sl (x61.map BB)))::(28,.d (.int .i64 ((x61.length:Nat):Int)))::(29,.d (.int .i64 x_34))::[],[some (.box (Al b0_ (.osl 1 2 0 (b0_.Columns.length)))),some (.narr 2 (b0_.Columns.map Ab)),some (.box [.osl 4 1 0 (List.length ([]:List Int)),.osl 5 1 0 (List.length ([]:List Int))]),some (.box [.osl 6 1 0 (result_4.Cells.length),.osl 7 1 0 (result_4.Path.length)]),some (.arr 1 (List.map eU8 ([]:List Int))),some (.arr 1 (List.map Ag ([]:List Int))),some (.arr 1 (result_4.Cells.map eU8)),some (.arr 1 (result_4.Path.map Ag))]⟩
def JaS:St:=⟨(0,.ptr 0 0)::(2,.ptr 2 0)::(3,.ptr 3 0)::(4,.d (.int .i64 place_5))::(5,.d (.int .i64 state_4))::(6,.d (.int .i64 cost_4))::[],[some (.box (Al b0_ (.osl 1 2 0 (b0_.Columns.length)))),some (.narr 2 (b0_.Columns.map Ab)),some (.box [.osl 4 1 0 (List.length ([]:List Int)),.osl 5 1 0 (List.length ([]:List Int))]),some (.box [.osl 6 1 0 (result_6.Cells.length),.osl 7 1 0 (result_6.Path.length)]),some (.arr 1 (List.map eU8 ([]:List Int))),some (.arr 1 (List.map Ag ([]:List Int))),some (.arr 1 (result_6.Cells.map eU8)),some (.arr 1 (result_6.Path.map Ag))]⟩
def JaT:St:=⟨(2,.ptr 2 0)::(3,.ptr 3 0)::[],[some (.box (Al b0_ (.osl 1 2 0 (b0_.Columns.length)))),some (.narr 2 (b0_.Columns.map Ab)),some (.box [.osl 4 1 0 (List.length ([]:List Int)),.osl 5 1 0 (List.length ([]:List Int))]),some (.box [.osl 6 1 0 (result_4.Cells.length),.osl 7 1 0 (result_4.Path.length)]),some (.arr 1 (List.map eU8 ([]:List Int))),some (.arr 1 (List.map Ag ([]:List Int))),some (.arr 1 (result_4.Cells.map eU8)),some (.arr 1 (result_4.Path.map Ag))]⟩
def JaU:St:=⟨(0,.ptr 0 0)::(2,.ptr 2 0)::(3,.ptr 3 0)::(4,.d (.int .i64 place_4))::(6,.d (.int .i64 cost_3))::(27,.d (.sl (x61.map BB)))::(28,.d (.int .i64 ((x61.length:Nat):Int)))::(29,.d (.int .i64 x_34))::[],[some (.box (Al b0_ (.osl 1 2 0 (b0_.Columns.length)))),some (.narr 2 (b0_.Columns.map Ab)),some (.box [.osl 4 1 0 (List.length ([]:List Int)),.osl 5 1 0 (List.length ([]:List Int))]),some (.box [.osl 6 1 0 (result_4.Cells.length),.osl 7 1 0 (result_4.Path.length)]),some (.arr 1 (List.map eU8 ([]:List Int))),some (.arr 1 (List.map Ag ([]:List Int))),some (.arr 1 (result_4.Cells.map eU8)),some (.arr 1 (result_4.Path.map Ag))]⟩
def Ih:((AS×Int×Int×Int)⊕Unit)->Ex->St->Prop:=xS (xX 2 1 (λ (y:(AS×Int×Int×Int))=>JaS b0_ y.1 y.2.1 y.2.2.1 y.2.2.2)) (xX 2 2 (λ (y:Unit)=>JaT b0_ result_4))
def EJ:Int->St:=(λ (x:Int)=>JaR b0_ result_4 place_4 cost_3 x61 x)
def Ii:AS->Ex->St->Prop:=xX 2 0 (λ (y:AS)=>JaQ b0_ y)
def EK:(AS×Int×Int×Int)->St:=(λ (x:(AS×Int×Int×Int))=>JaP b0_ x.1 x.2.1 x.2.2.1 x.2.2.2)
variable {b0_ x_33 result_4 place_4 state_3 cost_3 result_5 x61 x_34 result_6 place_5 state_4 cost_4}
theorem Et (x:Int) (z:(Int⊕((AS×Int×Int×Int)⊕Unit))) (H:Bi n b0_ result_4 place_4 cost_3 x61 x=some z):WP (cxk 93 2) (AH Try.f39) [1,0,1,1,1,0,1,0,0,1,0,0,1,0,0] (AJ 2 (EJ b0_ result_4 place_4 cost_3 x61) (Ih b0_ result_4) z) (EJ b0_ result_4 place_4 cost_3 x61 x):=by
 revert H
 generalize x=x_34
 intro H
 refine sr (ck 1 (en (sq (cn H (λ H=>?_) (λ H=>?_)))))
 ·refine sk (qz (sj (λ (x:Unit)=>JaU b0_ result_4 place_4 cost_3 x61 x_34) (λ (x:Unit)=>Bh n x_34) z ?_ (λ hFTr_writer_writingx_J1=>?_)))
  ·intro _ H
   exact rz (ck 2 (ae (by cases H;exact og (gP [0,2,3,4,6,27,28,29] [0,1,2,3,4,5,6,7] (po1 (pn1 Ab b0_.Columns (po1 (po1 (po1 (po1 (po1 (po1 (Pl.z)))))))))))))
  refine bk 3 (sr (bx H λ x62 h163 H=>sp (Au BB h163) (ck 3 (en (sr (ck 4 (bx H λ r44 h164 H=>ltP [0,1] (DR h164) (po1 (pn1 Ab b0_.Columns (Pl.z))) (tb (f:=D1 (CU [0,1] 9 2)) [some (.box (Al b0_ (.osl 1 2 0 (b0_.Columns.length)))),some (.narr 2 (b0_.Columns.map Ab)),some (.box [.osl 4 1 0 (List.length ([]:List Int)),.osl 5 1 0 (List.length ([]:List Int))]),some (.box [.osl 6 1 0 (result_4.Cells.length),.osl 7 1 0 (result_4.Path.length)]),some (.arr 1 (List.map eU8 ([]:List Int))),some (.arr 1 (List.map Ag ([]:List Int))),some (.arr 1 (result_4.Cells.map eU8)),some (.arr 1 (result_4.Path.map Ag)),some (.box [.d (.int .i64 x62.Rule),.d (.int .i64 x62.To)])] (po1 (pn1 Ab b0_.Columns (po1 (po1 (po1 (po1 (po1 (po1 (po1 (Pl.z)))))))))) (ck 5 (en (sq (sr (ck 2 (en (cn H (λ H=>?_) (λ H=>?_))))))))))))))))
  ·exact ex 3 (qx (qH (qs (gP [0,2,3,4,6,27,28,29] [0,1,2,3,4,5,6,7] (po1 (pn1 Ab b0_.Columns (po1 (po1 (po1 (po1 (po1 (po1 (Pl.z)))))))))) (hFTr_writer_writingx_J1 () H))))
  ·refine sk (qz (sr (ck 7 (bx H λ x63 h165 H=>sp (Au Am h165) (ck 3 (en (sq (sr (ck 5 (bx H λ x64 h166 H=>sp (AC 1 2 h166) (ck 2 (bx H λ r45 h167 H=>cb (ks:=[1]) (obl:=[(0+Int.toNat r44.1+1,List.length (b0_.Columns.map Ab)),(Mg (b0_.Columns.map Ab),0)]) false (leK (Jd8 (encN:=Ab) h166) (leK (Jcx λ _=>rfl) (leZ))) (E6 (ZN (encN:=Ab) (encD:=KD) h166 λ _=>rfl) (E6 rfl rfl)) (EW h167) (Or.inr trivial) rfl (ck 1 (en (sr (ck 6 (sE (g:=(!(decide (r45<0)))) (λ hg=>AM eU8 x63.Cells) (gc 2 (!(decide (r45<0))) (pO (en (cn H (λ H=>?_) (λ H=>?_))))))))))))))))))))))
   ·exact ex 3 (qx (qH (qs (gP [0,2,3,4,6,27,28,29] [0,1,2,3,4,5,6,7] (po1 (pn1 Ab b0_.Columns (po1 (po1 (po1 (po1 (po1 (po1 (Pl.z)))))))))) (hFTr_writer_writingx_J1 () H))))
   ·exact sk (qz (sr (ck 3 (bx H λ l19 h168 H=>sp (ZI eU8 6 1 h168) (ck 2 (en (sr (ck 5 (bx H λ l20 h169 H=>sp (CD Ag 7 1 h169) (ck 2 (en (sr (ck 5 (sp (AM eU8 x63.Cells) (ck 4 (en (ex 1 (qX rfl (qx (by cases H;exact xo rfl (gP [0,2,3,4,5,6] [0,1,2,3,4,5,9,11] (po1 (pn1 Ab b0_.Columns (po1 (po1 (po1 (po1 (po1 (po1 (Pl.z))))))))))))))))))))))))))))))
 ·exact ex 2 (qx (by cases H;exact xo rfl (gP [2,3] [0,1,2,3,4,5,6,7] (po1 (pn1 Ab b0_.Columns (po1 (po1 (po1 (po1 (po1 (po1 (Pl.z))))))))))))
theorem HA (x:(AS×Int×Int×Int)) (z:((AS×Int×Int×Int)⊕AS)) (H:Bz n b0_ x.1 x.2.1 x.2.2.1 x.2.2.2=some z):WP (cxk 93 2) (AH Try.f39) [1,0,1,1,1,0,1,0,0] (AJ 2 (EK b0_) (Ii b0_) z) (EK b0_ x):=by
 obtain ⟨result_4,place_4,state_3,cost_3⟩:=x
 refine sq (sr (ck 2 (en (cn H (λ H=>?_) (λ H=>?_)))))
 ·refine sk (qz (bk 1 (sq (sr (ck 5 (bx H λ x61 h162 H=>sp (Au (eL BB) h162) (ck 1 (sp (AM BB x61) (ck 1 (en (bk 2 (bx H λ y40 h170 H=>?_))))))))))))
  rcases y40 with y41|y42
  ·exact lX Et h170 (gP [0,2,3,4,6,27,28,29] [0,1,2,3,4,5,6,7] (po1 (pn1 Ab b0_.Columns (po1 (po1 (po1 (po1 (po1 (po1 (Pl.z)))))))))) rfl λ s hE33=>qX rfl (qx (qH (by cases H;exact og (tr (hE33) (gP [0,2,3,4,5,6] [0,1,2,3,4,5,6,7] (po1 (pn1 Ab b0_.Columns (po1 (po1 (po1 (po1 (po1 (po1 (Pl.z))))))))))))))
  ·exact lX Et h170 (gP [0,2,3,4,6,27,28,29] [0,1,2,3,4,5,6,7] (po1 (pn1 Ab b0_.Columns (po1 (po1 (po1 (po1 (po1 (po1 (Pl.z)))))))))) rfl λ s hE34=>qH (qs (hE34) (ex 0 (qX rfl (by cases H;exact xo rfl (gP [2,3] [0,1,2,3,4,5,6,7] (po1 (pn1 Ab b0_.Columns (po1 (po1 (po1 (po1 (po1 (po1 (Pl.z))))))))))))))
 ·exact ex 0 (qx (by cases H;exact xo rfl (gP [2,3] [0,1,2,3,4,5,6,7] (po1 (pn1 Ab b0_.Columns (po1 (po1 (po1 (po1 (po1 (po1 (Pl.z))))))))))))
theorem Jz {z} (H:B8 n b0_=some z):Co Try.prog 39 [.ptr 0 0] [some (.box (Al b0_ (.osl 1 2 0 (b0_.Columns.length)))),some (.narr 2 (b0_.Columns.map Ab))] 2 (.agg [.osl 3 1 0 (z.Cells.length),.osl 4 1 0 (z.Path.length)]) [some (.box (Al b0_ (.osl 1 2 0 (b0_.Columns.length)))),some (.narr 2 (b0_.Columns.map Ab)),some (.box [.osl 3 1 0 (z.Cells.length),.osl 4 1 0 (z.Path.length)]),some (.arr 1 (z.Cells.map eU8)),some (.arr 1 (z.Path.map Ag))]:=by
 exact fL 93 2 (JaN b0_) Try.func39 (sr (ck 1 (en (sc (sr (ck 1 (en (sr (ck 2 (en (sq (lbl (qz (sq (sr (ck 4 (bx H λ x60 h160 H=>sp (AC 1 2 h160) (bx H λ r43 h161 H=>cb (ks:=[1]) (obl:=[(0+Int.toNat 0+1,List.length (b0_.Columns.map Ab)),(Mg (b0_.Columns.map Ab),0)]) false (leK (Jd8 (encN:=Ab) h160) (leK (Jcx λ _=>rfl) (leZ))) (E6 (ZN (encN:=Ab) (encD:=KD) h160 λ _=>rfl) (E6 rfl rfl)) (EW h161) (Or.inr trivial) rfl (ck 1 (en (bk 0 (bx H λ y43 h171 H=>lX HA h171 (tr (tr (tr (tr (CB 2 0 1 (by kernel_rfl)) (CB 2 1 1 (by kernel_rfl))) (CB 3 0 1 (by kernel_rfl))) (CB 3 1 1 (by kernel_rfl))) (gP [0,2,3,4,5,6] [0,1,2,3,4,5,6,7] (po1 (pn1 Ab b0_.Columns (po1 (po1 (po1 (po1 (po1 (po1 (Pl.z))))))))))) rfl λ s hE35=>qH (qs (hE35) (sr (ck 2 (en (re (by cases H;exact pL (rl (s':=JaO b0_ z) (gP [2] [0,1,2,6,7] (po1 (pn1 Ab b0_.Columns (po1 (po1 (po1 (Pl.z))))))))))))))))))))))))))))))))))))
end
section
variable (p0_:Ac) (p1_:(List UInt8))
def Jfl:St:=⟨(0,.agg [.d (.int .i64 p0_.Modes),.d (.int .u8 p0_.Accept),.d (.sl (p0_.Rules.map Am))])::(1,.d (.str p1_))::[],[]⟩
variable {p0_ p1_}
theorem Tj {z} (H:G4 n p0_ p1_=some z):AG Try.prog 17 [.agg (Aq p0_),.d (.str p1_)] (.tup [.agg [.own 1 (z.1.Cells.map eU8),.own 1 (z.1.Path.map Ag)],.d (.int .i64 z.2.1),.d (.int .i64 z.2.2)]):=by
 refine fO 50 (Jfl p0_ p1_) Try.func17 (sr (ck 4 (en (sq (sr (ck 1 (bx H λ r46 h172 H=>ca true (OH h172) (ck 5 (en (sr (ck 2 (en (cn H (λ H=>?_) (λ H=>?_))))))))))))))
 ·exact sr (ck 6 (en (re (qr (by cases H;exact pr (rT (vs:=[.agg [.d (.nil),.d (.nil)],.d (.int .i64 r46.1),.d (.int .i64 r46.2)]) [] (t1 (a1 (c1 vz (c1 vz (c0)))) (t1 (ad vd) (t1 (ad vd) (t0))))))))))
 ·refine sk (qz (sq (sr (ck 1 (bx H λ r47 h173 H=>ca false (Th h173) (ck 1 (en (cn H (λ H=>?_) (λ H=>?_)))))))))
  ·exact sr (ck 4 (en (re (qr (by cases H;exact pr (rT (vs:=[.agg [.d (.nil),.d (.nil)],.d (.int .i64 0),.d (.int .i64 61)]) [] (t1 (a1 (c1 vz (c1 vz (c0)))) (t1 (ad vd) (t1 (ad vd) (t0))))))))))
  ·refine sk (qz (sr (ck 2 (bx H λ r48 h174 H=>lt [] (NO h174) (tb (f:=D1 (CU [] 2 0)) [some (.box (Aq p0_)),some (.box [.d (.nil),.d (.nil)]),some (.box (Al r48 (.osl 3 2 0 (r48.Columns.length)))),some (.narr 2 (r48.Columns.map Ab))] (po1 (po1 (po1 (pn1 Ab r48.Columns (Pl.z))))) (ck 1 (en (sr (ck 1 (bx H λ r49 h175 H=>ltP [2,3] (Lq h175) (po1 (pn1 Ab r48.Columns (Pl.z))) (tb (f:=D1 (CU [2,3] 4 2)) [some (.box (Aq p0_)),some (.box [.d (.nil),.d (.nil)]),some (.box (Al r49 (.osl 3 2 0 (r49.Columns.length)))),some (.narr 2 (r49.Columns.map Ab))] (po1 (po1 (po1 (pn1 Ab r49.Columns (Pl.z))))) (en (sr (ck 1 (bx H λ r50 h176 H=>ltP [2,3] (Lr h176) (po1 (pn1 Ab r49.Columns (Pl.z))) (tb (f:=D1 (CU [2,3] 4 2)) [some (.box (Aq p0_)),some (.box [.d (.nil),.d (.nil)]),some (.box (Al r50 (.osl 3 2 0 (r50.Columns.length)))),some (.narr 2 (r50.Columns.map Ab))] (po1 (po1 (po1 (pn1 Ab r50.Columns (Pl.z))))) (en (sq (sq (bx H λ x65 h177 H=>rg (tr (so1 (encN:=Ab) 3 2 h177) (sno (encN:=Ab) (enc:=Ag) h177 [.own 1 (x65.States.map Ag),.own 1 (x65.Costs.map Ag)] x65.Costs 2 3 1 1)) (ck 4 (sp (AC 3 2 h177) (ck 1 (sp (B6 (encN:=Ab) (row:=[.own 1 (x65.States.map Ag),.osl 4 1 0 (x65.Costs.length)]) (k:=3) (sz:=2) (off:=1) (t:=ty 40) (v:=.osl 4 1 0 (x65.Costs.length)) h177) (bx H λ x66 h178 H=>sp (AC 4 1 h178) (sp (CC Ag 4 0 (ty 3) h178) (ck 1 (en (cn H (λ H=>?_) (λ H=>?_))))))))))))))))))))))))))))))
   ·exact sq (rg (tr (tr (tr (sni (encN:=Ab) (xs:=r50.Columns) (n:=0) (enc:=Ag) [.own 1 (x65.States.map Ag),.osl 4 1 0 (x65.Costs.length)] x65.Costs 2 3 1 4 1) (scl (encN:=Ab) (xss:=r50.Columns) 0 [.own 1 (x65.States.map Ag),.own 1 (x65.Costs.map Ag)] 2 3 x65)) (sn 34 3 2 (lsS r50.Columns (Int.toNat 0) x65))) (snc 2 6 3 2 (lsS r50.Columns (Int.toNat 0) x65))) (ck 8 (en (re (qr (by cases H;exact pr (rT (vs:=[.agg [.d (.nil),.d (.nil)],.d (.int .i64 r50.Last),.d (.int .i64 61)]) [] (t1 (a1 (c1 vz (c1 vz (c0)))) (t1 (ad vd) (t1 (ad vd) (t0)))))))))))
   ·exact sk (qz (sq (rg (tr (tr (tr (sni (encN:=Ab) (xs:=r50.Columns) (n:=0) (enc:=Ag) [.own 1 (x65.States.map Ag),.osl 4 1 0 (x65.Costs.length)] x65.Costs 2 3 1 4 1) (scl (encN:=Ab) (xss:=r50.Columns) 0 [.own 1 (x65.States.map Ag),.own 1 (x65.Costs.map Ag)] 2 3 x65)) (sn 34 3 2 (lsS r50.Columns (Int.toNat 0) x65))) (snc 2 6 3 2 (lsS r50.Columns (Int.toNat 0) x65))) (ck 1 (bx H λ r51 h179 H=>ltP [2,3] (Jz h179) (po1 (pn1 Ab (List.set r50.Columns (Int.toNat 0) x65) (Pl.z))) (tb (f:=D1 (CU [2,3] 5 2)) [some (.box (Aq p0_)),some (.box [.d (.nil),.d (.nil)]),some (.box (Al r50 (.osl 3 2 0 (List.length (List.set r50.Columns (Int.toNat 0) x65))))),some (.narr 2 (List.map Ab (List.set r50.Columns (Int.toNat 0) x65))),none,some (.box [.osl 6 1 0 (r51.Cells.length),.osl 7 1 0 (r51.Path.length)]),some (.arr 1 (r51.Cells.map eU8)),some (.arr 1 (r51.Path.map Ag))] (po1 (po1 (po1 (pn1 Ab (List.set r50.Columns (Int.toNat 0) x65) (po1 (po1 (po1 (po1 (Pl.z))))))))) (ck 5 (en (re (by cases H;exact pr (rT (vs:=[.agg [.osl 6 1 0 (r51.Cells.length),.osl 7 1 0 (r51.Path.length)],.d (.int .i64 ((p1_.length:Nat):Int)),.d (.int .i64 0)]) [6,7] (t1 (a1 (c1 vo (c1 vo (c0)))) (t1 (ad vd) (t1 (ad vd) (t0)))))))))))))))
end
section
variable (p0_:Ac) (o0_:(List Int))
def JaV:St:=⟨(0,.agg [.d (.int .i64 p0_.Modes),.d (.int .u8 p0_.Accept),.d (.sl (p0_.Rules.map Am))])::(1,.osl 0 1 0 (o0_.length))::[],[some (.arr 1 (o0_.map Ag))]⟩
def JaW:St:=⟨(4,.clo 40 [.ptr 1 0,.ptr 2 0])::[],[some (.arr 1 (o0_.map Ag)),some (.box [.osl 0 1 0 (o0_.length)]),some (.box (Aq p0_))]⟩
variable {p0_ o0_}
theorem Tk {z} (H:K6 n p0_ o0_=some z):Co Try.prog 18 [.agg (Aq p0_),.osl 0 1 0 (o0_.length)] [some (.arr 1 (o0_.map Ag))] 1 (.clo 40 [.ptr 1 0,.ptr 2 0]) [some (.arr 1 (o0_.map Ag)),some (.box [.osl 0 1 0 (o0_.length)]),some (.box (Aq p0_))]:=by
 exact fL 6 1 (JaV p0_ o0_) Try.func18 (sr (ck 3 (en (sr (xm (xok _ _) (ck 1 (en (re (by cases H;exact pL (rl (s':=JaW p0_ o0_) (sg [4])))))))))))
end
noncomputable def JcD (p1_:Int) (p2_:Int) (b1_0_:Int) (b2_0_:Int) (b3_0_:Int):St:=⟨(39,.d (.int .i64 p2_))::(38,.d (.int .i64 p1_))::(5,.ptr 1 0)::(11,.ptr 2 0)::(12,.ptr 3 0)::[],[some (.lp AB [5,11,12] [.ptr 1 0,.ptr 2 0,.ptr 3 0] 0),some (.box [.d (.int .i64 b1_0_)]),some (.box [.d (.int .i64 b2_0_)]),some (.box [.d (.int .i64 b3_0_)])]⟩
noncomputable def Xa (b1_0_:Int) (x_35:Int) (x_36:Int):St:=⟨[],[some (.lp AB [5,11,12] [.ptr 1 0,.ptr 2 0,.ptr 3 0] 1),some (.box [.d (.int .i64 b1_0_)]),some (.box [.d (.int .i64 x_35)]),some (.box [.d (.int .i64 x_36)])]⟩
section
variable (p1_:Int) (p2_:Int) (b1_0_:Int) (b2_0_:Int) (b3_0_:Int)
variable {p1_ p2_ b1_0_ b2_0_ b3_0_}
theorem QG {z} (H:Gs n p1_ p2_ b1_0_ b2_0_ b3_0_=some z):UX Try.prog [.d (.int .i64 p1_),.d (.int .i64 p2_)] [some (.lp AB [5,11,12] [.ptr 1 0,.ptr 2 0,.ptr 3 0] 0),some (.box [.d (.int .i64 b1_0_)]),some (.box [.d (.int .i64 b2_0_)]),some (.box [.d (.int .i64 b3_0_)])] 4 z.1 [some (.lp AB [5,11,12] [.ptr 1 0,.ptr 2 0,.ptr 3 0] z.1),some (.box [.d (.int .i64 b1_0_)]),some (.box [.d (.int .i64 z.2.1)]),some (.box [.d (.int .i64 z.2.2)])]:=by
 refine fk (C:=AH Try.f8) (p:=[1,0,1,1,1,1,1,0,1,0]) 47 [38,39] [.exit 0] (ts:=[5,11,12]) (vs:=[.ptr 1 0,.ptr 2 0,.ptr 3 0]) (JcD p1_ p2_ b1_0_ b2_0_ b3_0_) follows (JhL 47 4) (rz (ck 1 (ae (aq (js:=[.exit 0]) (bk 1 (sq (sr (ck 3 (en (cn H (λ H=>?_) (λ H=>?_)))))))))))
 ·exact sr (ck 2 (en (ex 0 (qx (qX rfl (by cases H;exact rq (s':=Xa b1_0_ p2_ b3_0_) (sg [])))))))
 ·exact sk (qz (rz (ck 3 (ae (qN (by cases H;exact rq (s':=Xa b1_0_ b2_0_ (Az .i64 b3_0_ 1)) (sg [])))))))
end
section
variable (b2_:Ac) (b3_0_:Int) (b4_0_:Int) (b5_0_:Int) (o6_:(List Int)) (j_2:Nat) (x_37:Int) (x_38:Int) (x_39:Int) (x_40:Int) (at_1:Int) (x_41:Int) (x_42:Int) (x_43:Int) (x67:Int) (x68:Av) (x_44:Int) (x_45:Int) (x_46:Int) (x_47:Int) (x_48:Int)
noncomputable def JaX:St:=⟨(0,.yld 0)::(1,.ptr 1 0)::(2,.ptr 2 0)::[],[some (.lp AB [5,11,12] [.ptr 3 0,.ptr 4 0,.ptr 5 0] 0),some (.box [.osl 6 1 0 (o6_.length)]),some (.box (Aq b2_)),some (.box [.d (.int .i64 b3_0_)]),some (.box [.d (.int .i64 b4_0_)]),some (.box [.d (.int .i64 b5_0_)]),some (.arr 1 (o6_.map Ag))]⟩
noncomputable def U4:St:=⟨[],[some (.lp AB [5,11,12] [.ptr 3 0,.ptr 4 0,.ptr 5 0] j_2),some (.box [.osl 6 1 0 (o6_.length)]),some (.box (Aq b2_)),some (.box [.d (.int .i64 b3_0_)]),some (.box [.d (.int .i64 x_37)]),some (.box [.d (.int .i64 x_38)]),some (.arr 1 (o6_.map Ag))]⟩
noncomputable def JaY:St:=⟨(0,.yld 0)::(2,.ptr 2 0)::(4,.d (.int .i64 at_1))::(7,.osl 6 1 0 (o6_.length))::(8,.d (.int .i64 ((o6_.length:Nat):Int)))::(9,.d (.int .i64 x_41))::[],[some (.lp AB [5,11,12] [.ptr 3 0,.ptr 4 0,.ptr 5 0] 0),some (.box [.osl 6 1 0 (o6_.length)]),some (.box (Aq b2_)),some (.box [.d (.int .i64 b3_0_)]),some (.box [.d (.int .i64 x_39)]),some (.box [.d (.int .i64 x_40)]),some (.arr 1 (o6_.map Ag))]⟩
noncomputable def JaZ:St:=⟨[],[some (.lp AB [5,11,12] [.ptr 3 0,.ptr 4 0,.ptr 5 0] 0),some (.box [.osl 6 1 0 (o6_.length)]),some (.box (Aq b2_)),some (.box [.d (.int .i64 b3_0_)]),some (.box [.d (.int .i64 x_42)]),some (.box [.d (.int .i64 x_43)]),some (.arr 1 (o6_.map Ag))]⟩
noncomputable def Ja0:St:=⟨(0,.yld 0)::(2,.ptr 2 0)::(4,.d (.int .i64 at_1))::(6,.d (.int .i64 x67))::(7,.osl 6 1 0 (o6_.length))::(8,.d (.int .i64 ((o6_.length:Nat):Int)))::(9,.d (.int .i64 x_41))::(19,.d (.int .i64 ((x68.Cells.length:Nat):Int)))::(20,.d (.int .i64 x_46))::[],[some (.lp AB [5,11,12] [.ptr 3 0,.ptr 4 0,.ptr 5 0] 0),some (.box [.osl 6 1 0 (o6_.length)]),some (.box (Aq b2_)),some (.box [.d (.int .i64 b3_0_)]),some (.box [.d (.int .i64 x_44)]),some (.box [.d (.int .i64 x_45)]),some (.arr 1 (o6_.map Ag))]⟩
noncomputable def Ja1:St:=⟨(0,.yld 0)::(2,.ptr 2 0)::(4,.d (.int .i64 at_1))::(6,.d (.int .i64 x67))::(7,.osl 6 1 0 (o6_.length))::(8,.d (.int .i64 ((o6_.length:Nat):Int)))::(9,.d (.int .i64 x_41))::[],[some (.lp AB [5,11,12] [.ptr 3 0,.ptr 4 0,.ptr 5 0] 0),some (.box [.osl 6 1 0 (o6_.length)]),some (.box (Aq b2_)),some (.box [.d (.int .i64 b3_0_)]),some (.box [.d (.int .i64 x_47)]),some (.box [.d (.int .i64 x_48)]),some (.arr 1 (o6_.map Ag))]⟩
noncomputable def NP:((Int×Int)⊕(Nat×Int×Int))->Ex->St->Prop:=xS (xX 7 2 (λ (y:(Int×Int))=>Ja1 b2_ b3_0_ o6_ at_1 x_41 x67 y.1 y.2)) (xL 7 ty Try.f40 (λ (y:(Nat×Int×Int))=>.tup []) (λ (y:(Nat×Int×Int))=>[some (.lp AB [5,11,12] [.ptr 3 0,.ptr 4 0,.ptr 5 0] y.1),some (.box [.osl 6 1 0 (o6_.length)]),some (.box (Aq b2_)),some (.box [.d (.int .i64 b3_0_)]),some (.box [.d (.int .i64 y.2.1)]),some (.box [.d (.int .i64 y.2.2)]),some (.arr 1 (o6_.map Ag))]))
noncomputable def IK:(Int×Int×Int)->St:=(λ (x:(Int×Int×Int))=>Ja0 b2_ b3_0_ o6_ at_1 x_41 x67 x68 x.1 x.2.1 x.2.2)
noncomputable def NQ:((Int×Int)⊕(Nat×Int×Int))->Ex->St->Prop:=xS (xX 7 0 (λ (y:(Int×Int))=>JaZ b2_ b3_0_ o6_ y.1 y.2)) (xL 7 ty Try.f40 (λ (y:(Nat×Int×Int))=>.tup []) (λ (y:(Nat×Int×Int))=>[some (.lp AB [5,11,12] [.ptr 3 0,.ptr 4 0,.ptr 5 0] y.1),some (.box [.osl 6 1 0 (o6_.length)]),some (.box (Aq b2_)),some (.box [.d (.int .i64 b3_0_)]),some (.box [.d (.int .i64 y.2.1)]),some (.box [.d (.int .i64 y.2.2)]),some (.arr 1 (o6_.map Ag))]))
noncomputable def IL:(Int×Int×Int×Int)->St:=(λ (x:(Int×Int×Int×Int))=>JaY b2_ b3_0_ o6_ x.1 x.2.1 x.2.2.1 x.2.2.2)
variable {b2_ b3_0_ b4_0_ b5_0_ o6_ j_2 x_37 x_38 x_39 x_40 at_1 x_41 x_42 x_43 x67 x68 x_44 x_45 x_46 x_47 x_48}
theorem HX (x:(Int×Int×Int)) (z:((Int×Int×Int)⊕((Int×Int)⊕(Nat×Int×Int)))) (H:Cr n b2_ b3_0_ o6_ at_1 x_41 x67 x68 x.1 x.2.1 x.2.2=some z):WP (cxk 38 7) (AH Try.f40) [1,1,0,0,1,1,0,0,1,0,1,0,0] (AJ 7 (IK b2_ b3_0_ o6_ at_1 x_41 x67 x68) (NP b2_ b3_0_ o6_ at_1 x_41 x67) z) (IK b2_ b3_0_ o6_ at_1 x_41 x67 x68 x):=by
 obtain ⟨x_44,x_45,x_46⟩:=x
 refine sr (ck 1 (en (sq (cn H (λ H=>?_) (λ H=>?_)))))
 ·refine sk (qz (sq (bk 3 (sr (ck 3 (bx H λ r52 h182 H=>xy (xok _ _) (g:=true) rfl (GE) [0,3,4,5] (QG h182) rfl (ck 1 (en (cnh H (λ hc74 H=>?_) (λ hc74 H=>?_))))))))))
  ·exact re (qR (qr (by cases H;exact lo rfl (rl (s':=U4 b2_ b3_0_ o6_ r52.1 r52.2.1 r52.2.2) (sg [])))))
  ·exact sk (qN (qs (Jhc 0 (jb2 hc74) (by kernel_rfl)) (rz (ck 2 (ae (by cases H;exact og (sg [0,2,4,6,7,8,9,19,20])))))))
 ·exact ex 2 (qx (by cases H;exact xo rfl (sg [0,2,4,6,7,8,9])))
theorem HY (x:(Int×Int×Int×Int)) (z:((Int×Int×Int×Int)⊕((Int×Int)⊕(Nat×Int×Int)))) (H:De n b2_ b3_0_ o6_ x.1 x.2.1 x.2.2.1 x.2.2.2=some z):WP (cxk 38 7) (AH Try.f40) [1,1,0,0] (AJ 7 (IL b2_ b3_0_ o6_) (NQ b2_ b3_0_ o6_) z) (IL b2_ b3_0_ o6_ x):=by
 obtain ⟨x_39,x_40,at_1,x_41⟩:=x
 refine sr (ck 1 (en (sq (cn H (λ H=>?_) (λ H=>?_)))))
 ·refine sk (qz (sq (bk 1 (sr (bx H λ x67 h180 H=>sp (AC 6 1 h180) (sp (CC Ag 6 0 (ty 3) h180) (ck 1 (en (sq (sr (ck 3 (bx H λ x68 h181 H=>sp (Au Am h181) (ck 2 (sp (AM eU8 x68.Cells) (ck 1 (en (bk 2 (bx H λ y44 h183 H=>?_))))))))))))))))))
  rcases y44 with y45|y46
  ·exact lX HX h183 (sg [0,2,4,6,7,8,9,19,20]) rfl λ s hE36=>qH (qs (hE36) (rz (ck 4 (bx H λ x69 h184 H=>sp (Au Am h184) (ck 5 (ae (qN (qz (rz (ck 2 (ae (by cases H;exact og (sg [0,2,4,7,8,9])))))))))))))
  ·exact lL HX h183 (sg [0,2,4,6,7,8,9,19,20]) rfl λ s hE37=>qR (qr (qR (qr (by cases H;exact lo rfl hE37))))
 ·exact ex 0 (qx (by cases H;exact xo rfl (sg [])))
theorem QH {z} (H:Fb n b2_ b3_0_ b4_0_ b5_0_ o6_=some z):Co Try.prog 40 [.yld 0,.ptr 1 0,.ptr 2 0] [some (.lp AB [5,11,12] [.ptr 3 0,.ptr 4 0,.ptr 5 0] 0),some (.box [.osl 6 1 0 (o6_.length)]),some (.box (Aq b2_)),some (.box [.d (.int .i64 b3_0_)]),some (.box [.d (.int .i64 b4_0_)]),some (.box [.d (.int .i64 b5_0_)]),some (.arr 1 (o6_.map Ag))] 7 (.tup []) [some (.lp AB [5,11,12] [.ptr 3 0,.ptr 4 0,.ptr 5 0] z.1),some (.box [.osl 6 1 0 (o6_.length)]),some (.box (Aq b2_)),some (.box [.d (.int .i64 b3_0_)]),some (.box [.d (.int .i64 z.2.1)]),some (.box [.d (.int .i64 z.2.2)]),some (.arr 1 (o6_.map Ag))]:=by
 refine fL 38 7 (JaX b2_ b3_0_ b4_0_ b5_0_ o6_) Try.func40 (sr (ck 1 (en (sr (ck 3 (en (bk 0 (bx H λ y47 h185 H=>?_))))))))
 rcases y47 with y48|y49
 ·exact lX HY h185 (sg [0,2,4,7,8,9]) rfl λ s hE38=>qH (by cases H;exact pL' (rl (s':=U4 b2_ b3_0_ o6_ 0 y48.1 y48.2) (tr (hE38) (sg []))))
 ·exact lL HY h185 (sg [0,2,4,7,8,9]) rfl λ s hE39=>qR (by cases H;exact pL hE39)
end
section
variable (p0_:Ac) (p1_:(List UInt8)) (p2_:Int) (place_6:Int)
def JhP:St:=⟨(0,.agg [.d (.int .i64 p0_.Modes),.d (.int .u8 p0_.Accept),.d (.sl (p0_.Rules.map Am))])::(1,.d (.str p1_))::(2,.d (.int .i64 p2_))::[],[]⟩
def JhQ:St:=⟨(11,.ptr 0 0)::[],[some (.box [.d (.int .i64 place_6)])]⟩
variable {p0_ p1_ p2_ place_6}
theorem C6 {z} (H:CK n p0_ p1_ p2_=some z):AG Try.prog 8 [.agg (Aq p0_),.d (.str p1_),.d (.int .i64 p2_)] (.tup [.d (.int .i64 z.1),.d (.int .i64 z.2)]):=by
 refine fO 47 (JhP p0_ p1_ p2_) Try.func8 (sr (ck 4 (en (sc (sr (ck 2 (bx H λ r53 h186 H=>cl [List.length r53.1.Cells,List.length r53.1.Path] (Tj h186) (ck 8 (en (sq (sr (ck 2 (en (cn H (λ H=>?_) (λ H=>?_)))))))))))))))
 ·exact sr (ck 3 (en (re (qr (by cases H;exact pr rdT)))))
 ·refine sk (qz (sq (sr (ck 5 (gc 3 (!(decide (p2_<0))) (pO (en (cn H (λ H=>?_) (λ H=>?_)))))))))
  ·exact sr (ck 2 (en (re (qr (by cases H;exact pr rdT)))))
  ·refine sk (qz (sr (ck 4 (en (sq (lbl (qz (sj (λ (x:Int)=>JhQ x) (λ (x:Int)=>Fw n x) z ?_ (λ hFMk_Bytes_J1=>?_)))))))))
   ·intro place_6 H
    exact sr (ck 3 (en (re (by cases H;exact pr rdT))))
   refine sr (ck 3 (bx H λ r54 h187 H=>lt [3] (Tk h187) (en (bk 0 (bx H λ r55 h188 H=>rf [.exit 0] [5,11,12] [9,7,8,1,5,6,3] r55.1 (QH h188) rfl (jn H (λ H=>?_) (λ H=>?_)))))))
   ·exact qN (qs (sg [11]) (hFMk_Bytes_J1 r55.2.1 H))
   ·refine jx 0 0 H (λ H=>?_) (λ H=>?_)
    ·exact qH (qs (sg [11]) (hFMk_Bytes_J1 r55.2.1 H))
    ·cases H
end
section
variable (p0_:Qv) (p1_:Int)
def Jfm:St:=⟨(0,.agg [.d (.int .i64 p0_.First),.d (.int .i64 p0_.End),.d (.sl (p0_.Rows.map Sl)),.d (.sl (p0_.Ends.map Ag)),.d (.sl (p0_.Labels.map Pq))])::(1,.d (.int .i64 p1_))::[],[]⟩
variable {p0_ p1_}
theorem Tl {z} (H:K7 n p0_ p1_=some z):AG Try.prog 50 [.agg (Jez p0_),.d (.int .i64 p1_)] (.d (.int .i64 z)):=by
 refine fO 13 (Jfm p0_ p1_) Try.func50 (sr (ck 2 (en (sq (sr (ck 2 (en (cn H (λ H=>?_) (λ H=>?_)))))))))
 ·exact sr (ck 1 (en (re (qr (by cases H;exact pr rd)))))
 ·exact sk (qz (sr (ck 4 (bx H λ x70 h189 H=>sp (Au Ag h189) (ck 2 (en (re (by cases H;exact pr rd))))))))
end
section
variable (p0_:(List Int)) (x_49:Int)
def Jfn:St:=⟨(0,.d (.sl (p0_.map eU8)))::[],[]⟩
def Jfo:St:=⟨(0,.d (.sl (p0_.map eU8)))::(5,.d (.sl (p0_.map eU8)))::(6,.d (.int .i64 ((p0_.length:Nat):Int)))::(7,.d (.int .i64 x_49))::[],[]⟩
def Jfp:St:=⟨(0,.d (.sl (p0_.map eU8)))::[],[]⟩
def MR:(Unit⊕Int)->Ex->St->Prop:=xS (xX 0 0 (λ (y:Unit)=>Jfp p0_)) (xR ty Try.f51 (λ (y:Int)=>.d (.int .i64 y)))
def HZ:Int->St:=(λ (x:Int)=>Jfo p0_ x)
variable {p0_ x_49}
theorem Ho (x:Int) (z:(Int⊕(Unit⊕Int))) (H:EP n p0_ x=some z):WP (cxk 18 0) (AH Try.f51) [1,0,1,0,0] (AJ 0 (HZ p0_) (MR p0_) z) (HZ p0_ x):=by
 revert H
 generalize x=x_49
 intro H
 refine sr (ck 1 (en (sq (cn H (λ H=>?_) (λ H=>?_)))))
 ·refine sk (qz (sq (bk 1 (sr (ck 1 (bx H λ x71 h190 H=>sp (Au eU8 h190) (ck 3 (en (sr (ck 2 (en (cn H (λ H=>?_) (λ H=>?_)))))))))))))
  ·exact sr (ck 2 (en (re (qR (qr (by cases H;exact ro rfl rd))))))
  ·exact sk (qN (qz (rz (ck 2 (ae (by cases H;exact og (sg [0,5,6,7])))))))
 ·exact ex 0 (qx (by cases H;exact xo rfl (sg [0])))
theorem O2 {z} (H:GO n p0_=some z):AG Try.prog 51 [.d (.sl (p0_.map eU8))] (.d (.int .i64 z)):=by
 refine fO 18 (Jfn p0_) Try.func51 (sr (ck 1 (en (sq (sr (ck 1 (sp (AM eU8 p0_) (ck 1 (en (bk 0 (bx H λ y50 h191 H=>?_)))))))))))
 rcases y50 with y51|y52
 ·exact lX Ho h191 (sg [0,5,6,7]) rfl λ s hE40=>qH (qs (hE40) (sr (ck 1 (sp (AM eU8 p0_) (ck 1 (en (re (by cases H;exact pr rd))))))))
 ·exact lR Ho h191 (sg [0,5,6,7]) rfl λ s hE41=>qR (qr (by cases H;exact pr hE41))
end
section
variable (p0_:IA) (p1_:Qx)
def Jfq:St:=⟨(0,.agg [.d (.int .i64 p0_.Format.Width),.d (.int .i64 p0_.Format.Height),.d (.int .i64 p0_.Format.Binding),.d (.sl (p0_.Volumes.map ML))])::(1,.agg [.d (.int .i64 p1_.Volume),.d (.int .i64 p1_.Leaf),.d (.int .i64 p1_.Side),.d (.int .i64 p1_.Line),.d (.int .i64 p1_.Cell)])::[],[]⟩
variable {p0_ p1_}
theorem U5 {z} (H:MJ n p0_ p1_=some z):AG Try.prog 29 [.agg (U1 p0_),.agg (JeA p1_)] (.tup [.d (.int .i64 z.1),.d (.int .i64 z.2.1),.d (.int .i64 z.2.2)]):=by
 refine fO 125 (Jfq p0_ p1_) Try.func29 (sr (ck 5 (en (sr (xm (xok _ _) (xd (xok _ _) (en (sq (sr (ck 5 (gc 1 (!(decide (p1_.Volume<0))) (ck 1 (gc 1 (!(decide (p1_.Volume<0))) (sE (g:=(!(decide (p1_.Volume<0)))) (λ hg=>AM ML p0_.Volumes) (gc 1 (!(decide (p1_.Volume<0))) (pO (ck 2 (gc 2 (!((decide (p1_.Volume<0))||(decide (p1_.Volume>=((p0_.Volumes.length:Nat):Int))))) (pO (ck 2 (gc 2 (!(((decide (p1_.Volume<0))||(decide (p1_.Volume>=((p0_.Volumes.length:Nat):Int))))||(decide (p1_.Side<0)))) (pO (en (cn H (λ H=>?_) (λ H=>?_)))))))))))))))))))))))))
 ·exact sr (ck 3 (en (re (qr (by cases H;exact pr rdT)))))
 ·refine sk (qz (sr (ck 4 (bx H λ x72 h192 H=>sp (Au ML h192) (ck 3 (en (sq (sr (ck 5 (gc 1 (!(decide (p1_.Leaf<0))) (ck 1 (gc 1 (!(decide (p1_.Leaf<0))) (sE (g:=(!(decide (p1_.Leaf<0)))) (λ hg=>AM Pq x72.Labels) (gc 1 (!(decide (p1_.Leaf<0))) (pO (ck 2 (gc 2 (!((decide (p1_.Leaf<0))||(decide (p1_.Leaf>=((x72.Labels.length:Nat):Int))))) (ck 1 (gc 2 (!((decide (p1_.Leaf<0))||(decide (p1_.Leaf>=((x72.Labels.length:Nat):Int))))) (ck 1 (gc 1 (!((decide (p1_.Leaf<0))||(decide (p1_.Leaf>=((x72.Labels.length:Nat):Int))))) (sE (g:=(!((decide (p1_.Leaf<0))||(decide (p1_.Leaf>=((x72.Labels.length:Nat):Int)))))) (λ hg=>AM Ag x72.Ends) (gc 1 (!((decide (p1_.Leaf<0))||(decide (p1_.Leaf>=((x72.Labels.length:Nat):Int))))) (pO (en (cn H (λ H=>?_) (λ H=>?_)))))))))))))))))))))))))))
  ·exact sr (ck 3 (en (re (qr (by cases H;exact pr rdT)))))
  ·refine sk (qz (sr (ck 7 (en (sr (ck 4 (bx H λ r56 h193 H=>ca false (Tl h193) (ck 3 (bx H λ x73 h194 H=>sp (Au Ag h194) (ck 1 (bx H λ l21 h195 H=>sp (ZK Sl 5 h195) (ck 1 (en (sq (sr (ck 5 (gc 1 (!(decide (p1_.Line<1))) (ck 1 (sE (g:=(!(decide (p1_.Line<1)))) (λ hg=>AM Sl l21) (gc 1 (!(decide (p1_.Line<1))) (pO (en (cn H (λ H=>?_) (λ H=>?_))))))))))))))))))))))))
   ·exact sr (ck 3 (en (re (qr (by cases H;exact pr rdT)))))
   ·refine sk (qz (sr (ck 4 (bx H λ x74 h196 H=>sp (Au Sl h196) (ck 3 (en (sr (ck 2 (bx H λ r57 h197 H=>ca false (O2 h197) (ck 1 (en (sq (sr (ck 5 (gc 1 (!(x74.At==(-1))) (ck 1 (gc 1 (!(x74.At==(-1))) (pO (ck 2 (gc 1 (!((x74.At==(-1))||(decide (p1_.Cell<r57)))) (ck 1 (gc 1 (!((x74.At==(-1))||(decide (p1_.Cell<r57)))) (sE (g:=(!((x74.At==(-1))||(decide (p1_.Cell<r57))))) (λ hg=>AM eU8 x74.Line) (gc 1 (!((x74.At==(-1))||(decide (p1_.Cell<r57)))) (pO (en (cn H (λ H=>?_) (λ H=>?_))))))))))))))))))))))))))))
    ·exact sr (ck 3 (en (re (qr (by cases H;exact pr rdT)))))
    ·exact sk (qz (sr (ck 12 (en (re (by cases H;exact pr rdT))))))
end
section
variable (p0_:(List LV)) (p1_:Ac) (p2_:IA) (p3_:U0) (r58:(Int×Int×Int)) (x_50:Bool)
def Jfr:St:=⟨(0,.d (.sl (p0_.map HT)))::(1,.agg [.d (.int .i64 p1_.Modes),.d (.int .u8 p1_.Accept),.d (.sl (p1_.Rules.map Am))])::(2,.agg [.d (.int .i64 p2_.Format.Width),.d (.int .i64 p2_.Format.Height),.d (.int .i64 p2_.Format.Binding),.d (.sl (p2_.Volumes.map ML))])::(3,.agg [.d (.int .i64 p3_.Reader),.d (.int .i64 p3_.Version),.d (.int .i64 p3_.At.Volume),.d (.int .i64 p3_.At.Leaf),.d (.int .i64 p3_.At.Side),.d (.int .i64 p3_.At.Line),.d (.int .i64 p3_.At.Cell),.d (.int .i64 p3_.Cut),.d (.str p3_.Put)])::[],[]⟩
def Jfs:St:=⟨(0,.d (.sl (p0_.map HT)))::(5,.ptr 0 0)::(7,.ptr 1 0)::(8,.ptr 2 0)::(10,.d (.int .i64 r58.1))::(11,.d (.int .i64 r58.2.1))::(41,.d (.bool x_50))::[],[some (.box (Aq p1_)),some (.box (Jdv p3_)),some (.box [.d (.int .i64 0),.d (.int .i64 0),.d (.int .i64 0),.d (.str [])])]⟩
variable {p0_ p1_ p2_ p3_ r58 x_50}
theorem QI {z} (H:HN n p0_ p1_ p2_ p3_=some z):AG Try.prog 13 [.d (.sl (p0_.map HT)),.agg (Aq p1_),.agg (U1 p2_),.agg (Jdv p3_)] (.tup [.agg [.d (.int .i64 z.1.Block),.d (.int .i64 z.1.At),.d (.int .i64 z.1.Cut),.d (.str z.1.Put)],.d (.int .i64 z.2)]):=by
 refine fO 84 (Jfr p0_ p1_ p2_ p3_) Try.func13 (sr (ck 5 (en (sr (ck 3 (bx H λ r58 h198 H=>ca true (U5 h198) (ck 7 (en (sq (sr (ck 4 (gc 1 (!(r58.2.2 != 0)) (pO (ck 3 (sE (g:=(!((r58.2.2 != 0)||(decide (r58.1<0))))) (λ hg=>AM HT p0_) (gc 1 (!((r58.2.2 != 0)||(decide (r58.1<0)))) (pO (en (cn H (λ H=>?_) (λ H=>?_))))))))))))))))))))
 ·exact sr (ck 3 (en (re (qr (by cases H;exact pr rdT)))))
 ·refine sk (qz (sq (sr (ck 2 (bx H λ x75 h199 H=>sp (Au HT h199) (ck 2 (en (bk 0 (sj (λ (x:Bool)=>Jfs p0_ p1_ p3_ r58 x) (λ (x:Bool)=>Df n p0_ p1_ p3_ r58 x) z ?_ (λ hFMk_Resolve_J1=>?_))))))))))
  ·intro x_50 H
   refine cn H (λ H=>?_) (λ H=>?_)
   ·refine sk (qN (qz (sr (ck 3 (bx H λ x76 h200 H=>sp (Au HT h200) (ck 3 (bx H λ r59 h201 H=>ca true (C6 h201) (ck 5 (en (sq (sr (ck 2 (en (cn H (λ H=>?_) (λ H=>?_)))))))))))))))
    ·exact sr (ck 4 (en (re (qr (by cases H;exact pr rdT)))))
    ·refine sk (qz (sq (sr (ck 5 (gc 1 (!(decide (p3_.Cut<0))) (ck 2 (bx H λ x77 h202 H=>sE (λ hg=>Au HT (Ce h202 hg)) (gc 3 (!(decide (p3_.Cut<0))) (ck 1 (gc 2 (!(decide (p3_.Cut<0))) (pO (en (cn H (λ H=>?_) (λ H=>?_))))))))))))))
     ·exact sr (ck 3 (en (re (qr (by cases H;exact pr rdT)))))
     ·exact sk (qz (sr (ck 9 (en (re (by cases H;exact pr rdT))))))
   ·exact sr (ck 3 (en (re (qR (qr (by cases H;exact pr rdT))))))
  refine sr (ck 2 (en (cn H (λ H=>?_) (λ H=>?_))))
  ·exact sk (qs (sg [0,5,7,8,10,11,41]) (hFMk_Resolve_J1 (x75.Kind==1) H))
  ·refine sr (ck 2 (en (cn H (λ H=>?_) (λ H=>?_))))
   ·exact sk (qs (sg [0,5,7,8,10,11,41]) (hFMk_Resolve_J1 (x75.Kind==2) H))
   ·exact rz (ck 2 (ae (qs (sg [0,5,7,8,10,11,41]) (hFMk_Resolve_J1 (x75.Kind==4) H))))
end
def JhR:St:=⟨[],[]⟩
theorem QJ {z} (H:Gt n=some z):AG Try.prog 5 [] (.d (.bool z)):=by
 exact fO 94 JhR Try.func5 (sr (ck 1 (en (sr (bx H λ r60 h203 H=>ca false (Qy h203) (ck 2 (en (sr (ck 1 (bx H λ r61 h204 H=>ca false (C6 h204) (ck 5 (en (sr (ck 1 (bx H λ r62 h205 H=>ca false (C6 h205) (ck 5 (en (sr (ck 1 (bx H λ r63 h206 H=>ca false (C6 h206) (ck 5 (en (sr (ck 1 (bx H λ r64 h207 H=>ca false (C6 h207) (ck 5 (en (sr (ck 1 (bx H λ r65 h208 H=>ca false (C6 h208) (ck 5 (en (sr (ck 1 (bx H λ r66 h209 H=>ca false (C6 h209) (ck 5 (en (sr (ck 5 (bx H λ r67 h210 H=>cb (ks:=[1]) (obl:=[(0+List.length ([]:List LV),List.length (List.map HT ([]:List LV)))]) false (leK leM (leZ)) (E6 Zx (E6 rfl (E6 rfl (E6 rfl rfl)))) (QI h210) (Or.inr ⟨⟨trivial,⟨trivial,⟨trivial,⟨trivial,trivial⟩⟩⟩⟩,⟨trivial,trivial⟩⟩) rfl (ck 6 (en (sr (ck 4 (gc 1 (r61.2==0) (pA (ck 2 (gc 1 ((r61.2==0)&&(r62.2==0)) (pA (ck 2 (gc 1 (((r61.2==0)&&(r62.2==0))&&(r63.2==0)) (pA (ck 2 (gc 1 ((((r61.2==0)&&(r62.2==0))&&(r63.2==0))&&(r64.2==310)) (pA (ck 2 (gc 1 (((((r61.2==0)&&(r62.2==0))&&(r63.2==0))&&(r64.2==310))&&(r65.2==61)) (pA (ck 2 (gc 1 ((((((r61.2==0)&&(r62.2==0))&&(r63.2==0))&&(r64.2==310))&&(r65.2==61))&&(r66.2==60)) (pA (ck 2 (gc 1 (((((((r61.2==0)&&(r62.2==0))&&(r63.2==0))&&(r64.2==310))&&(r65.2==61))&&(r66.2==60))&&(r67.2==310)) (pA (ck 2 (gc 1 ((((((((r61.2==0)&&(r62.2==0))&&(r63.2==0))&&(r64.2==310))&&(r65.2==61))&&(r66.2==60))&&(r67.2==310))&&(r61.1==1)) (pA (ck 2 (gc 1 (((((((((r61.2==0)&&(r62.2==0))&&(r63.2==0))&&(r64.2==310))&&(r65.2==61))&&(r66.2==60))&&(r67.2==310))&&(r61.1==1))&&(r62.1==1)) (pA (ck 1 (en (re (by cases H;exact pr rd))))))))))))))))))))))))))))))))))))))))))))))))))))))))))))))))))))))))))
section
variable (p0_:(List UInt8)) (p1_:(List Int)) (p2_:(Fl Int))
def Jft:St:=⟨(0,.d (.str p0_))::(1,.d (.sl (p1_.map eU8)))::(2,.agg [.d (.int .i64 p2_.a0),.d (.int .i64 p2_.a1)])::[],[]⟩
variable {p0_ p1_ p2_}
theorem AP {z} (H:A3 n p0_ p1_ p2_=some z):AG Try.prog 32 [.d (.str p0_),.d (.sl (p1_.map eU8)),.agg [.d (.int .i64 p2_.a0),.d (.int .i64 p2_.a1)]] (.agg [.d (.str z.Print),.d (.sl (z.Cells.map eU8)),.d (.int .u8 z.Left),.d (.int .u8 z.Right),.d (.int .i64 z.From),.d (.int .i64 z.To)]):=by
 exact fO 14 (Jft p0_ p1_ p2_) Try.func32 (sr (ck 2 (en (sr (ck 8 (en (re (by cases H;exact pr rd))))))))
end
def Jfu:St:=⟨[],[]⟩
theorem QK {z} (H:OG n=some z):AG Try.prog 30 [] (.own 6 (z.map Am)):=by
 exact fO 16 Jfu Try.func30 (sr (ck 1 (en (sr (ck 3 (en (sr (sF (ck 1 (bx H λ r68 h211 H=>ca false (AP h211) (sF (ck 1 (bx H λ r69 h212 H=>ca false (AP h212) (sF (ck 1 (bx H λ r70 h213 H=>ca false (AP h213) (sF (ck 1 (bx H λ r71 h214 H=>ca false (AP h214) (ck 2 (en (re (by cases H;exact pr (rO (v:=.osl 1 6 0 (List.length [r68,r69,r70,r71])) [1] (ao vo)))))))))))))))))))))))))
section
variable (p0_:Int) (p1_:Int) (p2_:(Fl Int))
def Jfv:St:=⟨(0,.d (.int .u8 p0_))::(1,.d (.int .i64 p1_))::(2,.agg [.d (.int .i64 p2_.a0),.d (.int .i64 p2_.a1)])::[],[]⟩
variable {p0_ p1_ p2_}
theorem Gd {z} (H:Gk n p0_ p1_ p2_=some z):AG Try.prog 31 [.d (.int .u8 p0_),.d (.int .i64 p1_),.agg [.d (.int .i64 p2_.a0),.d (.int .i64 p2_.a1)]] (.agg [.d (.str z.Print),.d (.sl (z.Cells.map eU8)),.d (.int .u8 z.Left),.d (.int .u8 z.Right),.d (.int .i64 z.From),.d (.int .i64 z.To)]):=by
 exact fO 16 (Jfv p0_ p1_ p2_) Try.func31 (sr (ck 2 (en (sr (ck 1 (sF (ck 1 (bx H λ r72 h215 H=>ca false (AP h215) (ck 2 (en (sr (ck 1 (bx H λ gd7 h216 H=>so (Hc h216) (ck 2 (en (sr (ck 2 (en (re (by cases H;exact pr rd))))))))))))))))))))
end
section
variable (p0_:Int) (l_1:(List Av))
def Jfw:St:=⟨(0,.d (.int .u8 p0_))::[],[]⟩
def Jfx:St:=⟨(2,.ptr 0 0)::(3,.osl 1 6 0 (l_1.length))::[],[some (.box [.d (.int .i64 0),.d (.int .u8 0),.osl 2 6 0 (List.length ([]:List Av))]),some (.arr 6 (l_1.map Am)),some (.arr 6 (List.map Am ([]:List Av)))]⟩
variable {p0_ l_1}
theorem U6 {z} (H:ID n p0_=some z):AG Try.prog 14 [.d (.int .u8 p0_)] (.agg [.d (.int .i64 z.Modes),.d (.int .u8 z.Accept),.own 6 (z.Rules.map Am)]):=by
 refine fO 121 (Jfw p0_) Try.func14 (sr (ck 1 (en (sr (bx H λ r73 h217 H=>cl [List.length r73] (QK h217) (ck 13 (en (sj (λ (x:(List Av))=>Jfx x) (λ (x:(List Av))=>Fd n x) z ?_ (λ hFR2_Base_J1=>?_)))))))))
 ·intro l_1 H
  exact sr (ck 3 (en (re (by cases H;exact pr (rO (v:=.agg [.d (.int .i64 1),.d (.int .u8 1),.osl 1 6 0 (l_1.length)]) [1] (a1 (c1 vd (c1 vd (c1 vo (c0))))))))))
 refine sr (ck 2 (en (bk 0 (sr (ck 2 (en (cn H (λ H=>?_) (λ H=>?_))))))))
 ·exact sr (ck 2 (bx H λ r74 h218 H=>ca false (Gd h218) (sF (ck 1 (bx H λ r75 h219 H=>ca false (AP h219) (sF (ck 1 (bx H λ r76 h220 H=>ca false (AP h220) (sF (ck 1 (bx H λ r77 h221 H=>ca false (AP h221) (ck 1 (bx H λ l22 h222 H=>sp (CD Am 1 6 h222) (ck 1 (en (sr (ck 3 (en (re (qR (qr (by cases H;exact pr (rO (v:=.agg [.d (.int .i64 2),.d (.int .u8 3),.osl 7 6 0 (l22.length)]) [7] (a1 (c1 vd (c1 vd (c1 vo (c0))))))))))))))))))))))))))))
 ·refine sr (ck 2 (en (cn H (λ H=>?_) (λ H=>?_))))
  ·exact sr (ck 2 (bx H λ r78 h223 H=>ca false (Gd h223) (sF (ck 1 (bx H λ r79 h224 H=>ca false (AP h224) (sF (ck 1 (bx H λ r80 h225 H=>ca false (AP h225) (ck 1 (bx H λ l23 h226 H=>sp (CD Am 1 6 h226) (ck 1 (en (sr (ck 3 (en (re (qR (qr (by cases H;exact pr (rO (v:=.agg [.d (.int .i64 2),.d (.int .u8 1),.osl 7 6 0 (l23.length)]) [7] (a1 (c1 vd (c1 vd (c1 vo (c0)))))))))))))))))))))))))
  ·refine sr (ck 2 (en (cn H (λ H=>?_) (λ H=>?_))))
   ·exact rz (ck 1 (sF (ck 1 (bx H λ r81 h227 H=>ca false (AP h227) (sF (ck 1 (bx H λ r82 h228 H=>ca false (AP h228) (sF (ck 1 (bx H λ r83 h229 H=>ca false (AP h229) (ck 1 (bx H λ l24 h230 H=>sp (CD Am 1 6 h230) (ck 1 (ae (qN (qs (tr (CB 0 2 6 (by kernel_rfl)) (sg [2,3])) (hFR2_Base_J1 l24 H)))))))))))))))))
   ·refine sr (ck 2 (en (cn H (λ H=>?_) (λ H=>?_))))
    ·exact rz (ck 1 (sF (ck 1 (bx H λ r84 h231 H=>ca false (AP h231) (ck 1 (bx H λ l25 h232 H=>sp (CD Am 1 6 h232) (ck 1 (ae (qN (qs (tr (CB 0 2 6 (by kernel_rfl)) (sg [2,3])) (hFR2_Base_J1 l25 H)))))))))))
    ·refine sr (ck 2 (en (cn H (λ H=>?_) (λ H=>?_))))
     ·exact sr (sF (ck 1 (bx H λ r85 h233 H=>ca false (AP h233) (sF (ck 1 (bx H λ r86 h234 H=>ca false (AP h234) (ck 4 (en (sr (ck 4 (en (rz (ck 3 (sF (ck 1 (bx H λ r87 h235 H=>ca false (AP h235) (ck 1 (bx H λ l26 h236 H=>sp (CD Am 1 6 h236) (ck 1 (ae (qN (qs (tr (CB 0 2 6 (by kernel_rfl)) (sg [2,3])) (hFR2_Base_J1 l26 H)))))))))))))))))))))))
     ·refine sr (ck 2 (en (cn H (λ H=>?_) (λ H=>?_))))
      ·exact sr (ck 2 (bx H λ r88 h237 H=>ca false (Gd h237) (sF (ck 1 (bx H λ r89 h238 H=>ca false (AP h238) (sF (ck 1 (bx H λ r90 h239 H=>ca false (AP h239) (ck 1 (bx H λ l27 h240 H=>sp (CD Am 1 6 h240) (ck 1 (en (sr (ck 3 (en (re (qR (qr (by cases H;exact pr (rO (v:=.agg [.d (.int .i64 2),.d (.int .u8 1),.osl 7 6 0 (l27.length)]) [7] (a1 (c1 vd (c1 vd (c1 vo (c0)))))))))))))))))))))))))
      ·refine sr (ck 2 (en (cn H (λ H=>?_) (λ H=>?_))))
       ·exact rz (ck 1 (sF (ck 1 (bx H λ r91 h241 H=>ca false (AP h241) (sF (ck 1 (bx H λ r92 h242 H=>ca false (AP h242) (sF (ck 1 (bx H λ r93 h243 H=>ca false (AP h243) (ck 1 (bx H λ l28 h244 H=>sp (CD Am 1 6 h244) (ck 1 (ae (qN (qs (tr (CB 0 2 6 (by kernel_rfl)) (sg [2,3])) (hFR2_Base_J1 l28 H)))))))))))))))))
       ·exact sk (qN (qs (tr (CB 0 2 6 (by kernel_rfl)) (sg [2,3])) (hFR2_Base_J1 r73 H)))
end
section
variable (p0_:Dc) (p1_:Int) (out_1:Av) (i_5:Int) (out_2:Av) (out_3:Av) (i_6:Int) (out_4:Av)
def Jfy:St:=⟨(0,.agg [.d (.sl (p0_.P.map eU8)),.d (.sl (p0_.C.map eU8)),.d (.int .u8 p0_.L),.d (.int .u8 p0_.R),.d (.int .u8 p0_.W.a0),.d (.int .u8 p0_.W.a1)])::(1,.d (.int .i64 p1_))::[],[]⟩
def Jfz:St:=⟨(2,.ptr 0 0)::(4,.ptr 1 0)::(5,.d (.str [97,98,99,65,66,49,50,45,46]))::(7,.ptr 2 0)::(8,.d (.int .i64 i_5))::[],[some (.box (MM p0_)),some (.box [.d (.str []),.osl 3 1 0 (List.length ([]:List Int)),.d (.int .u8 0),.d (.int .u8 0),.d (.int .i64 0),.d (.int .i64 0)]),some (.box (Pr out_1 (.osl 4 1 0 (out_1.Cells.length)))),some (.arr 1 (List.map eU8 ([]:List Int))),some (.arr 1 (out_1.Cells.map eU8))]⟩
def JfA:St:=⟨(2,.ptr 0 0)::(4,.ptr 1 0)::(7,.ptr 2 0)::[],[some (.box (MM p0_)),some (.box [.d (.str []),.osl 3 1 0 (List.length ([]:List Int)),.d (.int .u8 0),.d (.int .u8 0),.d (.int .i64 0),.d (.int .i64 0)]),some (.box (Pr out_2 (.osl 4 1 0 (out_2.Cells.length)))),some (.arr 1 (List.map eU8 ([]:List Int))),some (.arr 1 (out_2.Cells.map eU8))]⟩
def Rx:Av->Ex->St->Prop:=xX 0 0 (λ (y:Av)=>JfA p0_ y)
def LD:(Av×Int)->St:=(λ (x:(Av×Int))=>Jfz p0_ x.1 x.2)
def JfB:St:=⟨(2,.ptr 0 0)::(4,.ptr 1 0)::(7,.ptr 2 0)::(10,.osl 3 1 0 (List.length [1,3,9,5,7,32,44,60]))::(11,.d (.int .i64 i_6))::[],[some (.box (MM p0_)),some (.box [.d (.str []),.osl 4 1 0 (List.length ([]:List Int)),.d (.int .u8 0),.d (.int .u8 0),.d (.int .i64 0),.d (.int .i64 0)]),some (.box (Pr out_3 (.osl 5 1 0 (out_3.Cells.length)))),some (.arr 1 (List.map eU8 [1,3,9,5,7,32,44,60])),some (.arr 1 (List.map eU8 ([]:List Int))),some (.arr 1 (out_3.Cells.map eU8))]⟩
def JfC:St:=⟨(4,.ptr 0 0)::(7,.ptr 1 0)::[],[some (.box [.d (.str []),.osl 2 1 0 (List.length ([]:List Int)),.d (.int .u8 0),.d (.int .u8 0),.d (.int .i64 0),.d (.int .i64 0)]),some (.box (Pr out_4 (.osl 3 1 0 (out_4.Cells.length)))),some (.arr 1 (List.map eU8 ([]:List Int))),some (.arr 1 (out_4.Cells.map eU8))]⟩
def Ry:Av->Ex->St->Prop:=xX 0 2 (λ (y:Av)=>JfC y)
def LE:(Av×Int)->St:=(λ (x:(Av×Int))=>JfB p0_ x.1 x.2)
variable {p0_ p1_ out_1 i_5 out_2 out_3 i_6 out_4}
theorem QL (x:(Av×Int)) (z:((Av×Int)⊕Av)) (H:Fe n p0_ x.1 x.2=some z):WP (cxk 101 0) (AH Try.f15) [1,1,1,0,1,0,0] (AJ 0 (LD p0_) (Rx p0_) z) (LD p0_ x):=by
 obtain ⟨out_1,i_5⟩:=x
 refine sq (sr (ck 3 (sp (AM eU8 p0_.P) (ck 3 (gc 1 (decide (i_5<((p0_.P.length:Nat):Int))) (pA (en (cn H (λ H=>?_) (λ H=>?_)))))))))
 ·exact sk (qz (sq (bk 1 (sr (ck 3 (bx H λ x80 h249 H=>sp (Au eU8 h249) (ck 4 (en (rz (ck 6 (bx H λ s4 h250 H=>sp (Po h250) (bx H λ s5 h251 H=>sp (ZJ h251) (ck 2 (ae (qN (qz (rz (ck 3 (ae (by cases H;exact og (sg [2,4,5,7,8])))))))))))))))))))))
 ·exact ex 0 (qx (by cases H;exact xo rfl (sg [2,4,7])))
theorem QM (x:(Av×Int)) (z:((Av×Int)⊕Av)) (H:Ff n p0_ x.1 x.2=some z):WP (cxk 101 0) (AH Try.f15) [1,1,1,1,1,1,0,1,0,0] (AJ 0 (LE p0_) (Ry) z) (LE p0_ x):=by
 obtain ⟨out_3,i_6⟩:=x
 refine sq (sr (ck 3 (sp (AM eU8 p0_.C) (ck 3 (gc 1 (decide (i_6<((p0_.C.length:Nat):Int))) (pA (en (cn H (λ H=>?_) (λ H=>?_)))))))))
 ·exact sk (qz (sq (bk 3 (rz (ck 6 (bx H λ x82 h254 H=>sp (Au eU8 h254) (ck 2 (bx H λ x83 h255 H=>sp (AC 3 1 h255) (sp (CC eU8 3 0 (ty 97) h255) (ck 1 (bx H λ l29 h256 H=>sp (CD eU8 5 1 h256) (ck 2 (ae (qN (qz (rz (ck 3 (ae (by cases H;exact og (sg [2,4,7,10,11]))))))))))))))))))))
 ·exact ex 2 (qx (by cases H;exact xo rfl (sg [4,7])))
theorem U7 {z} (H:MK n p0_ p1_=some z):AG Try.prog 15 [.agg (MM p0_),.d (.int .i64 p1_)] (.agg [.d (.str z.Print),.own 1 (z.Cells.map eU8),.d (.int .u8 z.Left),.d (.int .u8 z.Right),.d (.int .i64 z.From),.d (.int .i64 z.To)]):=by
 exact fO 101 (Jfy p0_ p1_) Try.func15 (sr (ck 2 (en (sr (ck 3 (en (sr (ck 4 (bx H λ x78 h245 H=>sp (AC 2 1 h245) (sp (CC eU8 2 0 (ty 5) h245) (ck 4 (bx H λ x79 h246 H=>sp (AC 2 1 h246) (sp (CC eU8 2 0 (ty 5) h246) (ck 5 (bx H λ gd8 h247 H=>so (Qn h247) (ck 5 (bx H λ gd9 h248 H=>so (Qn h248) (ck 3 (en (sq (sr (ck 1 (en (bk 0 (bx H λ y53 h252 H=>lX QL h252 (tr (tr (CB 1 1 1 (by kernel_rfl)) (CB 3 1 1 (by kernel_rfl))) (sg [2,4,5,7,8])) rfl λ s hE42=>qH (qs (hE42) (sr (ck 2 (en (sr (ck 5 (bx H λ x81 h253 H=>sp (AC 5 1 h253) (sp (CC eU8 5 0 (ty 97) h253) (ck 3 (en (sq (sr (ck 1 (en (bk 2 (bx H λ y54 h257 H=>lX QM h257 (sg [2,4,7,10,11]) rfl λ s hE43=>qH (qs (hE43) (sr (ck 2 (en (re (by cases H;exact pr (rO (v:=.agg [.d (.str z.Print),.osl 3 1 0 (z.Cells.length),.d (.int .u8 z.Left),.d (.int .u8 z.Right),.d (.int .i64 z.From),.d (.int .i64 z.To)]) [3] (a1 (c1 vd (c1 vo (c1 vd (c1 vd (c1 vd (c1 vd (c0))))))))))))))))))))))))))))))))))))))))))))))))))))))))
end
section
variable (p0_:Int)
def JfD:St:=⟨(0,.d (.int .u8 p0_))::[],[]⟩
variable {p0_}
theorem NR {z} (H:If n p0_=some z):AG Try.prog 44 [.d (.int .u8 p0_)] (.d (.bool z)):=by
 exact fO 11 (JfD p0_) Try.func44 (sr (ck 1 (en (sr (ck 5 (gc 2 (decide (Cm .u8 p0_ 127>=32)) (pA (ck 1 (en (re (by cases H;exact pr rd)))))))))))
end
section
variable (p0_:(List UInt8)) (i_7:Int)
def JfE:St:=⟨(0,.d (.str p0_))::[],[]⟩
def JfF:St:=⟨(0,.d (.str p0_))::(4,.d (.int .i64 i_7))::[],[]⟩
def JfG:St:=⟨(0,.d (.str p0_))::[],[]⟩
def Rz:(Unit⊕(Int×Int))->Ex->St->Prop:=xS (xX 0 0 (λ (y:Unit)=>JfG p0_)) (xR ty Try.f21 (λ (y:(Int×Int))=>.tup [.d (.int .i64 y.1),.d (.int .i64 y.2)]))
def LF:Int->St:=(λ (x:Int)=>JfF p0_ x)
variable {p0_ i_7}
theorem KL (x:Int) (z:(Int⊕(Unit⊕(Int×Int)))) (H:HO n p0_ x=some z):WP (cxk 19 0) (AH Try.f21) [1,0,1,0,0] (AJ 0 (LF p0_) (Rz p0_) z) (LF p0_ x):=by
 revert H
 generalize x=i_7
 intro H
 refine sq (sr (ck 4 (en (cn H (λ H=>?_) (λ H=>?_)))))
 ·refine sk (qz (sq (bk 1 (sr (ck 2 (bx H λ b6 h258 H=>sp (Gj h258) (bx H λ r94 h259 H=>ca false (NR h259) (ck 1 (en (cn H (λ H=>?_) (λ H=>?_)))))))))))
  ·exact sr (ck 3 (en (re (qR (qr (by cases H;exact ro rfl rdT))))))
  ·exact sk (qN (qz (rz (ck 3 (ae (by cases H;exact og (sg [0,4])))))))
 ·exact ex 0 (qx (by cases H;exact xo rfl (sg [0])))
theorem OJ {z} (H:KC n p0_=some z):AG Try.prog 21 [.d (.str p0_)] (.tup [.d (.int .i64 z.1),.d (.int .i64 z.2)]):=by
 refine fO 19 (JfE p0_) Try.func21 (sr (ck 2 (en (sq (sr (ck 1 (en (bk 0 (bx H λ y55 h260 H=>?_)))))))))
 rcases y55 with y56|y57
 ·exact lX KL h260 (sg [0,4]) rfl λ s hE44=>qH (qs (hE44) (sr (ck 4 (en (re (by cases H;exact pr rdT))))))
 ·exact lR KL h260 (sg [0,4]) rfl λ s hE45=>qR (qr (by cases H;exact pr hE45))
end
section
variable (p0_:(List UInt8))
def JfH:St:=⟨(0,.d (.str p0_))::[],[]⟩
variable {p0_}
theorem RB {z} (H:Jn n p0_=some z):AG Try.prog 65 [.d (.str p0_)] (.d (.bool z)):=by
 exact fO 12 (JfH p0_) Try.func65 (sr (ck 1 (en (sr (ck 1 (bx H λ r95 h261 H=>ca false (OJ h261) (ck 5 (en (sr (ck 3 (en (re (by cases H;exact pr rd)))))))))))))
end
section
variable (p0_:Int)
def JfI:St:=⟨(0,.d (.int .u8 p0_))::[],[]⟩
variable {p0_}
theorem Tm {z} (H:NF n p0_=some z):AG Try.prog 66 [.d (.int .u8 p0_)] (.d (.bool z)):=by
 exact fO 6 (JfI p0_) Try.func66 (sr (ck 1 (en (sr (ck 4 (en (re (by cases H;exact pr rd))))))))
end
end Go.AI
end
section
namespace Go.AI
open Go.Proofs
set_option maxRecDepth 10000
variable {n:Nat}
section
variable (p0_:Av) (p1_:Int) (space_1:Bool) (i_8:Int) (space_2:Bool) (y58:Bool) (blank_1:Bool) (i_9:Int) (blank_2:Bool)
def JfJ:St:=⟨(0,.agg [.d (.str p0_.Print),.d (.sl (p0_.Cells.map eU8)),.d (.int .u8 p0_.Left),.d (.int .u8 p0_.Right),.d (.int .i64 p0_.From),.d (.int .i64 p0_.To)])::(1,.d (.int .i64 p1_))::[],[]⟩
def JfK:St:=⟨(2,.ptr 0 0)::(5,.d (.bool space_1))::(6,.d (.bool false))::(7,.d (.int .i64 i_8))::[],[some (.box (KE p0_))]⟩
def JfL:St:=⟨(2,.ptr 0 0)::(5,.d (.bool space_2))::(6,.d (.bool false))::[],[some (.box (KE p0_))]⟩
def QN:Bool->Ex->St->Prop:=xX 0 0 (λ (y:Bool)=>JfL p0_ y)
def KM:(Bool×Int)->St:=(λ (x:(Bool×Int))=>JfK p0_ x.1 x.2)
def JfM:St:=⟨(2,.ptr 0 0)::(5,.d (.bool y58))::(6,.d (.bool blank_1))::(8,.d (.int .i64 i_9))::[],[some (.box (KE p0_))]⟩
def JfN:St:=⟨(2,.ptr 0 0)::(5,.d (.bool y58))::(6,.d (.bool blank_2))::[],[some (.box (KE p0_))]⟩
def QO:(Bool⊕Bool)->Ex->St->Prop:=xS (xX 0 2 (λ (y:Bool)=>JfN p0_ y58 y)) (xR ty Try.f52 (λ (y:Bool)=>.d (.bool y)))
def KN:(Bool×Int)->St:=(λ (x:(Bool×Int))=>JfM p0_ y58 x.1 x.2)
variable {p0_ p1_ space_1 i_8 space_2 y58 blank_1 i_9 blank_2}
theorem O3 (x:(Bool×Int)) (z:((Bool×Int)⊕Bool)) (H:Ek n p0_ x.1 x.2=some z):WP (cxk 125 0) (AH Try.f52) [1,1,1,1,0,1,0,0] (AJ 0 (KM p0_) (QN p0_) z) (KM p0_ x):=by
 obtain ⟨space_1,i_8⟩:=x
 refine sq (sr (ck 5 (en (cn H (λ H=>?_) (λ H=>?_)))))
 ·exact sk (qz (sq (bk 1 (rz (ck 3 (gc 1 (!space_1) (ck 1 (bx H λ b7 h263 H=>sE (λ hg=>Gj (Ce h263 hg)) (bx H λ r97 h264 H=>cG false (leZ) rfl (λ hg=>Tm (Ce h264 hg)) (Or.inl rfl) (Db (λ hh=>hh) (GE)) rfl (pO (ck 1 (ae (qN (qz (rz (ck 3 (ae (by cases H;exact og (sg [2,5,6,7])))))))))))))))))))
 ·exact ex 0 (qx (by cases H;exact xo rfl (sg [2,5,6])))
theorem J3 (x:(Bool×Int)) (z:((Bool×Int)⊕(Bool⊕Bool))) (H:Ds n p0_ y58 x.1 x.2=some z):WP (cxk 125 0) (AH Try.f52) [1,1,1,1,1,0,1,0,0] (AJ 0 (KN p0_ y58) (QO p0_ y58) z) (KN p0_ y58 x):=by
 obtain ⟨blank_1,i_9⟩:=x
 refine sq (sr (ck 3 (sp (AM eU8 p0_.Cells) (ck 1 (en (cn H (λ H=>?_) (λ H=>?_)))))))
 ·refine sk (qz (sq (bk 3 (sq (sr (ck 3 (bx H λ x84 h266 H=>sp (Au eU8 h266) (ck 2 (en (cn H (λ H=>?_) (λ H=>?_)))))))))))
  ·exact sr (ck 1 (en (re (qr (qR (qr (by cases H;exact ro rfl rd)))))))
  ·exact sk (qz (rz (ck 3 (gc 1 (!blank_1) (ck 1 (bx H λ x85 h267 H=>sE (λ hg=>Au eU8 (Ce h267 hg)) (gc 2 (!blank_1) (pO (ck 1 (ae (qN (qz (rz (ck 3 (ae (by cases H;exact og (sg [2,5,6,8])))))))))))))))))
 ·exact ex 2 (qx (by cases H;exact xo rfl (sg [2,5,6])))
theorem Tn {z} (H:K8 n p0_ p1_=some z):AG Try.prog 52 [.agg (KE p0_),.d (.int .i64 p1_)] (.d (.bool z)):=by
 refine fO 125 (JfJ p0_ p1_) Try.func52 (sr (ck 2 (en (sq (sr (ck 2 (bx H λ r96 h262 H=>ca false (RB h262) (ck 3 (gc 3 (!(!r96)) (pO (ck 2 (gc 1 (!((!r96)||(decide (((p0_.Print.length:Nat):Int)>4)))) (sE (g:=(!((!r96)||(decide (((p0_.Print.length:Nat):Int)>4))))) (λ hg=>AM eU8 p0_.Cells) (gc 1 (!((!r96)||(decide (((p0_.Print.length:Nat):Int)>4)))) (pO (ck 2 (gc 1 (!(((!r96)||(decide (((p0_.Print.length:Nat):Int)>4)))||(decide (((p0_.Cells.length:Nat):Int)<1)))) (sE (g:=(!(((!r96)||(decide (((p0_.Print.length:Nat):Int)>4)))||(decide (((p0_.Cells.length:Nat):Int)<1))))) (λ hg=>AM eU8 p0_.Cells) (gc 1 (!(((!r96)||(decide (((p0_.Print.length:Nat):Int)>4)))||(decide (((p0_.Cells.length:Nat):Int)<1)))) (pO (en (cn H (λ H=>?_) (λ H=>?_)))))))))))))))))))))))
 ·exact sr (ck 1 (en (re (qr (by cases H;exact pr rd)))))
 ·refine sk (qz (sq (sr (ck 5 (gc 2 (!(decide (p0_.Left<1))) (pO (ck 2 (gc 2 (!((decide (p0_.Left<1))||(decide (p0_.Left>63)))) (pO (ck 2 (gc 2 (!(((decide (p0_.Left<1))||(decide (p0_.Left>63)))||(decide (p0_.Right<1)))) (pO (ck 2 (gc 2 (!((((decide (p0_.Left<1))||(decide (p0_.Left>63)))||(decide (p0_.Right<1)))||(decide (p0_.Right>63)))) (pO (ck 2 (gc 1 (!(((((decide (p0_.Left<1))||(decide (p0_.Left>63)))||(decide (p0_.Right<1)))||(decide (p0_.Right>63)))||(decide (p0_.From<0)))) (ck 1 (gc 1 (!(((((decide (p0_.Left<1))||(decide (p0_.Left>63)))||(decide (p0_.Right<1)))||(decide (p0_.Right>63)))||(decide (p0_.From<0)))) (pO (ck 2 (gc 2 (!((((((decide (p0_.Left<1))||(decide (p0_.Left>63)))||(decide (p0_.Right<1)))||(decide (p0_.Right>63)))||(decide (p0_.From<0)))||(decide (p0_.From>=p1_)))) (pO (ck 2 (gc 1 (!(((((((decide (p0_.Left<1))||(decide (p0_.Left>63)))||(decide (p0_.Right<1)))||(decide (p0_.Right>63)))||(decide (p0_.From<0)))||(decide (p0_.From>=p1_)))||(decide (p0_.To<0)))) (ck 1 (gc 1 (!(((((((decide (p0_.Left<1))||(decide (p0_.Left>63)))||(decide (p0_.Right<1)))||(decide (p0_.Right>63)))||(decide (p0_.From<0)))||(decide (p0_.From>=p1_)))||(decide (p0_.To<0)))) (pO (en (cn H (λ H=>?_) (λ H=>?_)))))))))))))))))))))))))))))))
  ·exact sr (ck 1 (en (re (qr (by cases H;exact pr rd)))))
  ·refine sk (qz (sr (ck 2 (en (sq (sr (ck 1 (en (bk 0 (bx H λ y58 h265 H=>lX O3 h265 (sg [2,5,6,7]) rfl λ s hE46=>qH (qs (hE46) (sq (sr (ck 1 (en (bk 2 (bx H λ y59 h268 H=>?_)))))))))))))))))
   rcases y59 with y60|y61
   ·refine lX J3 h268 (sg [2,5,6,8]) rfl λ s hE47=>qH (qs (hE47) (sq (sr (ck 2 (en (cn H (λ H=>?_) (λ H=>?_)))))))
    ·exact sr (ck 3 (en (re (qr (by cases H;exact pr rd)))))
    ·exact sk (qz (sr (ck 6 (gc 1 (((p0_.Print.length:Nat):Int)==1) (sE (g:=(((p0_.Print.length:Nat):Int)==1)) (λ hg=>AM eU8 p0_.Cells) (gc 1 (((p0_.Print.length:Nat):Int)==1) (pA (ck 2 (pA (ck 1 (en (re (by cases H;exact pr rd)))))))))))))
   ·exact lR J3 h268 (sg [2,5,6,8]) rfl λ s hE48=>qR (qr (by cases H;exact pr hE48))
end
section
variable (p0_:(List Int)) (p1_:(List Int)) (i_10:Int)
def JfO:St:=⟨(0,.d (.sl (p0_.map eU8)))::(1,.d (.sl (p1_.map eU8)))::[],[]⟩
def JfP:St:=⟨(0,.d (.sl (p0_.map eU8)))::(1,.d (.sl (p1_.map eU8)))::(5,.d (.int .i64 i_10))::[],[]⟩
def JfQ:St:=⟨[],[]⟩
def L3:(Unit⊕Bool)->Ex->St->Prop:=xS (xX 0 0 (λ (y:Unit)=>JfQ)) (xR ty Try.f67 (λ (y:Bool)=>.d (.bool y)))
def Hp:Int->St:=(λ (x:Int)=>JfP p0_ p1_ x)
variable {p0_ p1_ i_10}
theorem GL (x:Int) (z:(Int⊕(Unit⊕Bool))) (H:El n p0_ p1_ x=some z):WP (cxk 26 0) (AH Try.f67) [1,1,0,1,0,0] (AJ 0 (Hp p0_ p1_) (L3) z) (Hp p0_ p1_ x):=by
 revert H
 generalize x=i_10
 intro H
 refine sq (sr (ck 2 (sp (AM eU8 p0_) (ck 1 (en (cn H (λ H=>?_) (λ H=>?_)))))))
 ·refine sk (qz (sq (bk 1 (sr (ck 2 (bx H λ x86 h269 H=>sp (Au eU8 h269) (ck 3 (bx H λ x87 h270 H=>sp (Au eU8 h270) (ck 2 (en (cn H (λ H=>?_) (λ H=>?_))))))))))))
  ·exact sr (ck 1 (en (re (qR (qr (by cases H;exact ro rfl rd))))))
  ·exact sk (qN (qz (rz (ck 3 (ae (by cases H;exact og (sg [0,1,5])))))))
 ·exact ex 0 (qx (by cases H;exact xo rfl (sg [])))
theorem NS {z} (H:Gl n p0_ p1_=some z):AG Try.prog 67 [.d (.sl (p0_.map eU8)),.d (.sl (p1_.map eU8))] (.d (.bool z)):=by
 refine fO 26 (JfO p0_ p1_) Try.func67 (sr (ck 1 (en (sq (sr (ck 1 (sp (AM eU8 p0_) (ck 1 (sp (AM eU8 p1_) (ck 1 (en (cn H (λ H=>?_) (λ H=>?_)))))))))))))
 ·exact sr (ck 1 (en (re (qr (by cases H;exact pr rd)))))
 ·refine sk (qz (sq (sr (ck 1 (en (bk 0 (bx H λ y62 h271 H=>?_)))))))
  rcases y62 with y63|y64
  ·exact lX GL h271 (sg [0,1,5]) rfl λ s hE49=>qH (qs (hE49) (sr (ck 1 (en (re (by cases H;exact pr rd))))))
  ·exact lR GL h271 (sg [0,1,5]) rfl λ s hE50=>qR (qr (by cases H;exact pr hE50))
end
section
variable (p0_:Av) (p1_:Av)
def JfR:St:=⟨(0,.agg [.d (.str p0_.Print),.d (.sl (p0_.Cells.map eU8)),.d (.int .u8 p0_.Left),.d (.int .u8 p0_.Right),.d (.int .i64 p0_.From),.d (.int .i64 p0_.To)])::(1,.agg [.d (.str p1_.Print),.d (.sl (p1_.Cells.map eU8)),.d (.int .u8 p1_.Left),.d (.int .u8 p1_.Right),.d (.int .i64 p1_.From),.d (.int .i64 p1_.To)])::[],[]⟩
variable {p0_ p1_}
theorem O4 {z} (H:GP n p0_ p1_=some z):AG Try.prog 53 [.agg (KE p0_),.agg (KE p1_)] (.d (.bool z)):=by
 exact fO 45 (JfR p0_ p1_) Try.func53 (sr (ck 3 (en (sr (ck 7 (gc 1 (p0_.Print==p1_.Print) (ck 1 (gc 1 (p0_.Print==p1_.Print) (bx H λ r98 h272 H=>cG false (leZ) rfl (λ hg=>NS (Ce h272 hg)) (Or.inl rfl) (Db (λ hh=>hh) (Db (λ hh=>hh) (GE))) rfl (pA (ck 2 (gc 1 ((p0_.Print==p1_.Print)&&r98) (ck 1 (gc 2 ((p0_.Print==p1_.Print)&&r98) (pA (ck 2 (gc 1 (((p0_.Print==p1_.Print)&&r98)&&(p0_.Left==p1_.Left)) (ck 1 (gc 2 (((p0_.Print==p1_.Print)&&r98)&&(p0_.Left==p1_.Left)) (pA (ck 2 (gc 1 ((((p0_.Print==p1_.Print)&&r98)&&(p0_.Left==p1_.Left))&&(p0_.Right==p1_.Right)) (ck 1 (gc 2 ((((p0_.Print==p1_.Print)&&r98)&&(p0_.Left==p1_.Left))&&(p0_.Right==p1_.Right)) (pA (ck 2 (gc 1 (((((p0_.Print==p1_.Print)&&r98)&&(p0_.Left==p1_.Left))&&(p0_.Right==p1_.Right))&&(p0_.From==p1_.From)) (ck 1 (gc 2 (((((p0_.Print==p1_.Print)&&r98)&&(p0_.Left==p1_.Left))&&(p0_.Right==p1_.Right))&&(p0_.From==p1_.From)) (pA (ck 1 (en (re (by cases H;exact pr rd))))))))))))))))))))))))))))))))))
end
section
variable (p0_:Ac) (i_11:Int) (k_2:Int)
def JfS:St:=⟨(0,.agg [.d (.int .i64 p0_.Modes),.d (.int .u8 p0_.Accept),.d (.sl (p0_.Rules.map Am))])::[],[]⟩
def JfT:St:=⟨(1,.ptr 0 0)::(4,.d (.int .i64 i_11))::[],[some (.box (Aq p0_))]⟩
def JfU:St:=⟨[],[]⟩
def JfV:St:=⟨(1,.ptr 0 0)::(4,.d (.int .i64 i_11))::(5,.d (.int .i64 k_2))::[],[some (.box (Aq p0_))]⟩
def JfW:St:=⟨(1,.ptr 0 0)::(4,.d (.int .i64 i_11))::[],[some (.box (Aq p0_))]⟩
def QP:(Unit⊕(Int×Int))->Ex->St->Prop:=xS (xX 0 2 (λ (y:Unit)=>JfW p0_ i_11)) (xR ty Try.f33 (λ (y:(Int×Int))=>.tup [.d (.int .i64 y.1),.d (.int .i64 y.2)]))
def KO:Int->St:=(λ (x:Int)=>JfV p0_ i_11 x)
def QQ:(Unit⊕(Int×Int))->Ex->St->Prop:=xS (xX 0 0 (λ (y:Unit)=>JfU)) (xR ty Try.f33 (λ (y:(Int×Int))=>.tup [.d (.int .i64 y.1),.d (.int .i64 y.2)]))
def KP:Int->St:=(λ (x:Int)=>JfT p0_ x)
variable {p0_ i_11 k_2}
theorem J4 (x:Int) (z:(Int⊕(Unit⊕(Int×Int)))) (H:Fx n p0_ i_11 x=some z):WP (cxk 74 0) (AH Try.f33) [1,1,0,1,0,0,1,0,0,1,1,0,0] (AJ 0 (KO p0_ i_11) (QP p0_ i_11) z) (KO p0_ i_11 x):=by
 revert H
 generalize x=k_2
 intro H
 refine sq (sr (ck 3 (en (cn H (λ H=>?_) (λ H=>?_)))))
 ·refine sk (qz (sq (bk 3 (sr (ck 3 (bx H λ x89 h276 H=>sp (Au Am h276) (ck 4 (bx H λ x90 h277 H=>sp (Au Am h277) (ck 1 (bx H λ r100 h278 H=>ca false (O4 h278) (en (cn H (λ H=>?_) (λ H=>?_)))))))))))))
  ·exact sr (ck 3 (en (re (qR (qr (by cases H;exact ro rfl rdT))))))
  ·exact sk (qN (qz (rz (ck 3 (ae (by cases H;exact og (sg [1,4,5])))))))
 ·exact ex 2 (qx (by cases H;exact xo rfl (sg [1,4])))
theorem J5 (x:Int) (z:(Int⊕(Unit⊕(Int×Int)))) (H:Fy n p0_ x=some z):WP (cxk 74 0) (AH Try.f33) [1,1,0,1,0,0] (AJ 0 (KP p0_) (QQ) z) (KP p0_ x):=by
 revert H
 generalize x=i_11
 intro H
 refine sq (sr (ck 3 (sp (AM Am p0_.Rules) (ck 1 (en (cn H (λ H=>?_) (λ H=>?_)))))))
 ·refine sk (qz (sq (bk 1 (sq (sr (ck 3 (bx H λ x88 h274 H=>sp (Au Am h274) (ck 3 (bx H λ r99 h275 H=>ca false (Tn h275) (ck 1 (en (cn H (λ H=>?_) (λ H=>?_)))))))))))))
  ·exact sr (ck 3 (en (re (qr (qR (qr (by cases H;exact ro rfl rdT)))))))
  ·refine sk (qz (sr (ck 1 (en (bk 2 (bx H λ y65 h279 H=>?_))))))
   rcases y65 with y66|y67
   ·exact lX J4 h279 (sg [1,4,5]) rfl λ s hE51=>qH (qN (qs (hE51) (rz (ck 3 (ae (by cases H;exact og (sg [1,4])))))))
   ·exact lR J4 h279 (sg [1,4,5]) rfl λ s hE52=>qR (qR (qr (by cases H;exact ro rfl hE52)))
 ·exact ex 0 (qx (by cases H;exact xo rfl (sg [])))
theorem Tp {z} (H:K9 n p0_=some z):AG Try.prog 33 [.agg (Aq p0_)] (.tup [.d (.int .i64 z.1),.d (.int .i64 z.2)]):=by
 refine fO 74 (JfS p0_) Try.func33 (sr (ck 3 (en (sq (sr (ck 5 (gc 2 (!(decide (p0_.Modes<1))) (pO (ck 2 (gc 2 (!((decide (p0_.Modes<1))||(decide (p0_.Modes>8)))) (pO (ck 2 (gc 2 (!(((decide (p0_.Modes<1))||(decide (p0_.Modes>8)))||(p0_.Accept==0))) (ck 1 (gc 1 (!(((decide (p0_.Modes<1))||(decide (p0_.Modes>8)))||(p0_.Accept==0))) (bx H λ gd10 h273 H=>soG (λ hg=>Hc (Ce h273 hg)) (Db (λ hh=>hh) (GE)) (gc 1 (!(((decide (p0_.Modes<1))||(decide (p0_.Modes>8)))||(p0_.Accept==0))) (pO (ck 2 (gc 1 (!((((decide (p0_.Modes<1))||(decide (p0_.Modes>8)))||(p0_.Accept==0))||(decide (IntKind.i64.wrap p0_.Accept>=Qc .i64 1 p0_.Modes)))) (sE (g:=(!((((decide (p0_.Modes<1))||(decide (p0_.Modes>8)))||(p0_.Accept==0))||(decide (IntKind.i64.wrap p0_.Accept>=Qc .i64 1 p0_.Modes))))) (λ hg=>AM Am p0_.Rules) (gc 1 (!((((decide (p0_.Modes<1))||(decide (p0_.Modes>8)))||(p0_.Accept==0))||(decide (IntKind.i64.wrap p0_.Accept>=Qc .i64 1 p0_.Modes)))) (pO (ck 2 (gc 1 (!(((((decide (p0_.Modes<1))||(decide (p0_.Modes>8)))||(p0_.Accept==0))||(decide (IntKind.i64.wrap p0_.Accept>=Qc .i64 1 p0_.Modes)))||(decide (((p0_.Rules.length:Nat):Int)<1)))) (sE (g:=(!(((((decide (p0_.Modes<1))||(decide (p0_.Modes>8)))||(p0_.Accept==0))||(decide (IntKind.i64.wrap p0_.Accept>=Qc .i64 1 p0_.Modes)))||(decide (((p0_.Rules.length:Nat):Int)<1))))) (λ hg=>AM Am p0_.Rules) (gc 1 (!(((((decide (p0_.Modes<1))||(decide (p0_.Modes>8)))||(p0_.Accept==0))||(decide (IntKind.i64.wrap p0_.Accept>=Qc .i64 1 p0_.Modes)))||(decide (((p0_.Rules.length:Nat):Int)<1)))) (pO (en (cn H (λ H=>?_) (λ H=>?_)))))))))))))))))))))))))))))))
 ·exact sr (ck 2 (en (re (qr (by cases H;exact pr rdT)))))
 ·refine sk (qz (sq (sr (ck 1 (en (bk 0 (bx H λ y68 h280 H=>?_)))))))
  rcases y68 with y69|y70
  ·exact lX J5 h280 (sg [1,4]) rfl λ s hE53=>qH (qs (hE53) (sr (ck 2 (en (re (by cases H;exact pr rdT))))))
  ·exact lR J5 h280 (sg [1,4]) rfl λ s hE54=>qR (qr (by cases H;exact pr hE54))
end
section
variable (p0_:Ac)
def JfX:St:=⟨(0,.agg [.d (.int .i64 p0_.Modes),.d (.int .u8 p0_.Accept),.d (.sl (p0_.Rules.map Am))])::[],[]⟩
variable {p0_}
theorem Tq {z} (H:NG n p0_=some z):AG Try.prog 16 [.agg (Aq p0_)] (.d (.bool z)):=by
 exact fO 12 (JfX p0_) Try.func16 (sr (ck 2 (en (sr (ck 1 (bx H λ r101 h281 H=>ca false (Tp h281) (ck 5 (en (sr (ck 3 (en (re (by cases H;exact pr rd)))))))))))))
end
section
variable (p0_:KB) (r102:Ac) (t_3:Ac) (i_12:Int) (t_4:Ac) (t_5:Ac) (t_6:Ac) (i_13:Int) (t_7:Ac) (t_8:Ac) (t_9:Ac)
def JhS:St:=⟨(0,.agg [.d (.int .u8 p0_.Base),.d (.int .u8 p0_.Drop),.d (.sl (p0_.More.map Fj))])::[],[]⟩
def JhT:St:=⟨(1,.ptr 0 0)::(2,.ptr 1 0)::(3,.ptr 2 0)::(4,.osl 3 6 0 (r102.Rules.length))::(5,.d (.int .i64 i_12))::[],[some (.box (Wn p0_)),some (.box [.d (.int .i64 0),.d (.int .u8 0),.osl 4 6 0 (List.length ([]:List Av))]),some (.box (Fz t_3 (.osl 5 6 0 (t_3.Rules.length)))),some (.arr 6 (r102.Rules.map Am)),some (.arr 6 (List.map Am ([]:List Av))),some (.arr 6 (t_3.Rules.map Am))]⟩
def JhU:St:=⟨(1,.ptr 0 0)::(2,.ptr 1 0)::(3,.ptr 2 0)::(4,.osl 3 6 0 (r102.Rules.length))::[],[some (.box (Wn p0_)),some (.box [.d (.int .i64 0),.d (.int .u8 0),.osl 4 6 0 (List.length ([]:List Av))]),some (.box (Fz t_4 (.osl 5 6 0 (t_4.Rules.length)))),some (.arr 6 (r102.Rules.map Am)),some (.arr 6 (List.map Am ([]:List Av))),some (.arr 6 (t_4.Rules.map Am))]⟩
def JhV:St:=⟨(1,.ptr 0 0)::(2,.ptr 1 0)::(3,.ptr 2 0)::(4,.osl 3 6 0 (r102.Rules.length))::(5,.d (.int .i64 i_12))::[],[some (.box (Wn p0_)),some (.box [.d (.int .i64 0),.d (.int .u8 0),.osl 4 6 0 (List.length ([]:List Av))]),some (.box (Fz t_5 (.osl 5 6 0 (t_5.Rules.length)))),some (.arr 6 (r102.Rules.map Am)),some (.arr 6 (List.map Am ([]:List Av))),some (.arr 6 (t_5.Rules.map Am))]⟩
def RC:Ac->Ex->St->Prop:=xX 0 0 (λ (y:Ac)=>JhU p0_ r102 y)
def LG:(Ac×Int)->St:=(λ (x:(Ac×Int))=>JhT p0_ r102 x.1 x.2)
def JhW:St:=⟨(1,.ptr 0 0)::(2,.ptr 1 0)::(3,.ptr 2 0)::(4,.osl 3 6 0 (r102.Rules.length))::(6,.d (.int .i64 i_13))::[],[some (.box (Wn p0_)),some (.box [.d (.int .i64 0),.d (.int .u8 0),.osl 4 6 0 (List.length ([]:List Av))]),some (.box (Fz t_6 (.osl 5 6 0 (t_6.Rules.length)))),some (.arr 6 (r102.Rules.map Am)),some (.arr 6 (List.map Am ([]:List Av))),some (.arr 6 (t_6.Rules.map Am))]⟩
def JhX:St:=⟨(2,.ptr 0 0)::(3,.ptr 1 0)::(4,.osl 2 6 0 (r102.Rules.length))::[],[some (.box [.d (.int .i64 0),.d (.int .u8 0),.osl 3 6 0 (List.length ([]:List Av))]),some (.box (Fz t_7 (.osl 4 6 0 (t_7.Rules.length)))),some (.arr 6 (r102.Rules.map Am)),some (.arr 6 (List.map Am ([]:List Av))),some (.arr 6 (t_7.Rules.map Am))]⟩
def JhY:St:=⟨(1,.ptr 0 0)::(2,.ptr 1 0)::(3,.ptr 2 0)::(4,.osl 3 6 0 (r102.Rules.length))::(6,.d (.int .i64 i_13))::[],[some (.box (Wn p0_)),some (.box [.d (.int .i64 0),.d (.int .u8 0),.osl 4 6 0 (List.length ([]:List Av))]),some (.box (Fz t_8 (.osl 5 6 0 (t_8.Rules.length)))),some (.arr 6 (r102.Rules.map Am)),some (.arr 6 (List.map Am ([]:List Av))),some (.arr 6 (t_8.Rules.map Am))]⟩
def RD:Ac->Ex->St->Prop:=xX 0 2 (λ (y:Ac)=>JhX r102 y)
def LH:(Ac×Int)->St:=(λ (x:(Ac×Int))=>JhW p0_ r102 x.1 x.2)
def JhZ:St:=⟨(2,.ptr 0 0)::(3,.ptr 1 0)::[],[some (.box [.d (.int .i64 0),.d (.int .u8 0),.osl 2 6 0 (List.length ([]:List Av))]),some (.box (Fz t_9 (.osl 3 6 0 (t_9.Rules.length)))),some (.arr 6 (List.map Am ([]:List Av))),some (.arr 6 (t_9.Rules.map Am))]⟩
variable {p0_ r102 t_3 i_12 t_4 t_5 t_6 i_13 t_7 t_8 t_9}
theorem QR (x:(Ac×Int)) (z:((Ac×Int)⊕Ac)) (H:Fg n p0_ r102 x.1 x.2=some z):WP (cxk 77 0) (AH Try.f6) [1,1,1,1,0,1,0,0] (AJ 0 (LG p0_ r102) (RC p0_ r102) z) (LG p0_ r102 x):=by
 obtain ⟨t_3,i_12⟩:=x
 refine sq (sr (ck 4 (en (cn H (λ H=>?_) (λ H=>?_)))))
 ·refine sk (qz (sj (λ (x:Ac)=>JhV p0_ r102 i_12 x) (λ (x:Ac)=>Gu n i_12 x) z ?_ (λ hFR2_Made_J1=>?_)))
  ·intro t_5 H
   exact rz (ck 3 (ae (by cases H;exact og (sg [1,2,3,4,5]))))
  refine bk 1 (sr (ck 3 (bx H λ gd11 h283 H=>so (Hc h283) (ck 2 (en (cn H (λ H=>?_) (λ H=>?_)))))))
  ·exact rz (ck 4 (bx H λ x91 h284 H=>sp (AC 3 6 h284) (sp (CC Am 3 0 (ty 48) h284) (ck 1 (bx H λ l30 h285 H=>sp (CD Am 5 6 h285) (ck 2 (ae (qN (qs (sg [1,2,3,4,5]) (hFR2_Made_J1 ({ Modes:=t_3.Modes,Accept:=t_3.Accept,Rules:=l30 }:Ac) H))))))))))
  ·exact sk (qN (qs (sg [1,2,3,4,5]) (hFR2_Made_J1 t_3 H)))
 ·exact ex 0 (qx (by cases H;exact xo rfl (sg [1,2,3,4])))
theorem QS (x:(Ac×Int)) (z:((Ac×Int)⊕Ac)) (H:Fh n p0_ r102 x.1 x.2=some z):WP (cxk 77 0) (AH Try.f6) [1,1,1,1,1,0,1,0,0] (AJ 0 (LH p0_ r102) (RD r102) z) (LH p0_ r102 x):=by
 obtain ⟨t_6,i_13⟩:=x
 refine sq (sr (ck 3 (sp (AM Fj p0_.More) (ck 3 (gc 1 (decide (i_13<((p0_.More.length:Nat):Int))) (pA (en (cn H (λ H=>?_) (λ H=>?_)))))))))
 ·refine sk (qz (sj (λ (x:Ac)=>JhY p0_ r102 i_13 x) (λ (x:Ac)=>Gv n i_13 x) z ?_ (λ hFR2_Made_J2=>?_)))
  ·intro t_8 H
   exact rz (ck 3 (ae (by cases H;exact og (sg [1,2,3,4,6]))))
  refine bk 3 (sr (ck 5 (bx H λ x92 h287 H=>sp (Au Fj h287) (ck 3 (bx H λ r103 h288 H=>ca false (U7 h288) (ck 1 (bx H λ l31 h289 H=>sp (CD Am 5 6 h289) (ck 2 (en (sr (ck 1 (bx H λ r104 h290 H=>cb (ks:=[7]) (obl:=[(0+List.length l31,List.length (l31.map Am))]) false (leK leM (leZ)) (E6 (Jil (E6 rfl (E6 rfl (E6 Zx rfl)))) rfl) (Tq h290) (Or.inr trivial) rfl (ck 1 (en (cn H (λ H=>?_) (λ H=>?_))))))))))))))))
  ·exact rz (ck 6 (bx H λ l32 h291 H=>sp (Jd7 7 6 h291) (ck 2 (ae (qN (qs (tr (Jcc (k:=7) (sz:=6) 2 2 (l32.map Am) (l32.length) (by kernel_rfl) (Jch h291) (JdZ (enc:=Am) h291) (Jci h291)) (sg [1,2,3,4,6])) (hFR2_Made_J2 ({ Modes:=t_6.Modes,Accept:=t_6.Accept,Rules:=l32 }:Ac) H)))))))
  ·exact sk (qN (qs (sg [1,2,3,4,6]) (hFR2_Made_J2 ({ Modes:=t_6.Modes,Accept:=t_6.Accept,Rules:=l31 }:Ac) H)))
 ·exact ex 2 (qx (by cases H;exact xo rfl (sg [2,3,4])))
theorem U9 {z} (H:IE n p0_=some z):AG Try.prog 6 [.agg (Wn p0_)] (.agg [.d (.int .i64 z.Modes),.d (.int .u8 z.Accept),.own 6 (z.Rules.map Am)]):=by
 refine fO 77 (JhS p0_) Try.func6 (sr (ck 2 (en (sr (ck 2 (bx H λ r102 h282 H=>cl [List.length r102.Rules] (U6 h282) (ck 2 (en (sr (ck 3 (en (sr (ck 3 (en (sq (sr (ck 1 (en (bk 0 (bx H λ y71 h286 H=>lX QR h286 (tr (CB 1 2 6 (by kernel_rfl)) (sg [1,2,3,4,5])) rfl λ s hE55=>qH (qs (hE55) (sq (sr (ck 1 (en (bk 2 (bx H λ y72 h292 H=>lX QS h292 (sg [1,2,3,4,6]) rfl λ s hE56=>qH (qs (hE56) (sj (λ (x:Ac)=>JhZ x) (λ (x:Ac)=>Gw n x) z ?_ (λ hFR2_Made_J3=>?_))))))))))))))))))))))))))))))
 ·intro t_9 H
  exact sr (ck 2 (en (re (by cases H;exact pr (rO (v:=.agg [.d (.int .i64 z.Modes),.d (.int .u8 z.Accept),.osl 3 6 0 (z.Rules.length)]) [3] (a1 (c1 vd (c1 vd (c1 vo (c0))))))))))
 refine sr (ck 4 (en (cn H (λ H=>?_) (λ H=>?_))))
 ·exact rz (ck 3 (ae (qs (sg [2,3]) (hFR2_Made_J3 ({ Modes:=y72.Modes,Accept:=y72.Accept,Rules:=r102.Rules }:Ac) H))))
 ·exact sk (qs (sg [2,3]) (hFR2_Made_J3 y72 H))
end
section
variable (p0_:Ac) (p1_:(List Int)) (out_5:(List UInt8)) (i_14:Int) (out_6:(List UInt8)) (out_7:(List UInt8))
def Jh0:St:=⟨(0,.agg [.d (.int .i64 p0_.Modes),.d (.int .u8 p0_.Accept),.d (.sl (p0_.Rules.map Am))])::(1,.d (.sl (p1_.map eU8)))::[],[]⟩
def Jh1:St:=⟨(1,.d (.sl (p1_.map eU8)))::(2,.ptr 0 0)::(5,.d (.str out_5))::(6,.d (.int .i64 i_14))::[],[some (.box (Aq p0_))]⟩
def Jh2:St:=⟨(5,.d (.str out_6))::[],[]⟩
def Jh3:St:=⟨(1,.d (.sl (p1_.map eU8)))::(2,.ptr 0 0)::(5,.d (.str out_7))::(6,.d (.int .i64 i_14))::[],[some (.box (Aq p0_))]⟩
def NT:(List UInt8)->Ex->St->Prop:=xX 0 0 (λ (y:(List UInt8))=>Jh2 y)
def IM:((List UInt8)×Int)->St:=(λ (x:((List UInt8)×Int))=>Jh1 p0_ p1_ x.1 x.2)
variable {p0_ p1_ out_5 i_14 out_6 out_7}
theorem MS (x:((List UInt8)×Int)) (z:(((List UInt8)×Int)⊕(List UInt8))) (H:D7 n p0_ p1_ x.1 x.2=some z):WP (cxk 48 0) (AH Try.f7) [1,1,0,1,0,0] (AJ 0 (IM p0_ p1_) (NT) z) (IM p0_ p1_ x):=by
 obtain ⟨out_5,i_14⟩:=x
 refine sq (sr (ck 2 (sp (AM eU8 p1_) (ck 3 (gc 1 (decide (i_14<((p1_.length:Nat):Int))) (pA (ck 2 (gc 1 ((decide (i_14<((p1_.length:Nat):Int)))&&(decide (i_14<12))) (sE (g:=((decide (i_14<((p1_.length:Nat):Int)))&&(decide (i_14<12)))) (λ hg=>AM Am p0_.Rules) (gc 1 ((decide (i_14<((p1_.length:Nat):Int)))&&(decide (i_14<12))) (pA (en (cn H (λ H=>?_) (λ H=>?_))))))))))))))
 ·refine sk (qz (sj (λ (x:(List UInt8))=>Jh3 p0_ p1_ i_14 x) (λ (x:(List UInt8))=>D6 n i_14 x) z ?_ (λ hFR2_Spelled_J1=>?_)))
  ·intro out_7 H
   exact rz (ck 3 (ae (by cases H;exact og (sg [1,2,5,6]))))
  refine bk 1 (sr (ck 4 (bx H λ x93 h293 H=>sp (Au eU8 h293) (ck 4 (sp (AM Am p0_.Rules) (bx H λ gd12 h294 H=>so (Qn h294) (bx H λ x94 h295 H=>sp (Au Am h295) (ck 3 (en (sr (ck 6 (en (cn H (λ H=>?_) (λ H=>?_))))))))))))))
  ·exact rz (ck 2 (bx H λ s6 h296 H=>sp (ZJ h296) (ck 1 (ae (qN (qs (sg [1,2,5,6]) (hFR2_Spelled_J1 s6 H)))))))
  ·exact sk (qN (qs (sg [1,2,5,6]) (hFR2_Spelled_J1 out_5 H)))
 ·exact ex 0 (qx (by cases H;exact xo rfl (sg [5])))
theorem QT {z} (H:HP n p0_ p1_=some z):AG Try.prog 7 [.agg (Aq p0_),.d (.sl (p1_.map eU8))] (.d (.str z)):=by
 exact fO 48 (Jh0 p0_ p1_) Try.func7 (sr (ck 2 (en (sr (ck 1 (en (sq (sr (ck 1 (en (bk 0 (bx H λ y73 h297 H=>lX MS h297 (sg [1,2,5,6]) rfl λ s hE57=>qH (qs (hE57) (sr (ck 2 (en (re (by cases H;exact pr rd))))))))))))))))))
end
def JfY:St:=⟨[],[]⟩
theorem MT {z} (H:NH n=some z):AG Try.prog 25 [] (.agg [.d (.int .i64 z.Mode),.d (.int .i64 z.Last),.d (.int .u8 z.Need)]):=by
 exact fO 2 JfY Try.func25 (sr (ck 1 (en (sr (ck 2 (en (re (by cases H;exact pr rd))))))))
section
variable (p0_:Int) (p1_:Int)
def JfZ:St:=⟨(0,.d (.int .u8 p0_))::(1,.d (.int .i64 p1_))::[],[]⟩
variable {p0_ p1_}
theorem Hq {z} (H:HQ n p0_ p1_=some z):AG Try.prog 48 [.d (.int .u8 p0_),.d (.int .i64 p1_)] (.d (.bool z)):=by
 exact fO 18 (JfZ p0_ p1_) Try.func48 (sr (ck 1 (en (sr (ck 4 (gc 1 (decide (p1_>=0)) (pA (ck 3 (bx H λ gd13 h298 H=>soG (λ hg=>Hc (Ce h298 hg)) (Db (λ hh=>hh) (Db (λ hh=>hh) (GE))) (gc 2 ((decide (p1_>=0))&&(decide (p1_<8))) (pA (ck 1 (en (re (by cases H;exact pr rd)))))))))))))))
end
section
variable (p0_:Int)
def Jf0:St:=⟨(0,.d (.int .u8 p0_))::[],[]⟩
variable {p0_}
theorem JA {z} (H:G5 n p0_=some z):AG Try.prog 47 [.d (.int .u8 p0_)] (.d (.int .i64 z)):=by
 refine fO 26 (Jf0 p0_) Try.func47 (sr (ck 1 (en (sr (ck 3 (en (sq (sr (ck 4 (gc 1 (decide (Cm .u8 p0_ 127>=97)) (pA (en (cn H (λ H=>?_) (λ H=>?_))))))))))))))
 ·exact sr (ck 1 (en (re (qr (by cases H;exact pr rd)))))
 ·refine sk (qz (sq (sr (ck 4 (gc 1 (decide (Cm .u8 p0_ 127>=65)) (pA (en (cn H (λ H=>?_) (λ H=>?_)))))))))
  ·exact sr (ck 1 (en (re (qr (by cases H;exact pr rd)))))
  ·refine sk (qz (sq (sr (ck 4 (gc 1 (decide (Cm .u8 p0_ 127>=48)) (pA (en (cn H (λ H=>?_) (λ H=>?_)))))))))
   ·exact sr (ck 1 (en (re (qr (by cases H;exact pr rd)))))
   ·refine sk (qz (sq (sr (ck 2 (en (cn H (λ H=>?_) (λ H=>?_)))))))
    ·exact sr (ck 1 (en (re (qr (by cases H;exact pr rd)))))
    ·exact sk (qz (sr (ck 1 (en (re (by cases H;exact pr rd))))))
end
section
variable (p0_:Ac) (p1_:Aa) (p2_:Int)
def Jf1:St:=⟨(0,.agg [.d (.int .i64 p0_.Modes),.d (.int .u8 p0_.Accept),.d (.sl (p0_.Rules.map Am))])::(1,.agg [.d (.int .i64 p1_.Mode),.d (.int .i64 p1_.Last),.d (.int .u8 p1_.Need)])::(2,.d (.int .i64 p2_))::[],[]⟩
variable {p0_ p1_ p2_}
theorem H1 {z} (H:Hi n p0_ p1_ p2_=some z):AG Try.prog 28 [.agg (Aq p0_),.agg (KF p1_),.d (.int .i64 p2_)] (.tup [.agg [.d (.int .i64 z.1.Mode),.d (.int .i64 z.1.Last),.d (.int .u8 z.1.Need)],.d (.bool z.2)]):=by
 refine fO 87 (Jf1 p0_ p1_ p2_) Try.func28 (sr (ck 4 (en (sq (sr (ck 5 (gc 1 (!(decide (p2_<0))) (sE (g:=(!(decide (p2_<0)))) (λ hg=>AM Am p0_.Rules) (gc 1 (!(decide (p2_<0))) (pO (en (cn H (λ H=>?_) (λ H=>?_)))))))))))))
 ·exact sr (ck 3 (en (re (qr (by cases H;exact pr rdT)))))
 ·refine sk (qz (sr (ck 3 (bx H λ x95 h299 H=>sp (Au Am h299) (ck 3 (en (sq (sr (ck 7 (gc 1 (!(x95.From != p1_.Mode)) (ck 1 (gc 1 (!(x95.From != p1_.Mode)) (bx H λ r105 h300 H=>cG false (leZ) rfl (λ hg=>Hq (Ce h300 hg)) (Or.inl rfl) (Db (λ hh=>hh) (Db (λ hh=>hh) (GE))) rfl (gc 1 (!(x95.From != p1_.Mode)) (pO (en (cn H (λ H=>?_) (λ H=>?_))))))))))))))))))
  ·exact sr (ck 3 (en (re (qr (by cases H;exact pr rdT)))))
  ·refine sk (qz (sq (sr (ck 6 (gc 1 (((x95.Print.length:Nat):Int)==0) (ck 1 (gc 3 (((x95.Print.length:Nat):Int)==0) (pA (en (cn H (λ H=>?_) (λ H=>?_)))))))))))
   ·exact sr (ck 3 (en (re (qr (by cases H;exact pr rdT)))))
   ·refine sk (qz (sq (sr (ck 4 (en (cn H (λ H=>?_) (λ H=>?_)))))))
    ·exact sr (ck 12 (en (re (qr (by cases H;exact pr rdT)))))
    ·refine sk (qz (sq (sr (ck 4 (bx H λ b8 h301 H=>sp (Gj h301) (bx H λ r106 h302 H=>ca false (JA h302) (bx H λ r107 h303 H=>ca false (Hq h303) (ck 1 (en (cn H (λ H=>?_) (λ H=>?_)))))))))))
     ·exact sr (ck 3 (en (re (qr (by cases H;exact pr rdT)))))
     ·exact sk (qz (sr (ck 8 (bx H λ b9 h304 H=>sp (Gj h304) (bx H λ r108 h305 H=>ca false (JA h305) (ck 5 (en (re (by cases H;exact pr rdT)))))))))
end
section
variable (p0_:(List Aa)) (p1_:Aa) (i_15:Int)
def Jf2:St:=⟨(0,.d (.sl (p0_.map Ak)))::(1,.agg [.d (.int .i64 p1_.Mode),.d (.int .i64 p1_.Last),.d (.int .u8 p1_.Need)])::[],[]⟩
def Jf3:St:=⟨(0,.d (.sl (p0_.map Ak)))::(3,.ptr 0 0)::(5,.d (.int .i64 i_15))::[],[some (.box (KF p1_))]⟩
def Jf4:St:=⟨[],[]⟩
def QU:(Unit⊕Int)->Ex->St->Prop:=xS (xX 0 0 (λ (y:Unit)=>Jf4)) (xR ty Try.f26 (λ (y:Int)=>.d (.int .i64 y)))
def KQ:Int->St:=(λ (x:Int)=>Jf3 p0_ p1_ x)
variable {p0_ p1_ i_15}
theorem J6 (x:Int) (z:(Int⊕(Unit⊕Int))) (H:Dt n p0_ p1_ x=some z):WP (cxk 19 0) (AH Try.f26) [1,0,1,0,0] (AJ 0 (KQ p0_ p1_) (QU) z) (KQ p0_ p1_ x):=by
 revert H
 generalize x=i_15
 intro H
 refine sq (sr (ck 2 (sp (AM Ak p0_) (ck 1 (en (cn H (λ H=>?_) (λ H=>?_)))))))
 ·refine sk (qz (sq (bk 1 (sr (ck 2 (bx H λ x96 h306 H=>sp (Au Ak h306) (ck 3 (en (cn H (λ H=>?_) (λ H=>?_))))))))))
  ·exact sr (ck 2 (en (re (qR (qr (by cases H;exact ro rfl rd))))))
  ·exact sk (qN (qz (rz (ck 3 (ae (by cases H;exact og (sg [0,3,5])))))))
 ·exact ex 0 (qx (by cases H;exact xo rfl (sg [])))
theorem En {z} (H:Fi n p0_ p1_=some z):AG Try.prog 26 [.d (.sl (p0_.map Ak)),.agg (KF p1_)] (.d (.int .i64 z)):=by
 refine fO 19 (Jf2 p0_ p1_) Try.func26 (sr (ck 2 (en (sq (sr (ck 1 (en (bk 0 (bx H λ y74 h307 H=>?_)))))))))
 rcases y74 with y75|y76
 ·exact lX J6 h307 (sg [0,3,5]) rfl λ s hE58=>qH (qs (hE58) (sr (ck 1 (en (re (by cases H;exact pr rd))))))
 ·exact lR J6 h307 (sg [0,3,5]) rfl λ s hE59=>qR (qr (by cases H;exact pr hE59))
end
section
variable (p0_:Ac) (out_8:(List Aa)) (i_16:Int) (out_9:(List Aa)) (out_10:(List Aa)) (k_3:Int) (out_11:(List Aa)) (out_12:(List Aa))
def Jf5:St:=⟨(0,.agg [.d (.int .i64 p0_.Modes),.d (.int .u8 p0_.Accept),.d (.sl (p0_.Rules.map Am))])::[],[]⟩
def Jf6:St:=⟨(1,.ptr 0 0)::(3,.osl 1 3 0 (out_8.length))::(4,.d (.int .i64 i_16))::[],[some (.box (Aq p0_)),some (.arr 3 (out_8.map Ak))]⟩
def Jf7:St:=⟨(3,.osl 0 3 0 (out_9.length))::[],[some (.arr 3 (out_9.map Ak))]⟩
def Jf8:St:=⟨(1,.ptr 0 0)::(3,.osl 1 3 0 (out_10.length))::(4,.d (.int .i64 i_16))::(5,.d (.int .i64 k_3))::[],[some (.box (Aq p0_)),some (.arr 3 (out_10.map Ak))]⟩
def Jf9:St:=⟨(1,.ptr 0 0)::(3,.osl 1 3 0 (out_11.length))::(4,.d (.int .i64 i_16))::[],[some (.box (Aq p0_)),some (.arr 3 (out_11.map Ak))]⟩
def Jga:St:=⟨(1,.ptr 0 0)::(3,.osl 1 3 0 (out_12.length))::(4,.d (.int .i64 i_16))::(5,.d (.int .i64 k_3))::[],[some (.box (Aq p0_)),some (.arr 3 (out_12.map Ak))]⟩
def O5:(List Aa)->Ex->St->Prop:=xX 0 2 (λ (y:(List Aa))=>Jf9 p0_ i_16 y)
def J7:((List Aa)×Int)->St:=(λ (x:((List Aa)×Int))=>Jf8 p0_ i_16 x.1 x.2)
def O6:(List Aa)->Ex->St->Prop:=xX 0 0 (λ (y:(List Aa))=>Jf7 y)
def J8:((List Aa)×Int)->St:=(λ (x:((List Aa)×Int))=>Jf6 p0_ x.1 x.2)
variable {p0_ out_8 i_16 out_9 out_10 k_3 out_11 out_12}
theorem NU (x:((List Aa)×Int)) (z:(((List Aa)×Int)⊕(List Aa))) (H:DK n p0_ i_16 x.1 x.2=some z):WP (cxk 45 0) (AH Try.f24) [1,1,0,1,0,0,1,0,0,1,0,0] (AJ 0 (J7 p0_ i_16) (O5 p0_ i_16) z) (J7 p0_ i_16 x):=by
 obtain ⟨out_10,k_3⟩:=x
 refine sq (sr (ck 3 (sp (AM Am p0_.Rules) (ck 1 (en (cn H (λ H=>?_) (λ H=>?_)))))))
 ·refine sk (qz (sj (λ (x:(List Aa))=>Jga p0_ i_16 k_3 x) (λ (x:(List Aa))=>EG n k_3 x) z ?_ (λ hFR3_States_J1=>?_)))
  ·intro out_12 H
   exact rz (ck 3 (ae (by cases H;exact og (sg [1,3,4,5]))))
  refine bk 3 (sr (ck 3 (bx H λ x97 h309 H=>sp (AC 1 3 h309) (sp (CC Ak 1 0 (ty 80) h309) (ck 1 (bx H λ r110 h310 H=>ca false (H1 h310) (ck 6 (en (sr (ck 4 (bx H λ r111 h311 H=>cG (ks:=[1]) (obl:=[(0+List.length out_10,List.length (out_10.map Ak))]) false (leK leM (leZ)) (E6 Zx (E6 rfl rfl)) (λ hg=>En (Ce h311 hg)) (Or.inr trivial) (Db (λ hh=>hh) (Db (λ hh=>hh) (GE))) rfl (gc 1 r110.2 (pA (en (cn H (λ H=>?_) (λ H=>?_))))))))))))))))
  ·exact rz (ck 3 (bx H λ l33 h312 H=>sp (CD Ak 1 3 h312) (ck 1 (ae (qN (qs (sg [1,3,4,5]) (hFR3_States_J1 l33 H)))))))
  ·exact sk (qN (qs (sg [1,3,4,5]) (hFR3_States_J1 out_10 H)))
 ·exact ex 2 (qx (by cases H;exact xo rfl (sg [1,3,4])))
theorem NV (x:((List Aa)×Int)) (z:(((List Aa)×Int)⊕(List Aa))) (H:EH n p0_ x.1 x.2=some z):WP (cxk 45 0) (AH Try.f24) [1,1,0,1,0,0] (AJ 0 (J8 p0_) (O6) z) (J8 p0_ x):=by
 obtain ⟨out_8,i_16⟩:=x
 refine sq (sr (ck 4 (en (cn H (λ H=>?_) (λ H=>?_)))))
 ·exact sk (qz (sq (bk 1 (sr (ck 1 (en (bk 2 (bx H λ y77 h313 H=>lX NU h313 (sg [1,3,4,5]) rfl λ s hE60=>qH (qN (qs (hE60) (rz (ck 3 (ae (by cases H;exact og (sg [1,3,4])))))))))))))))
 ·exact ex 0 (qx (by cases H;exact xo rfl (sg [3])))
theorem Ij {z} (H:Ga n p0_=some z):AG Try.prog 24 [.agg (Aq p0_)] (.own 3 (z.map Ak)):=by
 exact fO 45 (Jf5 p0_) Try.func24 (sr (ck 2 (en (sr (bx H λ r109 h308 H=>ca false (MT h308) (ck 2 (en (sq (sr (ck 1 (en (bk 0 (bx H λ y78 h314 H=>lX NV h314 (sg [1,3,4]) rfl λ s hE61=>qH (qs (hE61) (sr (ck 2 (en (re (by cases H;exact pr (rO (v:=.osl 0 3 0 (z.length)) [0] (ao vo)))))))))))))))))))))
end
section
variable (p0_:Ac) (p1_:Aa)
def Jgb:St:=⟨(0,.agg [.d (.int .i64 p0_.Modes),.d (.int .u8 p0_.Accept),.d (.sl (p0_.Rules.map Am))])::(1,.agg [.d (.int .i64 p1_.Mode),.d (.int .i64 p1_.Last),.d (.int .u8 p1_.Need)])::[],[]⟩
variable {p0_ p1_}
theorem QV {z} (H:HR n p0_ p1_=some z):AG Try.prog 43 [.agg (Aq p0_),.agg (KF p1_)] (.d (.bool z)):=by
 exact fO 27 (Jgb p0_ p1_) Try.func43 (sr (ck 3 (en (sr (ck 5 (gc 1 (decide (p1_.Mode>=0)) (ck 1 (gc 2 (decide (p1_.Mode>=0)) (pA (ck 2 (gc 1 ((decide (p1_.Mode>=0))&&(decide (p1_.Mode<p0_.Modes))) (ck 1 (gc 1 ((decide (p1_.Mode>=0))&&(decide (p1_.Mode<p0_.Modes))) (bx H λ r112 h315 H=>cG false (leZ) rfl (λ hg=>Hq (Ce h315 hg)) (Or.inl rfl) (Db (λ hh=>hh) (Db (λ hh=>hh) (GE))) rfl (pA (ck 2 (gc 1 (((decide (p1_.Mode>=0))&&(decide (p1_.Mode<p0_.Modes)))&&r112) (bx H λ r113 h316 H=>cG false (leZ) rfl (λ hg=>Hq (Ce h316 hg)) (Or.inl rfl) (Db (λ hh=>hh) (GE)) rfl (pA (ck 1 (en (re (by cases H;exact pr rd)))))))))))))))))))))))
end
section
variable (p0_:(List UInt8)) (p1_:Int) (p2_:(List UInt8))
def Jgc:St:=⟨(0,.d (.str p0_))::(1,.d (.int .i64 p1_))::(2,.d (.str p2_))::[],[]⟩
variable {p0_ p1_ p2_}
theorem LI {z} (H:Hj n p0_ p1_ p2_=some z):AG Try.prog 46 [.d (.str p0_),.d (.int .i64 p1_),.d (.str p2_)] (.d (.bool z)):=by
 exact fO 25 (Jgc p0_ p1_ p2_) Try.func46 (sr (ck 1 (en (sr (ck 12 (gc 2 (decide (Az .i64 p1_ ((p2_.length:Nat):Int)<=((p0_.length:Nat):Int))) (bx H λ s7 h317 H=>sE (λ hg=>Po (Ce h317 hg)) (ck 1 (gc 1 (decide (Az .i64 p1_ ((p2_.length:Nat):Int)<=((p0_.length:Nat):Int))) (pA (ck 1 (en (re (by cases H;exact pr rd))))))))))))))
end
section
variable (p0_:Ac) (p1_:AO) (p2_:Int) (p3_:(List (List Int)))
def Jgd:St:=⟨(0,.agg [.d (.int .i64 p0_.Modes),.d (.int .u8 p0_.Accept),.d (.sl (p0_.Rules.map Am))])::(1,.agg [.d (.str p1_.S),.d (.int .i64 p1_.I),.d (.int .i64 p1_.State.Mode),.d (.int .i64 p1_.State.Last),.d (.int .u8 p1_.State.Need),.d (.sl (p1_.L.map Ak))])::(2,.d (.int .i64 p2_))::(3,.d (.sl (p3_.map (eL Ag))))::[],[]⟩
variable {p0_ p1_ p2_ p3_}
theorem MU {z} (H:Gb n p0_ p1_ p2_ p3_=some z):AG Try.prog 27 [.agg (Aq p0_),.agg (DZ p1_),.d (.int .i64 p2_),.d (.sl (p3_.map (eL Ag)))] (.d (.int .i64 z)):=by
 refine fO 66 (Jgd p0_ p1_ p2_ p3_) Try.func27 (sr (ck 3 (en (sr (ck 4 (bx H λ r114 h318 H=>ca false (H1 h318) (ck 6 (en (sq (sr (ck 4 (gc 1 (!(!r114.2)) (ck 1 (gc 1 (!(!r114.2)) (ck 1 (gc 1 (!(!r114.2)) (ck 1 (bx H λ x98 h319 H=>sE (λ hg=>Au Am (Ce h319 hg)) (gc 2 (!(!r114.2)) (bx H λ r115 h320 H=>cG false (leZ) rfl (λ hg=>LI (Ce h320 hg)) (Or.inl rfl) (Db (λ hh=>hh) (Db (λ hh=>hh) (Db (λ hh=>hh) (GE)))) rfl (gc 1 (!(!r114.2)) (pO (en (cn H (λ H=>?_) (λ H=>?_)))))))))))))))))))))))))
 ·exact sr (ck 1 (en (re (qr (by cases H;exact pr rd)))))
 ·refine sk (qz (sr (ck 6 (bx H λ x99 h321 H=>sp (Au Am h321) (ck 4 (bx H λ x100 h322 H=>sp (Au (eL Ag) h322) (ck 4 (bx H λ r116 h323 H=>ca false (En h323) (bx H λ x101 h324 H=>sp (Au Ag h324) (ck 2 (en (sq (sr (ck 2 (en (cn H (λ H=>?_) (λ H=>?_)))))))))))))))))
  ·exact sr (ck 1 (en (re (qr (by cases H;exact pr rd)))))
  ·exact sk (qz (sr (ck 4 (bx H λ x102 h325 H=>sp (Au Am h325) (ck 2 (sp (AM eU8 x102.Cells) (ck 2 (en (re (by cases H;exact pr rd))))))))))
end
section
variable (p0_:Int) (p1_:Int)
def Jge:St:=⟨(0,.d (.int .i64 p0_))::(1,.d (.int .i64 p1_))::[],[]⟩
variable {p0_ p1_}
theorem Tr {z} (H:La n p0_ p1_=some z):AG Try.prog 45 [.d (.int .i64 p0_),.d (.int .i64 p1_)] (.d (.int .i64 z)):=by
 refine fO 18 (Jge p0_ p1_) Try.func45 (sr (ck 1 (en (sq (sr (ck 4 (gc 2 (!(decide (p0_<0))) (ck 2 (gc 1 ((!(decide (p0_<0)))&&(decide (p1_>=0))) (pG (g:=(!(decide (p0_<0)))) (v:=.d (.bool ((decide (p1_>=0))&&(decide (p1_<p0_))))) (λ hg=>K5 (c:=.gv (!(decide (p0_<0))) (.d (.bool (decide (p1_>=0))))) (a:=.gv ((!(decide (p0_<0)))&&(decide (p1_>=0))) (.d (.bool (decide (p1_<p0_))))) (b:=.d (.bool false)) rfl rfl rfl ((λ hh=>hh) hg) (λ ht=>by rw [(λ hh=>hh) hg,ht];rfl) trivial) (pO (en (cn H (λ H=>?_) (λ H=>?_))))))))))))))
 ·exact sr (ck 2 (en (re (qr (by cases H;exact pr rd)))))
 ·exact sk (qz (sr (ck 2 (en (re (by cases H;exact pr rd))))))
end
section
variable (p0_:Ac) (p1_:(List UInt8)) (r117:(List Aa)) (out_13:(List (List Int))) (i_17:Int) (out_14:(List (List Int))) (out_15:(List (List Int))) (k_4:Int) (out_16:(List (List Int))) (out_17:(List (List Int))) (out_18:(List (List Int))) (changed_1:Bool) (out_19:(List (List Int))) (out_20:(List (List Int))) (changed_2:Bool) (k_5:Int) (out_21:(List (List Int))) (changed_3:Bool) (out_22:(List (List Int))) (changed_4:Bool) (r_3:Int) (out_23:(List (List Int))) (changed_5:Bool) (out_24:(List (List Int))) (changed_6:Bool)
def Jgf:St:=⟨(0,.agg [.d (.int .i64 p0_.Modes),.d (.int .u8 p0_.Accept),.d (.sl (p0_.Rules.map Am))])::(1,.d (.str p1_))::[],[]⟩
def Jgg:St:=⟨(1,.d (.str p1_))::(2,.ptr 0 0)::(5,.d (.sl (r117.map Ak)))::(6,.osl 1 1 0 (out_13.length))::(7,.d (.int .i64 i_17))::[],[some (.box (Aq p0_)),some (.narr 1 (out_13.map (nL 1 Ag)))]⟩
def Jgh:St:=⟨(6,.osl 0 1 0 (out_14.length))::[],[some (.narr 1 (out_14.map (nL 1 Ag)))]⟩
def Jgi:St:=⟨(1,.d (.str p1_))::(2,.ptr 0 0)::(5,.d (.sl (r117.map Ak)))::(6,.osl 1 1 0 (out_15.length))::(7,.d (.int .i64 i_17))::(8,.d (.int .i64 k_4))::[],[some (.box (Aq p0_)),some (.narr 1 (out_15.map (nL 1 Ag)))]⟩
def Jgj:St:=⟨(1,.d (.str p1_))::(2,.ptr 0 0)::(5,.d (.sl (r117.map Ak)))::(6,.osl 1 1 0 (out_16.length))::(7,.d (.int .i64 i_17))::[],[some (.box (Aq p0_)),some (.narr 1 (out_16.map (nL 1 Ag)))]⟩
def Jgk:St:=⟨(1,.d (.str p1_))::(2,.ptr 0 0)::(5,.d (.sl (r117.map Ak)))::(6,.osl 1 1 0 (out_17.length))::(7,.d (.int .i64 i_17))::(8,.d (.int .i64 k_4))::[],[some (.box (Aq p0_)),some (.narr 1 (out_17.map (nL 1 Ag)))]⟩
def MV:(List (List Int))->Ex->St->Prop:=xX 0 2 (λ (y:(List (List Int)))=>Jgj p0_ p1_ r117 i_17 y)
def H2:((List (List Int))×Int)->St:=(λ (x:((List (List Int))×Int))=>Jgi p0_ p1_ r117 i_17 x.1 x.2)
def Jgl:St:=⟨(1,.d (.str p1_))::(2,.ptr 0 0)::(5,.d (.sl (r117.map Ak)))::(6,.osl 1 1 0 (out_18.length))::(7,.d (.int .i64 i_17))::(9,.d (.bool changed_1))::[],[some (.box (Aq p0_)),some (.narr 1 (out_18.map (nL 1 Ag)))]⟩
def Jgm:St:=⟨(1,.d (.str p1_))::(2,.ptr 0 0)::(5,.d (.sl (r117.map Ak)))::(6,.osl 1 1 0 (out_19.length))::(7,.d (.int .i64 i_17))::[],[some (.box (Aq p0_)),some (.narr 1 (out_19.map (nL 1 Ag)))]⟩
def Jgn:St:=⟨(1,.d (.str p1_))::(2,.ptr 0 0)::(5,.d (.sl (r117.map Ak)))::(6,.osl 1 1 0 (out_20.length))::(7,.d (.int .i64 i_17))::(9,.d (.bool changed_2))::(10,.d (.int .i64 k_5))::[],[some (.box (Aq p0_)),some (.narr 1 (out_20.map (nL 1 Ag)))]⟩
def JcE:St:=⟨(1,.d (.str p1_))::(2,.ptr 0 0)::(5,.d (.sl (r117.map Ak)))::(6,.osl 1 1 0 (out_21.length))::(7,.d (.int .i64 i_17))::(9,.d (.bool changed_3))::[],[some (.box (Aq p0_)),some (.narr 1 (out_21.map (nL 1 Ag)))]⟩
def JcF:St:=⟨(1,.d (.str p1_))::(2,.ptr 0 0)::(5,.d (.sl (r117.map Ak)))::(6,.osl 1 1 0 (out_22.length))::(7,.d (.int .i64 i_17))::(9,.d (.bool changed_4))::(10,.d (.int .i64 k_5))::(11,.d (.int .i64 r_3))::[],[some (.box (Aq p0_)),some (.narr 1 (out_22.map (nL 1 Ag)))]⟩
def JcG:St:=⟨(1,.d (.str p1_))::(2,.ptr 0 0)::(5,.d (.sl (r117.map Ak)))::(6,.osl 1 1 0 (out_23.length))::(7,.d (.int .i64 i_17))::(9,.d (.bool changed_5))::(10,.d (.int .i64 k_5))::[],[some (.box (Aq p0_)),some (.narr 1 (out_23.map (nL 1 Ag)))]⟩
def JcH:St:=⟨(1,.d (.str p1_))::(2,.ptr 0 0)::(5,.d (.sl (r117.map Ak)))::(6,.osl 1 1 0 (out_24.length))::(7,.d (.int .i64 i_17))::(9,.d (.bool changed_6))::(10,.d (.int .i64 k_5))::(11,.d (.int .i64 r_3))::[],[some (.box (Aq p0_)),some (.narr 1 (out_24.map (nL 1 Ag)))]⟩
def MW:((List (List Int))×Bool)->Ex->St->Prop:=xX 0 8 (λ (y:((List (List Int))×Bool))=>JcG p0_ p1_ r117 i_17 k_5 y.1 y.2)
def H3:((List (List Int))×Bool×Int)->St:=(λ (x:((List (List Int))×Bool×Int))=>JcF p0_ p1_ r117 i_17 k_5 x.1 x.2.1 x.2.2)
def MX:((List (List Int))×Bool)->Ex->St->Prop:=xX 0 6 (λ (y:((List (List Int))×Bool))=>JcE p0_ p1_ r117 i_17 y.1 y.2)
def H4:((List (List Int))×Bool×Int)->St:=(λ (x:((List (List Int))×Bool×Int))=>Jgn p0_ p1_ r117 i_17 x.1 x.2.1 x.2.2)
def MY:(List (List Int))->Ex->St->Prop:=xX 0 4 (λ (y:(List (List Int)))=>Jgm p0_ p1_ r117 i_17 y)
def H5:((List (List Int))×Bool)->St:=(λ (x:((List (List Int))×Bool))=>Jgl p0_ p1_ r117 i_17 x.1 x.2)
def MZ:(List (List Int))->Ex->St->Prop:=xX 0 0 (λ (y:(List (List Int)))=>Jgh y)
def H6:((List (List Int))×Int)->St:=(λ (x:((List (List Int))×Int))=>Jgg p0_ p1_ r117 x.1 x.2)
variable {p0_ p1_ r117 out_13 i_17 out_14 out_15 k_4 out_16 out_17 out_18 changed_1 out_19 out_20 changed_2 k_5 out_21 changed_3 out_22 changed_4 r_3 out_23 changed_5 out_24 changed_6}
theorem L4 (x:((List (List Int))×Int)) (z:(((List (List Int))×Int)⊕(List (List Int)))) (H:CZ n p0_ p1_ r117 i_17 x.1 x.2=some z):WP (cxk 116 0) (AH Try.f22) [1,1,1,0,1,0,0,1,0,0,1,0,1,0,0] (AJ 0 (H2 p0_ p1_ r117 i_17) (MV p0_ p1_ r117 i_17) z) (H2 p0_ p1_ r117 i_17 x):=by
 obtain ⟨out_15,k_4⟩:=x
 refine sq (sr (ck 2 (sp (AM Ak r117) (ck 1 (en (cn H (λ H=>?_) (λ H=>?_)))))))
 ·refine sk (qz (sj (λ (x:(List (List Int)))=>Jgk p0_ p1_ r117 i_17 k_4 x) (λ (x:(List (List Int)))=>Dy n k_4 x) z ?_ (λ hFR6_Suffixes_J1=>?_)))
  ·intro out_17 H
   exact rz (ck 3 (ae (by cases H;exact og (gP [1,2,5,6,7,8] [0,1] (po1 (pn1 (nL 1 Ag) out_17 (Pl.z)))))))
  refine bk 3 (sq (bx H λ x104 h330 H=>rg (tr (so1 (encN:=(nL 1 Ag)) 1 1 h330) (sno (encN:=(nL 1 Ag)) (enc:=Ag) h330 [.own 1 (x104.map Ag)] x104 1 1 0 1)) (ck 2 (sp (AC 1 1 h330) (sp (B6 (encN:=(nL 1 Ag)) (row:=[.osl 2 1 0 (x104.length)]) (k:=1) (sz:=1) (off:=0) (t:=ty 40) (v:=.osl 2 1 0 (x104.length)) h330) (ck 1 (bx H λ x105 h331 H=>sp (AC 2 1 h331) (bx H λ l36 h332 H=>stA Ag 2 0 (ty 3) h331 h332 (en (sq (rg (tr (tr (tr (tr (tr (sn 40 2 1 (BX h332)) (snr (encN:=(nL 1 Ag)) (xs:=out_15) (n:=i_17) [.osl 2 1 0 (x104.length)] 1 1 0 2 1 (BX h332))) (sni (encN:=(nL 1 Ag)) (xs:=out_15) (n:=i_17) (enc:=Ag) [.osl 2 1 0 (l36.length)] l36 1 1 0 2 1)) (scl (encN:=(nL 1 Ag)) (xss:=out_15) i_17 [.own 1 (l36.map Ag)] 1 1 l36)) (sn 6 1 1 (lsS out_15 i_17.toNat l36))) (sn 37 1 1 (lsS out_15 i_17.toNat l36))) (ck 8 (bx H λ x106 h333 H=>sE (λ hg=>Au Ak (Ce h333 hg)) (gc 1 (i_17==((p1_.length:Nat):Int)) (bx H λ r118 h334 H=>cG false (leZ) rfl (λ hg=>QV (Ce h334 hg)) (Or.inl rfl) (Db (λ hh=>hh) (Db (λ hh=>hh) (GE))) rfl (pA (en (cn H (λ H=>?_) (λ H=>?_)))))))))))))))))))
  ·exact bx H λ x107 h335 H=>rg (tr (so1 (encN:=(nL 1 Ag)) 1 1 h335) (sno (encN:=(nL 1 Ag)) (enc:=Ag) h335 [.own 1 (x107.map Ag)] x107 1 1 0 1)) (ck 2 (sp (AC 1 1 h335) (sp (B6 (encN:=(nL 1 Ag)) (row:=[.osl 3 1 0 (x107.length)]) (k:=1) (sz:=1) (off:=0) (t:=ty 40) (v:=.osl 3 1 0 (x107.length)) h335) (ck 1 (bx H λ x108 h336 H=>sp (AC 3 1 h336) (bx H λ l37 h337 H=>stA Ag 3 0 (ty 3) h336 h337 (ae (qN (qs (tr (tr (tr (tr (tr (tr (tr (sn 58 3 1 (BX h337)) (snr (encN:=(nL 1 Ag)) (xs:=List.set out_15 i_17.toNat l36) (n:=i_17) [.osl 3 1 0 (x107.length)] 1 1 0 3 1 (BX h337))) (sni (encN:=(nL 1 Ag)) (xs:=List.set out_15 i_17.toNat l36) (n:=i_17) (enc:=Ag) [.osl 3 1 0 (l37.length)] l37 1 1 0 3 1)) (scl (encN:=(nL 1 Ag)) (xss:=List.set out_15 i_17.toNat l36) i_17 [.own 1 (l37.map Ag)] 1 1 l37)) (sn 6 1 1 (lsS (List.set out_15 i_17.toNat l36) i_17.toNat l37))) (sn 37 1 1 (lsS (List.set out_15 i_17.toNat l36) i_17.toNat l37))) (sn 55 1 1 (lsS (List.set out_15 i_17.toNat l36) i_17.toNat l37))) (gP [1,2,5,6,7,8] [0,1] (po1 (pn1 (nL 1 Ag) (List.set (List.set out_15 i_17.toNat l36) i_17.toNat l37) (Pl.z))))) (hFR6_Suffixes_J1 (List.set (List.set out_15 i_17.toNat l36) i_17.toNat l37) H))))))))))
  ·exact sk (qN (qs (gP [1,2,5,6,7,8] [0,1] (po1 (pn1 (nL 1 Ag) (List.set out_15 i_17.toNat l36) (Pl.z)))) (hFR6_Suffixes_J1 (List.set out_15 i_17.toNat l36) H)))
 ·exact ex 2 (qx (by cases H;exact xo rfl (gP [1,2,5,6,7] [0,1] (po1 (pn1 (nL 1 Ag) out_15 (Pl.z))))))
theorem L5 (x:((List (List Int))×Bool×Int)) (z:(((List (List Int))×Bool×Int)⊕((List (List Int))×Bool))) (H:C0 n p0_ p1_ r117 i_17 k_5 x.1 x.2.1 x.2.2=some z):WP (cxk 116 0) (AH Try.f22) [1,1,1,0,1,0,0,1,0,0,1,1,1,0,0,1,0,1,1,0,0,1,0,0,1,0,0] (AJ 0 (H3 p0_ p1_ r117 i_17 k_5) (MW p0_ p1_ r117 i_17 k_5) z) (H3 p0_ p1_ r117 i_17 k_5 x):=by
 obtain ⟨out_22,changed_4,r_3⟩:=x
 refine sq (sr (ck 3 (sp (AM Am p0_.Rules) (ck 1 (en (cn H (λ H=>?_) (λ H=>?_)))))))
 ·refine sk (qz (sj (λ (x:((List (List Int))×Bool))=>JcH p0_ p1_ r117 i_17 k_5 r_3 x.1 x.2) (λ (x:((List (List Int))×Bool))=>Dz n r_3 x.1 x.2) z ?_ (λ hFR6_Suffixes_J2=>?_)))
  ·rintro ⟨out_24,changed_6⟩ H
   exact rz (ck 3 (ae (by cases H;exact og (gP [1,2,5,6,7,9,10,11] [0,1] (po1 (pn1 (nL 1 Ag) out_24 (Pl.z)))))))
  refine bk 9 (sr (ck 5 (bx H λ x109 h339 H=>sp (Au Ak h339) (ck 5 (bx H λ r119 h340 H=>cb (ks:=[1]) (obl:=[(0+List.length out_22,List.length (out_22.map (nL 1 Ag))),(Mg (out_22.map (nL 1 Ag)),0)]) false (leK leN (leK (Jcx λ _=>rfl) (leZ))) (E6 rfl (E6 rfl (E6 rfl (E6 (Jhb (encN:=(nL 1 Ag)) (encD:=(eL Ag)) λ _=>rfl) rfl)))) (MU h340) (Or.inr trivial) rfl (ck 1 (en (sq (rg (tr (so0 (encN:=(nL 1 Ag)) (xss:=out_22) 1 1 i_17 ([]:(List Int))) (snT (encN:=(nL 1 Ag)) (xss:=out_22) (n:=i_17) (d:=([]:(List Int))) (enc:=Ag) (λ x=>x) [.own 1 (List.map Ag (List.getD out_22 i_17.toNat []))] 1 1 0 1)) (ck 5 (bx H λ x110 h341 H=>sE (λ hg=>AC 1 1 (Ce h341 hg)) (sE (g:=decide (r119>=0)) (λ hg=>B6 (encN:=(nL 1 Ag)) (row:=[.osl 2 1 0 (List.length (List.getD out_22 i_17.toNat []))]) (k:=1) (sz:=1) (off:=0) (t:=ty 40) (v:=.osl 2 1 0 (List.length (List.getD out_22 i_17.toNat []))) (Ce h341 hg)) (ck 1 (bx H λ x111 h342 H=>sE (λ hg=>AC 2 1 (Ce h342 hg)) (sE (g:=decide (r119>=0)) (λ hg=>CC Ag 2 0 (ty 3) (Ce h342 hg)) (ck 1 (bx H λ r120 h343 H=>cG false (leZ) rfl (λ hg=>Tr (Ce h343 hg)) (Or.inl rfl) (Db (λ hh=>hh) (Db (λ hh=>hh) (GE))) rfl (ck 2 (bx H λ x112 h344 H=>sE (λ hg=>AC 1 1 (Ce h344 hg)) (sE (g:=decide (r119>=0)) (λ hg=>B6 (encN:=(nL 1 Ag)) (row:=[.osl 2 1 0 (List.length (List.getD out_22 i_17.toNat []))]) (k:=1) (sz:=1) (off:=0) (t:=ty 40) (v:=.osl 2 1 0 (List.length (List.getD out_22 i_17.toNat []))) (Ce h344 hg)) (ck 1 (bx H λ x113 h345 H=>sE (λ hg=>AC 2 1 (Ce h345 hg)) (sE (g:=decide (r119>=0)) (λ hg=>CC Ag 2 0 (ty 3) (Ce h345 hg)) (gc 1 (decide (r119>=0)) (pA (en (cn H (λ H=>?_) (λ H=>?_))))))))))))))))))))))))))))
  ·exact sq (bx H λ x114 h346 H=>rg (tr (tr (tr (tr (tr (sni (encN:=(nL 1 Ag)) (xs:=out_22) (n:=i_17) (enc:=Ag) [.osl 2 1 0 (List.length (List.getD out_22 i_17.toNat []))] (List.getD out_22 i_17.toNat []) 1 1 0 2 1) (scl (encN:=(nL 1 Ag)) (xss:=out_22) i_17 [.own 1 (List.map Ag (List.getD out_22 i_17.toNat []))] 1 1 (List.getD out_22 i_17.toNat []))) (sn 6 1 1 (lsS out_22 i_17.toNat (List.getD out_22 i_17.toNat [])))) (sn 85 1 1 (lsS out_22 i_17.toNat (List.getD out_22 i_17.toNat [])))) (so1 (encN:=(nL 1 Ag)) 1 1 h346)) (sno (encN:=(nL 1 Ag)) (enc:=Ag) h346 [.own 1 (x114.map Ag)] x114 1 1 0 1)) (ck 2 (sp (AC 1 1 h346) (sp (B6 (encN:=(nL 1 Ag)) (row:=[.osl 3 1 0 (x114.length)]) (k:=1) (sz:=1) (off:=0) (t:=ty 40) (v:=.osl 3 1 0 (x114.length)) h346) (ck 2 (bx H λ x115 h347 H=>sp (AC 3 1 h347) (bx H λ l38 h348 H=>stA Ag 3 0 (ty 3) h347 h348 (en (rg (tr (tr (tr (tr (tr (tr (sn 111 3 1 (BX h348)) (snr (encN:=(nL 1 Ag)) (xs:=List.set out_22 i_17.toNat (List.getD out_22 i_17.toNat [])) (n:=i_17) [.osl 3 1 0 (x114.length)] 1 1 0 3 1 (BX h348))) (sni (encN:=(nL 1 Ag)) (xs:=List.set out_22 i_17.toNat (List.getD out_22 i_17.toNat [])) (n:=i_17) (enc:=Ag) [.osl 3 1 0 (l38.length)] l38 1 1 0 3 1)) (scl (encN:=(nL 1 Ag)) (xss:=List.set out_22 i_17.toNat (List.getD out_22 i_17.toNat [])) i_17 [.own 1 (l38.map Ag)] 1 1 l38)) (sn 6 1 1 (lsS (List.set out_22 i_17.toNat (List.getD out_22 i_17.toNat [])) i_17.toNat l38))) (sn 85 1 1 (lsS (List.set out_22 i_17.toNat (List.getD out_22 i_17.toNat [])) i_17.toNat l38))) (sn 108 1 1 (lsS (List.set out_22 i_17.toNat (List.getD out_22 i_17.toNat [])) i_17.toNat l38))) (ck 1 (ae (qN (qs (gP [1,2,5,6,7,9,10,11] [0,1] (po1 (pn1 (nL 1 Ag) (List.set (List.set out_22 i_17.toNat (List.getD out_22 i_17.toNat [])) i_17.toNat l38) (Pl.z)))) (hFR6_Suffixes_J2 ((List.set (List.set out_22 i_17.toNat (List.getD out_22 i_17.toNat [])) i_17.toNat l38),true) H))))))))))))))
  ·exact sk (qN (qs (tr (tr (tr (tr (sni (encN:=(nL 1 Ag)) (xs:=out_22) (n:=i_17) (enc:=Ag) [.osl 2 1 0 (List.length (List.getD out_22 i_17.toNat []))] (List.getD out_22 i_17.toNat []) 1 1 0 2 1) (scl (encN:=(nL 1 Ag)) (xss:=out_22) i_17 [.own 1 (List.map Ag (List.getD out_22 i_17.toNat []))] 1 1 (List.getD out_22 i_17.toNat []))) (sn 6 1 1 (lsS out_22 i_17.toNat (List.getD out_22 i_17.toNat [])))) (sn 85 1 1 (lsS out_22 i_17.toNat (List.getD out_22 i_17.toNat [])))) (gP [1,2,5,6,7,9,10,11] [0,1] (po1 (pn1 (nL 1 Ag) (List.set out_22 i_17.toNat (List.getD out_22 i_17.toNat [])) (Pl.z))))) (hFR6_Suffixes_J2 ((List.set out_22 i_17.toNat (List.getD out_22 i_17.toNat [])),changed_4) H)))
 ·exact ex 8 (qx (by cases H;exact xo rfl (gP [1,2,5,6,7,9,10] [0,1] (po1 (pn1 (nL 1 Ag) out_22 (Pl.z))))))
theorem L6 (x:((List (List Int))×Bool×Int)) (z:(((List (List Int))×Bool×Int)⊕((List (List Int))×Bool))) (H:C1 n p0_ p1_ r117 i_17 x.1 x.2.1 x.2.2=some z):WP (cxk 116 0) (AH Try.f22) [1,1,1,0,1,0,0,1,0,0,1,1,1,0,0,1,0,1,1,0,0] (AJ 0 (H4 p0_ p1_ r117 i_17) (MX p0_ p1_ r117 i_17) z) (H4 p0_ p1_ r117 i_17 x):=by
 obtain ⟨out_20,changed_2,k_5⟩:=x
 refine sq (sr (ck 2 (sp (AM Ak r117) (ck 1 (en (cn H (λ H=>?_) (λ H=>?_)))))))
 ·exact sk (qz (sq (bk 7 (sr (ck 1 (en (bk 8 (bx H λ y80 h349 H=>lX L5 h349 (gP [1,2,5,6,7,9,10,11] [0,1] (po1 (pn1 (nL 1 Ag) out_20 (Pl.z)))) rfl λ s hE63=>qH (qN (qs (hE63) (rz (ck 3 (ae (by cases H;exact og (gP [1,2,5,6,7,9,10] [0,1] (po1 (pn1 (nL 1 Ag) y80.1 (Pl.z))))))))))))))))))
 ·exact ex 6 (qx (by cases H;exact xo rfl (gP [1,2,5,6,7,9] [0,1] (po1 (pn1 (nL 1 Ag) out_20 (Pl.z))))))
theorem L7 (x:((List (List Int))×Bool)) (z:(((List (List Int))×Bool)⊕(List (List Int)))) (H:DA n p0_ p1_ r117 i_17 x.1 x.2=some z):WP (cxk 116 0) (AH Try.f22) [1,1,1,0,1,0,0,1,0,0,1,1,1,0,0] (AJ 0 (H5 p0_ p1_ r117 i_17) (MY p0_ p1_ r117 i_17) z) (H5 p0_ p1_ r117 i_17 x):=by
 obtain ⟨out_18,changed_1⟩:=x
 refine sq (sr (ck 1 (en (cn H (λ H=>?_) (λ H=>?_)))))
 ·exact sk (qz (bk 5 (sr (ck 1 (en (sr (ck 1 (en (bk 6 (bx H λ y81 h350 H=>lX L6 h350 (gP [1,2,5,6,7,9,10] [0,1] (po1 (pn1 (nL 1 Ag) out_18 (Pl.z)))) rfl λ s hE64=>qH (qN (by cases H;exact og (tr (hE64) (gP [1,2,5,6,7,9] [0,1] (po1 (pn1 (nL 1 Ag) y81.1 (Pl.z)))))))))))))))))
 ·exact ex 4 (qx (by cases H;exact xo rfl (gP [1,2,5,6,7] [0,1] (po1 (pn1 (nL 1 Ag) out_18 (Pl.z))))))
theorem L8 (x:((List (List Int))×Int)) (z:(((List (List Int))×Int)⊕(List (List Int)))) (H:EQ n p0_ p1_ r117 x.1 x.2=some z):WP (cxk 116 0) (AH Try.f22) [1,1,1,0,1,0,0] (AJ 0 (H6 p0_ p1_ r117) (MZ) z) (H6 p0_ p1_ r117 x):=by
 obtain ⟨out_13,i_17⟩:=x
 refine sq (sr (ck 2 (en (cn H (λ H=>?_) (λ H=>?_)))))
 ·exact sk (qz (sq (bk 1 (sq (bx H λ x103 h328 H=>rg (so1 (encN:=(nL 1 Ag)) 1 1 h328) (ck 3 (sp (AM Ak r117) (bx H λ l35 h329 H=>sp (W5 Ag 1 h329) (sp (AC 1 1 h328) (sp (LT (encN:=(nL 1 Ag)) (row:=[.own 1 (x103.map Ag)]) (row':=[.osl 2 1 0 (l35.length)]) (k:=1) (sz:=1) (off:=0) (t:=ty 40) (v:=.osl 2 1 0 (l35.length)) h328) (en (sq (sq (rg (tr (tr (tr (sni (encN:=(nL 1 Ag)) (xs:=out_13) (n:=i_17) (enc:=Ag) [.osl 2 1 0 (l35.length)] l35 1 1 0 2 1) (scl (encN:=(nL 1 Ag)) (xss:=out_13) i_17 [.own 1 (l35.map Ag)] 1 1 l35)) (sn 6 1 1 (lsS out_13 i_17.toNat l35))) (sn 25 1 1 (lsS out_13 i_17.toNat l35))) (ck 1 (en (bk 2 (bx H λ y79 h338 H=>lX L4 h338 (gP [1,2,5,6,7,8] [0,1] (po1 (pn1 (nL 1 Ag) (List.set out_13 i_17.toNat l35) (Pl.z)))) rfl λ s hE62=>qH (qs (hE62) (sr (ck 1 (en (bk 4 (bx H λ y82 h351 H=>lX L7 h351 (gP [1,2,5,6,7,9] [0,1] (po1 (pn1 (nL 1 Ag) y79 (Pl.z)))) rfl λ s hE65=>qH (qN (qs (hE65) (rz (ck 3 (ae (by cases H;exact og (gP [1,2,5,6,7] [0,1] (po1 (pn1 (nL 1 Ag) y82 (Pl.z))))))))))))))))))))))))))))))))))
 ·exact ex 0 (qx (by cases H;exact xo rfl (gP [6] [1] (pn1 (nL 1 Ag) out_13 (Pl.z)))))
theorem O7 {z} (H:GQ n p0_ p1_=some z):AG Try.prog 22 [.agg (Aq p0_),.d (.str p1_)] (.d (.sl (z.map (eL Ag)))):=by
 exact fO 116 (Jgf p0_ p1_) Try.func22 (sr (ck 2 (en (sr (ck 1 (bx H λ r117 h326 H=>ca false (Ij h326) (ck 1 (en (sr (ck 3 (bx H λ l34 h327 H=>sp (S8 1 (ez:=[.nil]) h327) (ck 1 (en (sq (sq (rg (tr (tr (S6 (encN:=(nL 1 Ag)) (sz:=1) (z:=[.nil]) (n:=(Az .i64 ((p1_.length:Nat):Int) 1)) 1 (MH h327) (by kernel_rfl) (by kernel_rfl)) (sn 18 1 1 (HK h327))) (sn 6 1 1 (HK h327))) (ck 3 (en (bk 0 (bx H λ y83 h352 H=>lX L8 h352 (gP [1,2,5,6,7] [0,1] (po1 (pn1 (nL 1 Ag) l34 (Pl.z)))) rfl λ s hE66=>qH (qs (hE66) (sr (ck 2 (ae (qs (W2 (encN:=(nL 1 Ag)) (encD:=(eL Ag)) (xss:=y83) (k:=0) (sz:=1) 4 (by kernel_rfl) (λ _=>rfl) (λ _=>rfl)) (re (by cases H;exact pr rd)))))))))))))))))))))))))))
end
section
variable (p0_:Ac) (p1_:(List UInt8)) (r121:(List Aa)) (at_2:(List (List Bool))) (i_18:Int) (at_3:(List (List Bool))) (at_4:(List (List Bool))) (out_25:Int) (i_19:Int) (out_26:Int) (at_5:(List (List Bool))) (changed_7:Bool) (at_6:(List (List Bool))) (at_7:(List (List Bool))) (changed_8:Bool) (k_6:Int) (at_8:(List (List Bool))) (changed_9:Bool) (at_9:(List (List Bool))) (changed_10:Bool) (r_4:Int) (at_10:(List (List Bool))) (changed_11:Bool) (at_11:(List (List Bool))) (changed_12:Bool) (y87:(List (List Bool))) (class_2:Int) (at_12:(List (List Bool))) (out_27:Int) (k_7:Int) (at_13:(List (List Bool))) (out_28:Int) (at_14:(List (List Bool))) (out_29:Int)
def Jgo:St:=⟨(0,.agg [.d (.int .i64 p0_.Modes),.d (.int .u8 p0_.Accept),.d (.sl (p0_.Rules.map Am))])::(1,.d (.str p1_))::[],[]⟩
def Jgp:St:=⟨(1,.d (.str p1_))::(2,.ptr 0 0)::(5,.d (.sl (r121.map Ak)))::(6,.osl 1 1 0 (at_2.length))::(7,.d (.int .i64 0))::(8,.d (.int .i64 i_18))::[],[some (.box (Aq p0_)),some (.narr 1 (at_2.map (nL 1 eB)))]⟩
def Jgq:St:=⟨(1,.d (.str p1_))::(2,.ptr 0 0)::(5,.d (.sl (r121.map Ak)))::(6,.osl 1 1 0 (at_3.length))::(7,.d (.int .i64 0))::[],[some (.box (Aq p0_)),some (.narr 1 (at_3.map (nL 1 eB)))]⟩
def NW:(List (List Bool))->Ex->St->Prop:=xX 0 0 (λ (y:(List (List Bool)))=>Jgq p0_ p1_ r121 y)
def IN:((List (List Bool))×Int)->St:=(λ (x:((List (List Bool))×Int))=>Jgp p0_ p1_ r121 x.1 x.2)
def Jgr:St:=⟨(1,.d (.str p1_))::(2,.ptr 0 0)::(5,.d (.sl (r121.map Ak)))::(6,.osl 1 1 0 (at_4.length))::(7,.d (.int .i64 out_25))::(9,.d (.int .i64 i_19))::[],[some (.box (Aq p0_)),some (.narr 1 (at_4.map (nL 1 eB)))]⟩
def Jgs:St:=⟨(7,.d (.int .i64 out_26))::[],[]⟩
def Jgt:St:=⟨(1,.d (.str p1_))::(2,.ptr 0 0)::(5,.d (.sl (r121.map Ak)))::(6,.osl 1 1 0 (at_5.length))::(7,.d (.int .i64 out_25))::(9,.d (.int .i64 i_19))::(10,.d (.bool changed_7))::[],[some (.box (Aq p0_)),some (.narr 1 (at_5.map (nL 1 eB)))]⟩
def Jgu:St:=⟨(1,.d (.str p1_))::(2,.ptr 0 0)::(5,.d (.sl (r121.map Ak)))::(6,.osl 1 1 0 (at_6.length))::(7,.d (.int .i64 out_25))::(9,.d (.int .i64 i_19))::[],[some (.box (Aq p0_)),some (.narr 1 (at_6.map (nL 1 eB)))]⟩
def Jgv:St:=⟨(1,.d (.str p1_))::(2,.ptr 0 0)::(5,.d (.sl (r121.map Ak)))::(6,.osl 1 1 0 (at_7.length))::(7,.d (.int .i64 out_25))::(9,.d (.int .i64 i_19))::(10,.d (.bool changed_8))::(11,.d (.int .i64 k_6))::[],[some (.box (Aq p0_)),some (.narr 1 (at_7.map (nL 1 eB)))]⟩
def Jgw:St:=⟨(1,.d (.str p1_))::(2,.ptr 0 0)::(5,.d (.sl (r121.map Ak)))::(6,.osl 1 1 0 (at_8.length))::(7,.d (.int .i64 out_25))::(9,.d (.int .i64 i_19))::(10,.d (.bool changed_9))::[],[some (.box (Aq p0_)),some (.narr 1 (at_8.map (nL 1 eB)))]⟩
def JcI:St:=⟨(1,.d (.str p1_))::(2,.ptr 0 0)::(5,.d (.sl (r121.map Ak)))::(6,.osl 1 1 0 (at_9.length))::(7,.d (.int .i64 out_25))::(9,.d (.int .i64 i_19))::(10,.d (.bool changed_10))::(11,.d (.int .i64 k_6))::(12,.d (.int .i64 r_4))::[],[some (.box (Aq p0_)),some (.narr 1 (at_9.map (nL 1 eB)))]⟩
def JcJ:St:=⟨(1,.d (.str p1_))::(2,.ptr 0 0)::(5,.d (.sl (r121.map Ak)))::(6,.osl 1 1 0 (at_10.length))::(7,.d (.int .i64 out_25))::(9,.d (.int .i64 i_19))::(10,.d (.bool changed_11))::(11,.d (.int .i64 k_6))::[],[some (.box (Aq p0_)),some (.narr 1 (at_10.map (nL 1 eB)))]⟩
def JcK:St:=⟨(1,.d (.str p1_))::(2,.ptr 0 0)::(5,.d (.sl (r121.map Ak)))::(6,.osl 1 1 0 (at_11.length))::(7,.d (.int .i64 out_25))::(9,.d (.int .i64 i_19))::(10,.d (.bool changed_12))::(11,.d (.int .i64 k_6))::(12,.d (.int .i64 r_4))::[],[some (.box (Aq p0_)),some (.narr 1 (at_11.map (nL 1 eB)))]⟩
def NX:((List (List Bool))×Bool)->Ex->St->Prop:=xX 0 8 (λ (y:((List (List Bool))×Bool))=>JcJ p0_ p1_ r121 out_25 i_19 k_6 y.1 y.2)
def IP:((List (List Bool))×Bool×Int)->St:=(λ (x:((List (List Bool))×Bool×Int))=>JcI p0_ p1_ r121 out_25 i_19 k_6 x.1 x.2.1 x.2.2)
def NY:((List (List Bool))×Bool)->Ex->St->Prop:=xX 0 6 (λ (y:((List (List Bool))×Bool))=>Jgw p0_ p1_ r121 out_25 i_19 y.1 y.2)
def IQ:((List (List Bool))×Bool×Int)->St:=(λ (x:((List (List Bool))×Bool×Int))=>Jgv p0_ p1_ r121 out_25 i_19 x.1 x.2.1 x.2.2)
def NZ:(List (List Bool))->Ex->St->Prop:=xX 0 4 (λ (y:(List (List Bool)))=>Jgu p0_ p1_ r121 out_25 i_19 y)
def IR:((List (List Bool))×Bool)->St:=(λ (x:((List (List Bool))×Bool))=>Jgt p0_ p1_ r121 out_25 i_19 x.1 x.2)
def JcL:St:=⟨(1,.d (.str p1_))::(2,.ptr 0 0)::(5,.d (.sl (r121.map Ak)))::(6,.osl 1 1 0 (y87.length))::(7,.d (.int .i64 out_25))::(9,.d (.int .i64 i_19))::(16,.d (.int .i64 class_2))::[],[some (.box (Aq p0_)),some (.narr 1 (y87.map (nL 1 eB)))]⟩
def JcM:St:=⟨(1,.d (.str p1_))::(2,.ptr 0 0)::(5,.d (.sl (r121.map Ak)))::(6,.osl 1 1 0 (at_12.length))::(7,.d (.int .i64 out_27))::(9,.d (.int .i64 i_19))::(16,.d (.int .i64 class_2))::(17,.d (.int .i64 k_7))::[],[some (.box (Aq p0_)),some (.narr 1 (at_12.map (nL 1 eB)))]⟩
def JcN:St:=⟨(1,.d (.str p1_))::(2,.ptr 0 0)::(5,.d (.sl (r121.map Ak)))::(6,.osl 1 1 0 (at_13.length))::(7,.d (.int .i64 out_28))::(9,.d (.int .i64 i_19))::[],[some (.box (Aq p0_)),some (.narr 1 (at_13.map (nL 1 eB)))]⟩
def JcO:St:=⟨(1,.d (.str p1_))::(2,.ptr 0 0)::(5,.d (.sl (r121.map Ak)))::(6,.osl 1 1 0 (at_14.length))::(7,.d (.int .i64 out_29))::(9,.d (.int .i64 i_19))::(16,.d (.int .i64 class_2))::(17,.d (.int .i64 k_7))::[],[some (.box (Aq p0_)),some (.narr 1 (at_14.map (nL 1 eB)))]⟩
def N0:((List (List Bool))×Int)->Ex->St->Prop:=xX 0 10 (λ (y:((List (List Bool))×Int))=>JcN p0_ p1_ r121 i_19 y.1 y.2)
def IS:((List (List Bool))×Int×Int)->St:=(λ (x:((List (List Bool))×Int×Int))=>JcM p0_ p1_ r121 i_19 class_2 x.1 x.2.1 x.2.2)
def N3:Int->Ex->St->Prop:=xX 0 2 (λ (y:Int)=>Jgs y)
def IT:((List (List Bool))×Int×Int)->St:=(λ (x:((List (List Bool))×Int×Int))=>Jgr p0_ p1_ r121 x.1 x.2.1 x.2.2)
variable {p0_ p1_ r121 at_2 i_18 at_3 at_4 out_25 i_19 out_26 at_5 changed_7 at_6 at_7 changed_8 k_6 at_8 changed_9 at_9 changed_10 r_4 at_10 changed_11 at_11 changed_12 y87 class_2 at_12 out_27 k_7 at_13 out_28 at_14 out_29}
theorem M0 (x:((List (List Bool))×Int)) (z:(((List (List Bool))×Int)⊕(List (List Bool)))) (H:D8 n p0_ p1_ r121 x.1 x.2=some z):WP (cxk 152 0) (AH Try.f23) [1,1,1,0,1,0,0] (AJ 0 (IN p0_ p1_ r121) (NW p0_ p1_ r121) z) (IN p0_ p1_ r121 x):=by
 obtain ⟨at_2,i_18⟩:=x
 refine sq (sr (ck 4 (en (cn H (λ H=>?_) (λ H=>?_)))))
 ·exact sk (qz (sq (bk 1 (bx H λ x116 h355 H=>rg (so1 (encN:=(nL 1 eB)) 1 1 h355) (ck 3 (sp (AM Ak r121) (bx H λ l40 h356 H=>sp (W5 eB 1 h356) (sp (AC 1 1 h355) (sp (LT (encN:=(nL 1 eB)) (row:=[.own 1 (x116.map eB)]) (row':=[.osl 2 1 0 (l40.length)]) (k:=1) (sz:=1) (off:=0) (t:=ty 46) (v:=.osl 2 1 0 (l40.length)) h355) (ae (qN (qz (rg (tr (tr (tr (sni (encN:=(nL 1 eB)) (xs:=at_2) (n:=i_18) (enc:=eB) [.osl 2 1 0 (l40.length)] l40 1 1 0 2 1) (scl (encN:=(nL 1 eB)) (xss:=at_2) i_18 [.own 1 (l40.map eB)] 1 1 l40)) (sn 6 1 1 (lsS at_2 i_18.toNat l40))) (sn 30 1 1 (lsS at_2 i_18.toNat l40))) (ck 3 (ae (by cases H;exact og (gP [1,2,5,6,7,8] [0,1] (po1 (pn1 (nL 1 eB) (List.set at_2 i_18.toNat l40) (Pl.z))))))))))))))))))))
 ·exact ex 0 (qx (by cases H;exact xo rfl (gP [1,2,5,6,7] [0,1] (po1 (pn1 (nL 1 eB) at_2 (Pl.z))))))
theorem M3 (x:((List (List Bool))×Bool×Int)) (z:(((List (List Bool))×Bool×Int)⊕((List (List Bool))×Bool))) (H:Dg n p0_ p1_ r121 out_25 i_19 k_6 x.1 x.2.1 x.2.2=some z):WP (cxk 152 0) (AH Try.f23) [1,1,1,1,1,0,1,0,0,1,0,0,0,1,0,0,1,0,1,1,0,0,1,0,0,1,0,0] (AJ 0 (IP p0_ p1_ r121 out_25 i_19 k_6) (NX p0_ p1_ r121 out_25 i_19 k_6) z) (IP p0_ p1_ r121 out_25 i_19 k_6 x):=by
 obtain ⟨at_9,changed_10,r_4⟩:=x
 refine sq (sq (rg (tr (so0 (encN:=(nL 1 eB)) (xss:=at_9) 1 1 i_19 ([]:(List Bool))) (snT (encN:=(nL 1 eB)) (xss:=at_9) (n:=i_19) (d:=([]:(List Bool))) (enc:=eB) (λ x=>x) [.own 1 (List.map eB (List.getD at_9 i_19.toNat []))] 1 1 0 1)) (ck 3 (sp (AM Am p0_.Rules) (ck 4 (bx H λ x119 h361 H=>sE (λ hg=>AC 1 1 (Ce h361 hg)) (sE (g:=decide (r_4<((p0_.Rules.length:Nat):Int))) (λ hg=>B6 (encN:=(nL 1 eB)) (row:=[.osl 2 1 0 (List.length (List.getD at_9 i_19.toNat []))]) (k:=1) (sz:=1) (off:=0) (t:=ty 46) (v:=.osl 2 1 0 (List.length (List.getD at_9 i_19.toNat []))) (Ce h361 hg)) (ck 1 (bx H λ x120 h362 H=>sE (λ hg=>AC 2 1 (Ce h362 hg)) (sE (g:=decide (r_4<((p0_.Rules.length:Nat):Int))) (λ hg=>CC eB 2 0 (ty 4) (Ce h362 hg)) (pA (en (cn H (λ H=>?_) (λ H=>?_))))))))))))))
 ·refine sk (qz (sj (λ (x:((List (List Bool))×Bool))=>JcK p0_ p1_ r121 out_25 i_19 k_6 r_4 x.1 x.2) (λ (x:((List (List Bool))×Bool))=>D9 n r_4 x.1 x.2) z ?_ (λ hFR6_Reached_J1=>?_)))
  ·rintro ⟨at_11,changed_12⟩ H
   exact rz (ck 3 (ae (by cases H;exact og (gP [1,2,5,6,7,9,10,11,12] [0,1] (po1 (pn1 (nL 1 eB) at_11 (Pl.z)))))))
  refine bk 9 (sq (rg (tr (tr (sni (encN:=(nL 1 eB)) (xs:=at_9) (n:=i_19) (enc:=eB) [.osl 2 1 0 (List.length (List.getD at_9 i_19.toNat []))] (List.getD at_9 i_19.toNat []) 1 1 0 2 1) (scl (encN:=(nL 1 eB)) (xss:=at_9) i_19 [.own 1 (List.map eB (List.getD at_9 i_19.toNat []))] 1 1 (List.getD at_9 i_19.toNat []))) (sn 6 1 1 (lsS at_9 i_19.toNat (List.getD at_9 i_19.toNat [])))) (ck 3 (bx H λ x121 h363 H=>sp (Au Ak h363) (ck 2 (bx H λ r122 h364 H=>ca false (H1 h364) (ck 6 (en (sr (ck 4 (bx H λ x122 h365 H=>sp (Au Am h365) (ck 5 (en (sq (rg (tr (so0 (encN:=(nL 1 eB)) (xss:=List.set at_9 i_19.toNat (List.getD at_9 i_19.toNat [])) 1 1 (Az .i64 i_19 ((x122.Print.length:Nat):Int)) ([]:(List Bool))) (snT (encN:=(nL 1 eB)) (xss:=List.set at_9 i_19.toNat (List.getD at_9 i_19.toNat [])) (n:=Az .i64 i_19 ((x122.Print.length:Nat):Int)) (d:=([]:(List Bool))) (enc:=eB) (λ x=>x) [.own 1 (List.map eB (List.getD (List.set at_9 i_19.toNat (List.getD at_9 i_19.toNat [])) (Int.toNat (Az .i64 i_19 ((x122.Print.length:Nat):Int))) []))] 1 1 0 1)) (ck 5 (gc 1 r122.2 (ck 1 (bx H λ x123 h366 H=>sE (λ hg=>Au Am (Ce h366 hg)) (gc 2 r122.2 (bx H λ r123 h367 H=>cG false (leZ) rfl (λ hg=>LI (Ce h367 hg)) (Or.inl rfl) (Db (λ hh=>hh) (Db (λ hh=>hh) (Db (λ hh=>hh) (GE)))) rfl (pA (ck 3 (bx H λ x124 h368 H=>sE (λ hg=>AC 1 1 (Ce h368 hg)) (sE (g:=(r122.2&&r123)) (λ hg=>B6 (encN:=(nL 1 eB)) (row:=[.osl 4 1 0 (List.length (List.getD (List.set at_9 i_19.toNat (List.getD at_9 i_19.toNat [])) (Int.toNat (Az .i64 i_19 ((x122.Print.length:Nat):Int))) []))]) (k:=1) (sz:=1) (off:=0) (t:=ty 46) (v:=.osl 4 1 0 (List.length (List.getD (List.set at_9 i_19.toNat (List.getD at_9 i_19.toNat [])) (Int.toNat (Az .i64 i_19 ((x122.Print.length:Nat):Int))) []))) (Ce h368 hg)) (ck 2 (bx H λ r124 h369 H=>cG false (leZ) rfl (λ hg=>En (Ce h369 hg)) (Or.inl rfl) (Db (λ hh=>hh) (Db (λ hh=>hh) (GE))) rfl (bx H λ x125 h370 H=>sE (λ hg=>AC 4 1 (Ce h370 hg)) (sE (g:=(r122.2&&r123)) (λ hg=>CC eB 4 0 (ty 4) (Ce h370 hg)) (gc 1 (r122.2&&r123) (pA (en (cn H (λ H=>?_) (λ H=>?_))))))))))))))))))))))))))))))))))
  ·exact sq (bx H λ x126 h371 H=>rg (tr (tr (tr (tr (sni (encN:=(nL 1 eB)) (xs:=List.set at_9 i_19.toNat (List.getD at_9 i_19.toNat [])) (n:=Az .i64 i_19 ((x122.Print.length:Nat):Int)) (enc:=eB) [.osl 4 1 0 (List.length (List.getD (List.set at_9 i_19.toNat (List.getD at_9 i_19.toNat [])) (Int.toNat (Az .i64 i_19 ((x122.Print.length:Nat):Int))) []))] (List.getD (List.set at_9 i_19.toNat (List.getD at_9 i_19.toNat [])) (Int.toNat (Az .i64 i_19 ((x122.Print.length:Nat):Int))) []) 1 1 0 4 1) (scl (encN:=(nL 1 eB)) (xss:=List.set at_9 i_19.toNat (List.getD at_9 i_19.toNat [])) (Az .i64 i_19 ((x122.Print.length:Nat):Int)) [.own 1 (List.map eB (List.getD (List.set at_9 i_19.toNat (List.getD at_9 i_19.toNat [])) (Int.toNat (Az .i64 i_19 ((x122.Print.length:Nat):Int))) []))] 1 1 (List.getD (List.set at_9 i_19.toNat (List.getD at_9 i_19.toNat [])) (Int.toNat (Az .i64 i_19 ((x122.Print.length:Nat):Int))) []))) (sn 6 1 1 (lsS (List.set at_9 i_19.toNat (List.getD at_9 i_19.toNat [])) (Int.toNat (Az .i64 i_19 ((x122.Print.length:Nat):Int))) (List.getD (List.set at_9 i_19.toNat (List.getD at_9 i_19.toNat [])) (Int.toNat (Az .i64 i_19 ((x122.Print.length:Nat):Int))) [])))) (so1 (encN:=(nL 1 eB)) 1 1 h371)) (sno (encN:=(nL 1 eB)) (enc:=eB) h371 [.own 1 (x126.map eB)] x126 1 1 0 1)) (ck 2 (sp (AC 1 1 h371) (sp (B6 (encN:=(nL 1 eB)) (row:=[.osl 5 1 0 (x126.length)]) (k:=1) (sz:=1) (off:=0) (t:=ty 46) (v:=.osl 5 1 0 (x126.length)) h371) (ck 2 (bx H λ r125 h372 H=>ca false (En h372) (bx H λ x127 h373 H=>sp (AC 5 1 h373) (bx H λ l42 h374 H=>stA eB 5 0 (ty 4) h373 h374 (en (rg (tr (tr (tr (tr (tr (sn 115 5 1 (BX h374)) (snr (encN:=(nL 1 eB)) (xs:=List.set (List.set at_9 i_19.toNat (List.getD at_9 i_19.toNat [])) (Int.toNat (Az .i64 i_19 ((x122.Print.length:Nat):Int))) (List.getD (List.set at_9 i_19.toNat (List.getD at_9 i_19.toNat [])) (Int.toNat (Az .i64 i_19 ((x122.Print.length:Nat):Int))) [])) (n:=Az .i64 i_19 ((x122.Print.length:Nat):Int)) [.osl 5 1 0 (x126.length)] 1 1 0 5 1 (BX h374))) (sni (encN:=(nL 1 eB)) (xs:=List.set (List.set at_9 i_19.toNat (List.getD at_9 i_19.toNat [])) (Int.toNat (Az .i64 i_19 ((x122.Print.length:Nat):Int))) (List.getD (List.set at_9 i_19.toNat (List.getD at_9 i_19.toNat [])) (Int.toNat (Az .i64 i_19 ((x122.Print.length:Nat):Int))) [])) (n:=Az .i64 i_19 ((x122.Print.length:Nat):Int)) (enc:=eB) [.osl 5 1 0 (l42.length)] l42 1 1 0 5 1)) (scl (encN:=(nL 1 eB)) (xss:=List.set (List.set at_9 i_19.toNat (List.getD at_9 i_19.toNat [])) (Int.toNat (Az .i64 i_19 ((x122.Print.length:Nat):Int))) (List.getD (List.set at_9 i_19.toNat (List.getD at_9 i_19.toNat [])) (Int.toNat (Az .i64 i_19 ((x122.Print.length:Nat):Int))) [])) (Az .i64 i_19 ((x122.Print.length:Nat):Int)) [.own 1 (l42.map eB)] 1 1 l42)) (sn 6 1 1 (lsS (List.set (List.set at_9 i_19.toNat (List.getD at_9 i_19.toNat [])) (Int.toNat (Az .i64 i_19 ((x122.Print.length:Nat):Int))) (List.getD (List.set at_9 i_19.toNat (List.getD at_9 i_19.toNat [])) (Int.toNat (Az .i64 i_19 ((x122.Print.length:Nat):Int))) [])) (Int.toNat (Az .i64 i_19 ((x122.Print.length:Nat):Int))) l42))) (sn 112 1 1 (lsS (List.set (List.set at_9 i_19.toNat (List.getD at_9 i_19.toNat [])) (Int.toNat (Az .i64 i_19 ((x122.Print.length:Nat):Int))) (List.getD (List.set at_9 i_19.toNat (List.getD at_9 i_19.toNat [])) (Int.toNat (Az .i64 i_19 ((x122.Print.length:Nat):Int))) [])) (Int.toNat (Az .i64 i_19 ((x122.Print.length:Nat):Int))) l42))) (ck 1 (ae (qN (qs (gP [1,2,5,6,7,9,10,11,12] [0,1] (po1 (pn1 (nL 1 eB) (List.set (List.set (List.set at_9 i_19.toNat (List.getD at_9 i_19.toNat [])) (Int.toNat (Az .i64 i_19 ((x122.Print.length:Nat):Int))) (List.getD (List.set at_9 i_19.toNat (List.getD at_9 i_19.toNat [])) (Int.toNat (Az .i64 i_19 ((x122.Print.length:Nat):Int))) [])) (Int.toNat (Az .i64 i_19 ((x122.Print.length:Nat):Int))) l42) (Pl.z)))) (hFR6_Reached_J1 ((List.set (List.set (List.set at_9 i_19.toNat (List.getD at_9 i_19.toNat [])) (Int.toNat (Az .i64 i_19 ((x122.Print.length:Nat):Int))) (List.getD (List.set at_9 i_19.toNat (List.getD at_9 i_19.toNat [])) (Int.toNat (Az .i64 i_19 ((x122.Print.length:Nat):Int))) [])) (Int.toNat (Az .i64 i_19 ((x122.Print.length:Nat):Int))) l42),true) H)))))))))))))))
  ·exact sk (qN (qs (tr (tr (tr (sni (encN:=(nL 1 eB)) (xs:=List.set at_9 i_19.toNat (List.getD at_9 i_19.toNat [])) (n:=Az .i64 i_19 ((x122.Print.length:Nat):Int)) (enc:=eB) [.osl 4 1 0 (List.length (List.getD (List.set at_9 i_19.toNat (List.getD at_9 i_19.toNat [])) (Int.toNat (Az .i64 i_19 ((x122.Print.length:Nat):Int))) []))] (List.getD (List.set at_9 i_19.toNat (List.getD at_9 i_19.toNat [])) (Int.toNat (Az .i64 i_19 ((x122.Print.length:Nat):Int))) []) 1 1 0 4 1) (scl (encN:=(nL 1 eB)) (xss:=List.set at_9 i_19.toNat (List.getD at_9 i_19.toNat [])) (Az .i64 i_19 ((x122.Print.length:Nat):Int)) [.own 1 (List.map eB (List.getD (List.set at_9 i_19.toNat (List.getD at_9 i_19.toNat [])) (Int.toNat (Az .i64 i_19 ((x122.Print.length:Nat):Int))) []))] 1 1 (List.getD (List.set at_9 i_19.toNat (List.getD at_9 i_19.toNat [])) (Int.toNat (Az .i64 i_19 ((x122.Print.length:Nat):Int))) []))) (sn 6 1 1 (lsS (List.set at_9 i_19.toNat (List.getD at_9 i_19.toNat [])) (Int.toNat (Az .i64 i_19 ((x122.Print.length:Nat):Int))) (List.getD (List.set at_9 i_19.toNat (List.getD at_9 i_19.toNat [])) (Int.toNat (Az .i64 i_19 ((x122.Print.length:Nat):Int))) [])))) (gP [1,2,5,6,7,9,10,11,12] [0,1] (po1 (pn1 (nL 1 eB) (List.set (List.set at_9 i_19.toNat (List.getD at_9 i_19.toNat [])) (Int.toNat (Az .i64 i_19 ((x122.Print.length:Nat):Int))) (List.getD (List.set at_9 i_19.toNat (List.getD at_9 i_19.toNat [])) (Int.toNat (Az .i64 i_19 ((x122.Print.length:Nat):Int))) [])) (Pl.z))))) (hFR6_Reached_J1 ((List.set (List.set at_9 i_19.toNat (List.getD at_9 i_19.toNat [])) (Int.toNat (Az .i64 i_19 ((x122.Print.length:Nat):Int))) (List.getD (List.set at_9 i_19.toNat (List.getD at_9 i_19.toNat [])) (Int.toNat (Az .i64 i_19 ((x122.Print.length:Nat):Int))) [])),changed_10) H)))
 ·exact ex 8 (qx (by cases H;exact xo rfl (tr (tr (tr (sni (encN:=(nL 1 eB)) (xs:=at_9) (n:=i_19) (enc:=eB) [.osl 2 1 0 (List.length (List.getD at_9 i_19.toNat []))] (List.getD at_9 i_19.toNat []) 1 1 0 2 1) (scl (encN:=(nL 1 eB)) (xss:=at_9) i_19 [.own 1 (List.map eB (List.getD at_9 i_19.toNat []))] 1 1 (List.getD at_9 i_19.toNat []))) (sn 6 1 1 (lsS at_9 i_19.toNat (List.getD at_9 i_19.toNat [])))) (gP [1,2,5,6,7,9,10,11] [0,1] (po1 (pn1 (nL 1 eB) (List.set at_9 i_19.toNat (List.getD at_9 i_19.toNat [])) (Pl.z)))))))
theorem M4 (x:((List (List Bool))×Bool×Int)) (z:(((List (List Bool))×Bool×Int)⊕((List (List Bool))×Bool))) (H:Dh n p0_ p1_ r121 out_25 i_19 x.1 x.2.1 x.2.2=some z):WP (cxk 152 0) (AH Try.f23) [1,1,1,1,1,0,1,0,0,1,0,0,0,1,0,0,1,0,1,1,0,0] (AJ 0 (IQ p0_ p1_ r121 out_25 i_19) (NY p0_ p1_ r121 out_25 i_19) z) (IQ p0_ p1_ r121 out_25 i_19 x):=by
 obtain ⟨at_7,changed_8,k_6⟩:=x
 refine sq (sr (ck 2 (sp (AM Ak r121) (ck 1 (en (cn H (λ H=>?_) (λ H=>?_)))))))
 ·exact sk (qz (sq (bk 7 (sr (ck 1 (en (bk 8 (bx H λ y85 h375 H=>lX M3 h375 (gP [1,2,5,6,7,9,10,11,12] [0,1] (po1 (pn1 (nL 1 eB) at_7 (Pl.z)))) rfl λ s hE68=>qH (qN (qs (hE68) (rz (ck 3 (ae (by cases H;exact og (gP [1,2,5,6,7,9,10,11] [0,1] (po1 (pn1 (nL 1 eB) y85.1 (Pl.z))))))))))))))))))
 ·exact ex 6 (qx (by cases H;exact xo rfl (gP [1,2,5,6,7,9,10] [0,1] (po1 (pn1 (nL 1 eB) at_7 (Pl.z))))))
theorem M5 (x:((List (List Bool))×Bool)) (z:(((List (List Bool))×Bool)⊕(List (List Bool)))) (H:Ea n p0_ p1_ r121 out_25 i_19 x.1 x.2=some z):WP (cxk 152 0) (AH Try.f23) [1,1,1,1,1,0,1,0,0,1,0,0,0,1,0,0] (AJ 0 (IR p0_ p1_ r121 out_25 i_19) (NZ p0_ p1_ r121 out_25 i_19) z) (IR p0_ p1_ r121 out_25 i_19 x):=by
 obtain ⟨at_5,changed_7⟩:=x
 refine sq (sr (ck 1 (en (cn H (λ H=>?_) (λ H=>?_)))))
 ·exact sk (qz (bk 5 (sr (ck 1 (en (sr (ck 1 (en (bk 6 (bx H λ y86 h376 H=>lX M4 h376 (gP [1,2,5,6,7,9,10,11] [0,1] (po1 (pn1 (nL 1 eB) at_5 (Pl.z)))) rfl λ s hE69=>qH (qN (by cases H;exact og (tr (hE69) (gP [1,2,5,6,7,9,10] [0,1] (po1 (pn1 (nL 1 eB) y86.1 (Pl.z)))))))))))))))))
 ·exact ex 4 (qx (by cases H;exact xo rfl (gP [1,2,5,6,7,9] [0,1] (po1 (pn1 (nL 1 eB) at_5 (Pl.z))))))
theorem M6 (x:((List (List Bool))×Int×Int)) (z:(((List (List Bool))×Int×Int)⊕((List (List Bool))×Int))) (H:Di n p0_ p1_ r121 i_19 class_2 x.1 x.2.1 x.2.2=some z):WP (cxk 152 0) (AH Try.f23) [1,1,1,1,1,0,1,0,0,1,0,0,1,1,1,1,0,0] (AJ 0 (IS p0_ p1_ r121 i_19 class_2) (N0 p0_ p1_ r121 i_19) z) (IS p0_ p1_ r121 i_19 class_2 x):=by
 obtain ⟨at_12,out_27,k_7⟩:=x
 refine sq (sr (ck 2 (sp (AM Ak r121) (ck 1 (en (cn H (λ H=>?_) (λ H=>?_)))))))
 ·refine sk (qz (sj (λ (x:((List (List Bool))×Int))=>JcO p0_ p1_ r121 i_19 class_2 k_7 x.1 x.2) (λ (x:((List (List Bool))×Int))=>Eb n k_7 x.1 x.2) z ?_ (λ hFR6_Reached_J3=>?_)))
  ·rintro ⟨at_14,out_29⟩ H
   exact rz (ck 3 (ae (by cases H;exact og (gP [1,2,5,6,7,9,16,17] [0,1] (po1 (pn1 (nL 1 eB) at_14 (Pl.z)))))))
  refine bk 11 (sq (bx H λ x128 h378 H=>rg (tr (so1 (encN:=(nL 1 eB)) 1 1 h378) (sno (encN:=(nL 1 eB)) (enc:=eB) h378 [.own 1 (x128.map eB)] x128 1 1 0 1)) (ck 2 (sp (AC 1 1 h378) (sp (B6 (encN:=(nL 1 eB)) (row:=[.osl 2 1 0 (x128.length)]) (k:=1) (sz:=1) (off:=0) (t:=ty 46) (v:=.osl 2 1 0 (x128.length)) h378) (ck 1 (bx H λ x129 h379 H=>sp (AC 2 1 h379) (sp (CC eB 2 0 (ty 4) h379) (ck 3 (bx H λ x130 h380 H=>sE (λ hg=>Au Ak (Ce h380 hg)) (gc 2 x129 (ck 1 (bx H λ r126 h381 H=>cG false (leZ) rfl (λ hg=>Hq (Ce h381 hg)) (Or.inl rfl) (Db (λ hh=>hh) (Db (λ hh=>hh) (GE))) rfl (pA (en (cn H (λ H=>?_) (λ H=>?_)))))))))))))))))
  ·exact rg (tr (tr (tr (sni (encN:=(nL 1 eB)) (xs:=at_12) (n:=i_19) (enc:=eB) [.osl 2 1 0 (x128.length)] x128 1 1 0 2 1) (scl (encN:=(nL 1 eB)) (xss:=at_12) i_19 [.own 1 (x128.map eB)] 1 1 x128)) (sn 6 1 1 (lsS at_12 i_19.toNat x128))) (sn 134 1 1 (lsS at_12 i_19.toNat x128))) (ck 2 (ae (qN (qs (gP [1,2,5,6,7,9,16,17] [0,1] (po1 (pn1 (nL 1 eB) (List.set at_12 i_19.toNat x128) (Pl.z)))) (hFR6_Reached_J3 ((List.set at_12 i_19.toNat x128),i_19) H)))))
  ·exact sk (qN (qs (tr (tr (tr (tr (sni (encN:=(nL 1 eB)) (xs:=at_12) (n:=i_19) (enc:=eB) [.osl 2 1 0 (x128.length)] x128 1 1 0 2 1) (scl (encN:=(nL 1 eB)) (xss:=at_12) i_19 [.own 1 (x128.map eB)] 1 1 x128)) (sn 6 1 1 (lsS at_12 i_19.toNat x128))) (sn 134 1 1 (lsS at_12 i_19.toNat x128))) (gP [1,2,5,6,7,9,16,17] [0,1] (po1 (pn1 (nL 1 eB) (List.set at_12 i_19.toNat x128) (Pl.z))))) (hFR6_Reached_J3 ((List.set at_12 i_19.toNat x128),out_27) H)))
 ·exact ex 10 (qx (by cases H;exact xo rfl (gP [1,2,5,6,7,9] [0,1] (po1 (pn1 (nL 1 eB) at_12 (Pl.z))))))
theorem M7 (x:((List (List Bool))×Int×Int)) (z:(((List (List Bool))×Int×Int)⊕Int)) (H:Ed n p0_ p1_ r121 x.1 x.2.1 x.2.2=some z):WP (cxk 152 0) (AH Try.f23) [1,1,1,1,1,0,1,0,0] (AJ 0 (IT p0_ p1_ r121) (N3) z) (IT p0_ p1_ r121 x):=by
 obtain ⟨at_4,out_25,i_19⟩:=x
 refine sq (sr (ck 4 (en (cn H (λ H=>?_) (λ H=>?_)))))
 ·refine sk (qz (sq (bk 3 (sq (sr (ck 1 (en (bk 4 (bx H λ y87 h377 H=>lX M5 h377 (gP [1,2,5,6,7,9,10] [0,1] (po1 (pn1 (nL 1 eB) at_4 (Pl.z)))) rfl λ s hE70=>qH (qs (hE70) (sr (ck 1 (en (sj (λ (x:Int)=>JcL p0_ p1_ r121 out_25 i_19 y87 x) (λ (x:Int)=>Ec n p0_ p1_ r121 out_25 i_19 y87 x) z ?_ (λ hFR6_Reached_J2=>?_)))))))))))))))
  ·intro class_2 H
   exact sr (ck 1 (en (bk 10 (bx H λ y88 h382 H=>lX M6 h382 (gP [1,2,5,6,7,9,16,17] [0,1] (po1 (pn1 (nL 1 eB) y87 (Pl.z)))) rfl λ s hE71=>qH (qN (qs (hE71) (rz (ck 3 (ae (by cases H;exact og (gP [1,2,5,6,7,9] [0,1] (po1 (pn1 (nL 1 eB) y88.1 (Pl.z))))))))))))))
  refine sr (ck 4 (en (cn H (λ H=>?_) (λ H=>?_))))
  ·exact rz (ck 2 (bx H λ b10 h383 H=>sp (Gj h383) (bx H λ r127 h384 H=>ca false (JA h384) (ck 1 (ae (qs (gP [1,2,5,6,7,9,16] [0,1] (po1 (pn1 (nL 1 eB) y87 (Pl.z)))) (hFR6_Reached_J2 r127 H)))))))
  ·exact sk (qs (gP [1,2,5,6,7,9,16] [0,1] (po1 (pn1 (nL 1 eB) y87 (Pl.z)))) (hFR6_Reached_J2 0 H))
 ·exact ex 2 (qx (by cases H;exact xo rfl (sg [7])))
theorem QW {z} (H:HS n p0_ p1_=some z):AG Try.prog 23 [.agg (Aq p0_),.d (.str p1_)] (.d (.int .i64 z)):=by
 exact fO 152 (Jgo p0_ p1_) Try.func23 (sr (ck 2 (en (sr (ck 1 (bx H λ r121 h353 H=>ca false (Ij h353) (ck 1 (en (sr (ck 3 (bx H λ l39 h354 H=>sp (S8 1 (ez:=[.nil]) h354) (ck 2 (en (sq (sq (rg (tr (tr (S6 (encN:=(nL 1 eB)) (sz:=1) (z:=[.nil]) (n:=(Az .i64 ((p1_.length:Nat):Int) 1)) 1 (MH h354) (by kernel_rfl) (by kernel_rfl)) (sn 23 1 1 (HK h354))) (sn 6 1 1 (HK h354))) (ck 1 (en (bk 0 (bx H λ y84 h357 H=>lX M0 h357 (gP [1,2,5,6,7,8] [0,1] (po1 (pn1 (nL 1 eB) l39 (Pl.z)))) rfl λ s hE67=>qH (qs (hE67) (sq (bx H λ x117 h358 H=>rg (tr (so1 (encN:=(nL 1 eB)) 1 1 h358) (sno (encN:=(nL 1 eB)) (enc:=eB) h358 [.own 1 (x117.map eB)] x117 1 1 0 1)) (ck 1 (sp (AC 1 1 h358) (sp (B6 (encN:=(nL 1 eB)) (row:=[.osl 2 1 0 (x117.length)]) (k:=1) (sz:=1) (off:=0) (t:=ty 46) (v:=.osl 2 1 0 (x117.length)) h358) (bx H λ x118 h359 H=>sp (AC 2 1 h359) (bx H λ l41 h360 H=>stA eB 2 0 (ty 4) h359 h360 (en (sq (sq (rg (tr (tr (tr (tr (tr (sn 38 2 1 (BX h360)) (snr (encN:=(nL 1 eB)) (xs:=y84) (n:=0) [.osl 2 1 0 (x117.length)] 1 1 0 2 1 (BX h360))) (sni (encN:=(nL 1 eB)) (xs:=y84) (n:=0) (enc:=eB) [.osl 2 1 0 (l41.length)] l41 1 1 0 2 1)) (scl (encN:=(nL 1 eB)) (xss:=y84) 0 [.own 1 (l41.map eB)] 1 1 l41)) (sn 6 1 1 (lsS y84 (Int.toNat 0) l41))) (sn 36 1 1 (lsS y84 (Int.toNat 0) l41))) (ck 1 (en (bk 2 (bx H λ y89 h385 H=>lX M7 h385 (gP [1,2,5,6,7,9] [0,1] (po1 (pn1 (nL 1 eB) (List.set y84 (Int.toNat 0) l41) (Pl.z)))) rfl λ s hE72=>qH (qs (hE72) (sr (ck 2 (en (re (by cases H;exact pr rd))))))))))))))))))))))))))))))))))))))))))
end
end Go.AI
end
section
namespace Go.AI
open Go.Proofs
set_option maxRecDepth 10000
variable {n:Nat}
section
variable (p0_:Ac) (p1_:(List UInt8)) (r129:(List (List Int))) (r131:(List Aa)) (out_30:BM) (p_1:AO) (out_31:BM) (x136:Int) (r_5:Int) (r_6:Int)
def Jgx:St:=⟨(0,.agg [.d (.int .i64 p0_.Modes),.d (.int .u8 p0_.Accept),.d (.sl (p0_.Rules.map Am))])::(1,.d (.str p1_))::[],[]⟩
def Jgy:St:=⟨(2,.ptr 0 0)::(4,.ptr 1 0)::(7,.d (.sl (r129.map (eL Ag))))::(8,.d (.sl (r131.map Ak)))::(9,.ptr 2 0)::(10,.ptr 3 0)::[],[some (.box (Aq p0_)),some (.box [.osl 4 1 0 (List.length ([]:List Int)),.osl 5 1 0 (List.length ([]:List Int)),.d (.int .i64 0),.d (.int .i64 0)]),some (.box (HU out_30 (.osl 6 1 0 (out_30.W.Cells.length)) (.osl 7 1 0 (out_30.W.Path.length)))),some (.box (DZ p_1)),some (.arr 1 (List.map eU8 ([]:List Int))),some (.arr 1 (List.map Ag ([]:List Int))),some (.arr 1 (out_30.W.Cells.map eU8)),some (.arr 1 (out_30.W.Path.map Ag))]⟩
def Jgz:St:=⟨(4,.ptr 0 0)::(9,.ptr 1 0)::[],[some (.box [.osl 2 1 0 (List.length ([]:List Int)),.osl 3 1 0 (List.length ([]:List Int)),.d (.int .i64 0),.d (.int .i64 0)]),some (.box (HU out_31 (.osl 4 1 0 (out_31.W.Cells.length)) (.osl 5 1 0 (out_31.W.Path.length)))),some (.arr 1 (List.map eU8 ([]:List Int))),some (.arr 1 (List.map Ag ([]:List Int))),some (.arr 1 (out_31.W.Cells.map eU8)),some (.arr 1 (out_31.W.Path.map Ag))]⟩
def JgA:St:=⟨(2,.ptr 0 0)::(4,.ptr 1 0)::(7,.d (.sl (r129.map (eL Ag))))::(8,.d (.sl (r131.map Ak)))::(9,.ptr 2 0)::(10,.ptr 3 0)::(11,.d (.int .i64 x136))::(12,.d (.int .i64 r_5))::[],[some (.box (Aq p0_)),some (.box [.osl 4 1 0 (List.length ([]:List Int)),.osl 5 1 0 (List.length ([]:List Int)),.d (.int .i64 0),.d (.int .i64 0)]),some (.box (HU out_30 (.osl 6 1 0 (out_30.W.Cells.length)) (.osl 7 1 0 (out_30.W.Path.length)))),some (.box (DZ p_1)),some (.arr 1 (List.map eU8 ([]:List Int))),some (.arr 1 (List.map Ag ([]:List Int))),some (.arr 1 (out_30.W.Cells.map eU8)),some (.arr 1 (out_30.W.Path.map Ag))]⟩
def JgB:St:=⟨(2,.ptr 0 0)::(4,.ptr 1 0)::(7,.d (.sl (r129.map (eL Ag))))::(8,.d (.sl (r131.map Ak)))::(9,.ptr 2 0)::(10,.ptr 3 0)::(12,.d (.int .i64 r_6))::[],[some (.box (Aq p0_)),some (.box [.osl 4 1 0 (List.length ([]:List Int)),.osl 5 1 0 (List.length ([]:List Int)),.d (.int .i64 0),.d (.int .i64 0)]),some (.box (HU out_30 (.osl 6 1 0 (out_30.W.Cells.length)) (.osl 7 1 0 (out_30.W.Path.length)))),some (.box (DZ p_1)),some (.arr 1 (List.map eU8 ([]:List Int))),some (.arr 1 (List.map Ag ([]:List Int))),some (.arr 1 (out_30.W.Cells.map eU8)),some (.arr 1 (out_30.W.Path.map Ag))]⟩
def QX:Int->Ex->St->Prop:=xX 0 2 (λ (y:Int)=>JgB p0_ r129 r131 out_30 p_1 y)
def KR:Int->St:=(λ (x:Int)=>JgA p0_ r129 r131 out_30 p_1 x136 x)
def QY:BM->Ex->St->Prop:=xX 0 0 (λ (y:BM)=>Jgz y)
def KS:(BM×AO)->St:=(λ (x:(BM×AO))=>Jgy p0_ r129 r131 x.1 x.2)
variable {p0_ p1_ r129 r131 out_30 p_1 out_31 x136 r_5 r_6}
theorem O8 (x:Int) (z:(Int⊕Int)) (H:Em n p0_ r129 r131 out_30 p_1 x136 x=some z):WP (cxk 118 0) (AH Try.f11) [1,1,1,1,1,1,1,0,0,0,1,0,1,0,0,0] (AJ 0 (KR p0_ r129 r131 out_30 p_1 x136) (QX p0_ r129 r131 out_30 p_1) z) (KR p0_ r129 r131 out_30 p_1 x136 x):=by
 revert H
 generalize x=r_5
 intro H
 refine sq (sr (ck 4 (bx H λ r135 h399 H=>ca false (MU h399) (ck 2 (en (cn H (λ H=>?_) (λ H=>?_)))))))
 ·exact sk (qz (bk 3 (rz (ck 3 (ae (qN (by cases H;exact og (sg [2,4,7,8,9,10,11,12]))))))))
 ·exact ex 2 (qx (by cases H;exact xo rfl (sg [2,4,7,8,9,10,12])))
theorem O9 (x:(BM×AO)) (z:((BM×AO)⊕BM)) (H:GS n p0_ r129 r131 x.1 x.2=some z):WP (cxk 118 0) (AH Try.f11) [1,1,1,1,1,1,1,0,0,0] (AJ 0 (KS p0_ r129 r131) (QY) z) (KS p0_ r129 r131 x):=by
 obtain ⟨out_30,p_1⟩:=x
 refine sq (sr (ck 3 (bx H λ x133 h393 H=>sp (Au (eL Ag) h393) (ck 4 (bx H λ r133 h394 H=>ca false (En h394) (bx H λ x134 h395 H=>sp (Au Ag h395) (ck 2 (en (cn H (λ H=>?_) (λ H=>?_))))))))))
 ·exact sk (qz (bk 1 (sr (ck 3 (bx H λ x135 h396 H=>sp (Au (eL Ag) h396) (ck 4 (bx H λ r134 h397 H=>ca false (En h397) (bx H λ x136 h398 H=>sp (Au Ag h398) (ck 3 (en (sq (bk 2 (bx H λ y90 h400 H=>lX O8 h400 (sg [2,4,7,8,9,10,11,12]) rfl λ s hE73=>qH (qs (hE73) (sr (ck 5 (bx H λ l43 h401 H=>sp (CD Ag 7 1 h401) (ck 3 (en (sr (ck 6 (bx H λ x137 h402 H=>sp (Au Am h402) (ck 2 (bx H λ l44 h403 H=>sp (ZI eU8 6 1 h403) (ck 3 (en (sr (ck 4 (bx H λ r136 h404 H=>ca false (H1 h404) (ck 5 (en (rz (ck 5 (bx H λ x138 h405 H=>sp (Au Am h405) (ck 6 (ae (qN (by cases H;exact og (sg [2,4,7,8,9,10])))))))))))))))))))))))))))))))))))))))
 ·exact ex 0 (qx (by cases H;exact xo rfl (sg [4,9])))
theorem Ts {z} (H:Lc n p0_ p1_=some z):AG Try.prog 11 [.agg (Aq p0_),.d (.str p1_)] (.agg [.own 1 (z.W.Cells.map eU8),.own 1 (z.W.Path.map Ag),.d (.int .i64 z.At),.d (.int .i64 z.E)]):=by
 refine fO 118 (Jgx p0_ p1_) Try.func11 (sr (ck 2 (en (sr (ck 1 (bx H λ r128 h386 H=>ca false (OJ h386) (ck 5 (en (sq (sr (ck 2 (en (cn H (λ H=>?_) (λ H=>?_))))))))))))))
 ·exact sr (ck 4 (en (re (qr (by cases H;exact pr (rO (v:=.agg [.d (.nil),.d (.nil),.d (.int .i64 r128.1),.d (.int .i64 r128.2)]) [] (a1 (c1 vz (c1 vz (c1 vd (c1 vd (c0))))))))))))
 ·refine sk (qz (sr (ck 2 (bx H λ r129 h387 H=>ca false (O7 h387) (ck 1 (en (sq (sr (ck 1 (bx H λ x131 h388 H=>sp (Au (eL Ag) h388) (ck 1 (bx H λ x132 h389 H=>sp (Au Ag h389) (ck 2 (en (cn H (λ H=>?_) (λ H=>?_))))))))))))))))
  ·exact sr (ck 2 (bx H λ r130 h390 H=>ca false (QW h390) (ck 2 (en (re (qr (by cases H;exact pr (rO (v:=.agg [.d (.nil),.d (.nil),.d (.int .i64 r130),.d (.int .i64 61)]) [] (a1 (c1 vz (c1 vz (c1 vd (c1 vd (c0))))))))))))))
  ·exact sk (qz (sr (ck 1 (bx H λ r131 h391 H=>ca false (Ij h391) (ck 6 (en (sr (ck 1 (bx H λ r132 h392 H=>ca false (MT h392) (ck 4 (en (sq (bk 0 (bx H λ y91 h406 H=>lX O9 h406 (tr (tr (tr (tr (CB 1 0 1 (by kernel_rfl)) (CB 1 1 1 (by kernel_rfl))) (CB 2 0 1 (by kernel_rfl))) (CB 2 1 1 (by kernel_rfl))) (sg [2,4,7,8,9,10])) rfl λ s hE74=>qH (qs (hE74) (sr (ck 2 (en (re (by cases H;exact pr (rO (v:=.agg [.osl 4 1 0 (z.W.Cells.length),.osl 5 1 0 (z.W.Path.length),.d (.int .i64 z.At),.d (.int .i64 z.E)]) [4,5] (a1 (c1 vo (c1 vo (c1 vd (c1 vd (c0)))))))))))))))))))))))))))
end
section
variable (p0_:Ac) (p1_:(List UInt8)) (p2_:Int) (r137:BM) (at_15:Int) (cells_1:Int) (i_20:Int)
def Jh4:St:=⟨(0,.agg [.d (.int .i64 p0_.Modes),.d (.int .u8 p0_.Accept),.d (.sl (p0_.Rules.map Am))])::(1,.d (.str p1_))::(2,.d (.int .i64 p2_))::[],[]⟩
def Jh5:St:=⟨(1,.d (.str p1_))::(2,.d (.int .i64 p2_))::(3,.ptr 0 0)::(8,.ptr 1 0)::(9,.d (.int .i64 at_15))::(10,.d (.int .i64 cells_1))::(11,.d (.int .i64 i_20))::[],[some (.box (Aq p0_)),some (.box (JcC r137))]⟩
def Jh6:St:=⟨(1,.d (.str p1_))::[],[]⟩
def Pa:(Unit⊕(Int×Int))->Ex->St->Prop:=xS (xX 0 0 (λ (y:Unit)=>Jh6 p1_)) (xR ty Try.f9 (λ (y:(Int×Int))=>.tup [.d (.int .i64 y.1),.d (.int .i64 y.2)]))
def J9:(Int×Int×Int)->St:=(λ (x:(Int×Int×Int))=>Jh5 p0_ p1_ p2_ r137 x.1 x.2.1 x.2.2)
variable {p0_ p1_ p2_ r137 at_15 cells_1 i_20}
theorem IU (x:(Int×Int×Int)) (z:((Int×Int×Int)⊕(Unit⊕(Int×Int)))) (H:EI n p0_ p1_ p2_ r137 x.1 x.2.1 x.2.2=some z):WP (cxk 65 0) (AH Try.f9) [1,1,1,1,1,1,0,1,0,0] (AJ 0 (J9 p0_ p1_ p2_ r137) (Pa p1_) z) (J9 p0_ p1_ p2_ r137 x):=by
 obtain ⟨at_15,cells_1,i_20⟩:=x
 refine sq (sr (ck 4 (sp (AM Ag r137.W.Path) (ck 1 (en (cn H (λ H=>?_) (λ H=>?_)))))))
 ·refine sk (qz (sq (bk 1 (sr (ck 6 (bx H λ x139 h408 H=>sp (Au Ag h408) (ck 1 (bx H λ x140 h409 H=>sp (Au Am h409) (ck 3 (en (sr (ck 3 (sp (AM eU8 x140.Cells) (ck 2 (en (sq (sr (ck 3 (en (cn H (λ H=>?_) (λ H=>?_)))))))))))))))))))))
  ·exact sr (ck 3 (en (re (qr (qR (qr (by cases H;exact ro rfl rdT)))))))
  ·exact sk (qz (rz (ck 6 (ae (qN (qz (rz (ck 3 (ae (by cases H;exact og (sg [1,2,3,8,9,10,11])))))))))))
 ·exact ex 0 (qx (by cases H;exact xo rfl (sg [1])))
theorem RE {z} (H:Jo n p0_ p1_ p2_=some z):AG Try.prog 9 [.agg (Aq p0_),.d (.str p1_),.d (.int .i64 p2_)] (.tup [.d (.int .i64 z.1),.d (.int .i64 z.2)]):=by
 refine fO 65 (Jh4 p0_ p1_ p2_) Try.func9 (sr (ck 3 (en (sr (ck 2 (bx H λ r137 h407 H=>ca false (Ts h407) (ck 2 (en (sq (sr (ck 3 (en (cn H (λ H=>?_) (λ H=>?_))))))))))))))
 ·exact sr (ck 4 (en (re (qr (by cases H;exact pr rdT)))))
 ·refine sk (qz (sq (sr (ck 5 (gc 2 (!(decide (p2_<0))) (sE (g:=(!(decide (p2_<0)))) (λ hg=>AM eU8 r137.W.Cells) (gc 1 (!(decide (p2_<0))) (pO (en (cn H (λ H=>?_) (λ H=>?_)))))))))))
  ·exact sr (ck 2 (en (re (qr (by cases H;exact pr rdT)))))
  ·refine sk (qz (sr (ck 1 (en (sr (ck 1 (en (sq (sr (ck 1 (en (bk 0 (bx H λ y92 h410 H=>?_)))))))))))))
   rcases y92 with y93|y94
   ·exact lX IU h410 (sg [1,2,3,8,9,10,11]) rfl λ s hE75=>qH (qs (hE75) (sr (ck 4 (en (re (by cases H;exact pr rdT))))))
   ·exact lR IU h410 (sg [1,2,3,8,9,10,11]) rfl λ s hE76=>qR (qr (by cases H;exact pr hE76))
end
section
variable (p0_:KB) (p1_:(List Int)) (p2_:(List UInt8)) (r138:Bool) (r139:Ac) (texts_1:(List (List UInt8))) (i_21:Int) (cell_1:Int)
def Jh7:St:=⟨(0,.agg [.d (.int .u8 p0_.Base),.d (.int .u8 p0_.Drop),.d (.sl (p0_.More.map Fj))])::(1,.d (.sl (p1_.map eU8)))::(2,.d (.str p2_))::[],[]⟩
def Jh8:St:=⟨(7,.d (.bool r138))::(8,.ptr 0 0)::(9,.osl 1 1 0 (texts_1.length))::[],[some (.box (Aq r139)),some (.arr 1 (texts_1.map eS))]⟩
def Jh9:St:=⟨(7,.d (.bool r138))::(8,.ptr 0 0)::(9,.osl 1 1 0 (texts_1.length))::(10,.d (.int .i64 i_21))::[],[some (.box (Aq r139)),some (.arr 1 (texts_1.map eS))]⟩
def Jia:St:=⟨(7,.d (.bool r138))::[],[]⟩
def Jib:St:=⟨(7,.d (.bool r138))::(8,.ptr 0 0)::(9,.osl 1 1 0 (texts_1.length))::(10,.d (.int .i64 i_21))::(11,.d (.int .i64 cell_1))::[],[some (.box (Aq r139)),some (.arr 1 (texts_1.map eS))]⟩
def Jic:St:=⟨(7,.d (.bool r138))::(8,.ptr 0 0)::(9,.osl 1 1 0 (texts_1.length))::(10,.d (.int .i64 i_21))::[],[some (.box (Aq r139)),some (.arr 1 (texts_1.map eS))]⟩
def Fm:(Unit⊕Bool)->Ex->St->Prop:=xS (xX 0 2 (λ (y:Unit)=>Jic r138 r139 texts_1 i_21)) (xR ty Try.f3 (λ (y:Bool)=>.d (.bool y)))
def CV:Int->St:=(λ (x:Int)=>Jib r138 r139 texts_1 i_21 x)
def Fn:(Unit⊕Bool)->Ex->St->Prop:=xS (xX 0 0 (λ (y:Unit)=>Jia r138)) (xR ty Try.f3 (λ (y:Bool)=>.d (.bool y)))
def CW:Int->St:=(λ (x:Int)=>Jh9 r138 r139 texts_1 x)
variable {p0_ p1_ p2_ r138 r139 texts_1 i_21 cell_1}
theorem CN (x:Int) (z:(Int⊕(Unit⊕Bool))) (H:A7 n r138 r139 texts_1 i_21 x=some z):WP (cxk 66 0) (AH Try.f3) [1,1,1,1,1,0,1,0,0,1,0,0,1,0,0] (AJ 0 (CV r138 r139 texts_1 i_21) (Fm r138 r139 texts_1 i_21) z) (CV r138 r139 texts_1 i_21 x):=by
 revert H
 generalize x=cell_1
 intro H
 refine sq (sr (ck 2 (en (cn H (λ H=>?_) (λ H=>?_)))))
 ·refine sk (qz (sq (bk 3 (sr (ck 3 (bx H λ x141 h414 H=>sp (AC 1 1 h414) (sp (CC eS 1 0 (ty 9) h414) (ck 1 (bx H λ r141 h415 H=>ca false (C6 h415) (ck 5 (en (sr (ck 3 (bx H λ x142 h416 H=>sp (AC 1 1 h416) (sp (CC eS 1 0 (ty 9) h416) (ck 1 (bx H λ r142 h417 H=>ca false (RE h417) (ck 5 (en (sr (ck 6 (gc 1 (!(r141.1 != r142.1)) (pO (en (cn H (λ H=>?_) (λ H=>?_))))))))))))))))))))))))))
  ·exact sr (ck 1 (en (re (qR (qr (by cases H;exact ro rfl rd))))))
  ·exact sk (qN (qz (rz (ck 3 (ae (by cases H;exact og (sg [7,8,9,10,11])))))))
 ·exact ex 2 (qx (by cases H;exact xo rfl (sg [7,8,9,10])))
theorem CO (x:Int) (z:(Int⊕(Unit⊕Bool))) (H:A8 n r138 r139 texts_1 x=some z):WP (cxk 66 0) (AH Try.f3) [1,1,1,1,1,0,1,0,0] (AJ 0 (CW r138 r139 texts_1) (Fn r138) z) (CW r138 r139 texts_1 x):=by
 revert H
 generalize x=i_21
 intro H
 refine sq (sr (ck 2 (en (cn H (λ H=>?_) (λ H=>?_)))))
 ·refine sk (qz (sq (bk 1 (sr (ck 1 (en (bk 2 (bx H λ y95 h418 H=>?_))))))))
  rcases y95 with y96|y97
  ·exact lX CN h418 (sg [7,8,9,10,11]) rfl λ s hE77=>qH (qN (qs (hE77) (rz (ck 3 (ae (by cases H;exact og (sg [7,8,9,10])))))))
  ·exact lR CN h418 (sg [7,8,9,10,11]) rfl λ s hE78=>qR (qR (qr (by cases H;exact ro rfl hE78)))
 ·exact ex 0 (qx (by cases H;exact xo rfl (sg [7])))
theorem FJ {z} (H:BQ n p0_ p1_ p2_=some z):AG Try.prog 3 [.agg (Wn p0_),.d (.sl (p1_.map eU8)),.d (.str p2_)] (.d (.bool z)):=by
 refine fO 66 (Jh7 p0_ p1_ p2_) Try.func3 (sr (ck 2 (en (sr (bx H λ r138 h411 H=>ca true (QJ h411) (ck 1 (en (sr (ck 1 (bx H λ r139 h412 H=>ca false (U9 h412) (ck 2 (en (sr (ck 2 (bx H λ r140 h413 H=>ca false (QT h413) (ck 3 (en (sj (λ (x:(List (List UInt8)))=>Jh8 r138 r139 x) (λ (x:(List (List UInt8)))=>A9 n r138 r139 x) z ?_ (λ hFL31_MarkBytesMatchReference_J1=>?_)))))))))))))))))))
 ·intro texts_1 H
  refine sq (sr (ck 1 (en (bk 0 (bx H λ y98 h419 H=>?_)))))
  rcases y98 with y99|y100
  ·exact lX CO h419 (sg [7,8,9,10]) rfl λ s hE79=>qH (qs (hE79) (sr (ck 2 (en (re (by cases H;exact pr rd))))))
  ·exact lR CO h419 (sg [7,8,9,10]) rfl λ s hE80=>qR (qr (by cases H;exact pr hE80))
 refine sr (ck 3 (en (cn H (λ H=>?_) (λ H=>?_))))
 ·exact rz (ck 1 (bx H λ x143 h420 H=>sp (AC 2 1 h420) (bx H λ l45 h421 H=>stA eS 2 0 (ty 9) h420 h421 (ae (qs (tr (tr (tr (sn 23 2 1 (BX h421)) (sn 9 2 1 (BX h421))) (sn 27 2 1 (BX h421))) (sg [7,8,9])) (hFL31_MarkBytesMatchReference_J1 l45 H))))))
 ·exact sk (qs (sg [7,8,9]) (hFL31_MarkBytesMatchReference_J1 [r140,p2_] H))
end
end Go.AI
end
section
namespace Go.AI
def CRd (F:Nat->Option Obj) (l:List D) (cs:List Value):Prop:=l.length=cs.length/\∀ (i:Nat) (y:D) (v:Value),l[i]? = some y->cs[i]? = some v->Bs F y v
def Hr {α:Type} (P:Program) (t:TypeId) (enc:α->List D) (ok:α->Prop):Prop:=
 ∀ (H:Type) (e:TypeId×Value->H) (w:World) (base:Nat) (spare:Nat->Bool) (held:Bool) (fuel:Nat) (cs:List Value) (x:DataW H×List MemPlace),DataW.trod e P w base spare held fuel t cs=some x->∃ a:α,ok a/\CRd (λ b=>w.heap[b]?) (enc a) cs
theorem Ps {F:Nat->Option Obj} {y:D} {v:Value} (h:Bs F y v):CRd F [y] [v]:=by
 refine ⟨rfl,λ i a b ha hb=>?_⟩
 cases i with
 | zero=>simp at ha hb;subst ha;subst hb;exact h
 | succ i=>simp at ha
theorem Yd {P:Program} {t:TypeId} {k:IntKind} (ht:P.underlying t=some (.int k)):Hr P t (λ n=>[.int k n]) (λ n=>(Lit.int k n).wf=true):=by
 intro H e w base spare held fuel cs x h
 obtain ⟨n,rfl,_,hw⟩:=DataW.trod_int ht h
 exact ⟨n,hw,Ps (.int k n)⟩
theorem Tt {P:Program} {t:TypeId} (ht:P.underlying t=some .string):Hr P t eS (λ _=>True):=by
 intro H e w base spare held fuel cs x h
 obtain ⟨s,rfl,_,_⟩:=DataW.trod_string ht h
 exact ⟨s.data.toList,trivial,Ps (.str s.data.toList)⟩
theorem Va {α:Type} {Q:Nat->α->Prop}:∀ n,(∀ i,i<n->∃ a,Q i a)->∃ l:List α,l.length=n/\∀ i a,l[i]? = some a->Q i a:=by
 intro n
 induction n with
 | zero=>intro _;exact ⟨[],rfl,λ i a h=>by simp at h⟩
 | succ n ih=>
  intro h
  obtain ⟨l,hl,hq⟩:=ih λ i hi=>h i (by omega)
  obtain ⟨a,ha⟩:=h n (by omega)
  refine ⟨l++[a],by simp [hl],λ i b hb=>?_⟩
  rcases Nat.lt_or_ge i l.length with hlt|hge
  ·rw [Ji7 hlt] at hb;exact hq i b hb
  ·rw [Jji hge] at hb
   have:i-l.length=0:=by have:=Af hb;simp at this;omega
   rw [this] at hb
   simp at hb
   subst hb
   have:i=n:=by omega
   subst this
   exact ha
theorem Vb {α β:Type} {f:α->Option β}:∀ {l:List α} {r:List β},l.mapM f=some r->r.length=l.length/\∀ (i:Nat) (a:α),l[i]? = some a->r[i]? = f a:=by
 intro l
 induction l with
 | nil=>intro r h;simp at h;subst h;exact ⟨rfl,λ i a h=>by simp at h⟩
 | cons a l ih=>
  intro r h
  rw [List.mapM_cons] at h
  simp only [Option.bind_eq_bind,Option.bind_eq_some_iff,Option.pure_def,Jja] at h
  obtain ⟨b,hb,r',hr',rfl⟩:=h
  obtain ⟨h1,h2⟩:=ih hr'
  refine ⟨by simp [h1],λ i x hx=>?_⟩
  cases i with
  | zero=>simp at hx;subst hx;simp [hb]
  | succ i=>simpa using h2 i x (by simpa using hx)
theorem OK {α:Type} {P:Program} {t e:TypeId} {enc:α->List D} {ok:α->Prop} {sz:Nat} (ht:P.underlying t=some (.slice e)) (hsz:P.cellsOf e=sz) (h1:Nat.ble 1 sz=true) (hl:∀ a,(enc a).length=sz) (he:Hr P e enc ok):Hr P t (eL enc) (λ l=>∀ a∈l,ok a):=by
 intro H en w base spare held fuel cs x h
 have h1:=Jjf h1
 rcases DataW.trod_slice ht h with ⟨rfl,_⟩|⟨a,len,cap,elems,rest,n,_,rfl,_,_,hcap,_,hel,hget,_,_⟩
 ·exact ⟨[],λ a h=>by simp at h,Ps (.sl0 _ _)⟩
 ·rw [hsz] at hget
  have hex:∀ i,i<len->∃ y:α,ok y/\∃ ci,w.cells? base (a.add (i*sz)) sz=some ci/\CRd (λ b=>w.heap[b]?) (enc y) ci:=λ i hi=>by
   have hg:=hget i hi
   rw [JiZ (show i<elems.length by omega)] at hg
   simp only [Option.bind_eq_some_iff] at hg
   obtain ⟨ci,hc,htr⟩:=hg
   obtain ⟨y,hy,hcr⟩:=he H en w base spare held n ci _ htr
   exact ⟨y,hy,ci,hc,hcr⟩
  obtain ⟨l,hll,hq⟩:=Va len hex
  refine ⟨l,λ y hy=>?_,Ps ?_⟩
  ·obtain ⟨i,hi⟩:=List.mem_iff_getElem?.1 hy
   exact (hq i y hi).1
  ·rcases Nat.eq_zero_or_pos len with h0|hpos
   ·have:l=[]:=List.length_eq_zero_iff.1 (by omega)
    subst this;subst h0
    exact .sl0 _ _
   ·
    have hcell:∀ i y,l[i]? = some y->∀ j,j<sz->∃ v,w.cell? ((a.add (i*sz)).add j)=some v/\∀ d,(enc y)[j]? = some d->Bs (λ b=>w.heap[b]?) d v:=λ i y hy j hj=>by
     obtain ⟨_,ci,hc,hcr⟩:=hq i y hy
     unfold World.cells? at hc
     split at hc
     ·obtain ⟨g1,g2⟩:=Vb hc
      have:=g2 j j (by simp [hj])
      have hjc:j<ci.length:=by rw [g1];simpa using hj
      rw [JiZ hjc] at this
      exact ⟨ci[j],this.symm,λ d hd=>hcr.2 j d _ hd (JiZ hjc)⟩
     ·cases hc
    have h0:l[0]? = some l[0]:=JiZ (by omega)
    obtain ⟨v0,hv0,_⟩:=hcell 0 _ h0 0 (by omega)
    have ha0:(a.add (0*sz)).add 0=a:=by simp [Addr.add]
    rw [ha0] at hv0
    obtain ⟨b,off,spot⟩:=a
    unfold World.cell? at hv0
    simp only at hv0
    split at hv0
    ·rename_i c ty fr hblk
     cases spot with
     | some s=>simp at hv0
     | none=>
      have hcell':∀ i y,l[i]? = some y->∀ j d,(enc y)[j]? = some d->∃ v,c[off+i*sz+j]? = some v/\Bs (λ b=>w.heap[b]?) d v:=λ i y hy j d hd=>by
       have hj:j<sz:=by rw [← hl y];exact Af hd
       obtain ⟨v,hv,hr⟩:=hcell i y hy j hj
       rw [Cn,Cn,Kq hblk] at hv
       exact ⟨v,hv,hr d hd⟩
      have hlen:(l.map enc).length=len:=by simp [hll]
      have:=Bs.sl (F:=λ b=>w.heap[b]?) (l.map enc) b off cap sz c ty fr (λ i j=>(c[off+i*sz+j]?).getD undef) hblk (λ e he=>by
        simp only [List.mem_map] at he
        obtain ⟨y,_,rfl⟩:=he
        exact hl y) (by omega) (λ i e hi j d hd=>by
        simp only [Ji3,Ji2] at hi
        obtain ⟨y,hy,rfl⟩:=hi
        obtain ⟨v,hv,_⟩:=hcell' i y hy j d hd
        simp only [hv,Option.getD_some]) (λ i e hi j d hd=>by
        simp only [Ji3,Ji2] at hi
        obtain ⟨y,hy,rfl⟩:=hi
        obtain ⟨v,hv,hr⟩:=hcell' i y hy j d hd
        simp only [hv,Option.getD_some]
        exact hr)
      rw [hlen] at this
      exact this
    ·cases hv0
theorem EL {F:Nat->Option Obj} {l m:List D} {cs:List Value} {o n:Nat} (h:CRd F l ((cs.drop o).take n)) (hn:Nat.beq l.length n=true) (h':CRd F m (cs.drop (o+n))):CRd F (l++m) (cs.drop o):=by
 have hn:=Ji6 hn
 have e:cs.drop o=(cs.drop o).take n++cs.drop (o+n):=by rw [← List.drop_drop,List.take_append_drop]
 rw [e]
 refine ⟨by simp only [List.length_append,h.1,h'.1],λ i y v hy hv=>?_⟩
 rcases Nat.lt_or_ge i l.length with hlt|hge
 ·rw [Ji7 hlt] at hy
  rw [Ji7 (by rw [← h.1];exact hlt)] at hv
  exact h.2 i y v hy hv
 ·rw [Jji hge] at hy
  rw [Jji (by rw [← h.1];exact hge),← h.1] at hv
  exact h'.2 _ y v hy hv
theorem Tu {F:Nat->Option Obj} {cs:List Value} {o:Nat} (h:cs.length<=o):CRd F [] (cs.drop o):=by
 rw [List.drop_eq_nil_of_le h];exact ⟨rfl,λ i y v hy=>by simp at hy⟩
theorem Wo {H:Type} {enc:TypeId×Value->H} {P:Program} {w:World} {base:Nat} {spare:Nat->Bool} {held:Bool} {fuel:Nat} {t e:TypeId} {n:Nat} {cs:List Value} {x:DataW H×List MemPlace} (ht:P.underlying t=some (.array n e)) (h:DataW.trod enc P w base spare held fuel t cs=some x) :
  ∃ m,cs.length=P.cellsOf t/\∀ i,i<n->∃ y,DataW.trod enc P w base spare held m e ((cs.drop (i*P.cellsOf e)).take (P.cellsOf e))=some y:=by
 cases fuel with
 | zero=>simp [DataW.trod] at h
 | succ m=>
  unfold DataW.trod at h
  rw [ht] at h
  split at h<;>simp_all
  obtain ⟨xs,hp,_⟩:=h.2
  refine ⟨m,λ i hi=>?_⟩
  obtain ⟨g1,g2⟩:=Vb hp
  have:=g2 i i (by simp [hi])
  have hlt:i<xs.length:=by rw [g1];simpa using hi
  rw [JiZ hlt] at this
  exact ⟨_,_,this.symm⟩
end Go.AI
end
section
namespace Go.AI
open Go.ChangeShapes Go.WideShapes Go.ChangeAt Go.RowKit
variable {P:Program} {H:Type} {en:TypeId×Value->H} {W W':World} {base:Nat} {spare:Nat->Bool} {held:Bool} {t e:TypeId} {v:Value} {d:DataW H} {ps:List MemPlace} {α:Type} {enc:α->List D} {ok:α->Prop}
theorem JcP {cs:Array Value} (hv:v=.agg cs) (hd:DataW.Trod en P W base spare held t v d ps) (hr:Hr P t enc ok):∃ a,ok a/\Ah (λ b=>W.heap[b]?) noR (.agg ((enc a).map .d)) v:=by
 subst hv
 obtain ⟨fuel,hf⟩:=hd
 obtain ⟨a,h1,h2,h3⟩:=hr H en W base spare held fuel _ _ hf
 refine ⟨a,h1,.agg _ _ (by simpa [Value.cells] using h2) λ i x u hx hu=>?_⟩
 simp only [Ji3,Ji2] at hx
 obtain ⟨y,hy,rfl⟩:=hx
 exact .d _ _ (h3 i y u hy (by simpa [Value.cells] using hu))
theorem Xb {y:α->D} (hc:v.cells=#[v]) (hd:DataW.Trod en P W base spare held t v d ps) (hr:Hr P t enc ok) (he:∀ a,enc a=[y a]):∃ a,ok a/\Ah (λ b=>W.heap[b]?) noR (.d (y a)) v:=by
 obtain ⟨fuel,hf⟩:=hd
 obtain ⟨a,h1,h2,h3⟩:=hr H en W base spare held fuel _ _ hf
 refine ⟨a,h1,.d _ _ (h3 0 (y a) v (by rw [he];rfl) (by rw [hc];rfl))⟩
theorem JgC {F:Nat->Option Obj} {ρ:Nat->Option Loc}:CR F ρ [] []:=⟨rfl,λ i a v h=>by simp at h⟩
theorem Tv {F:Nat->Option Obj} {ρ:Nat->Option Loc} {a:AV} {v:Value} {l:List AV} {vs:List Value} (h:Ah F ρ a v) (h':CR F ρ l vs):CR F ρ (a::l) (v::vs):=by
 refine ⟨by simp [h'.1],λ i x u hx hu=>?_⟩
 cases i with
 | zero=>simp at hx hu;subst hx;subst hu;exact h
 | succ i=>exact h'.2 i x u (by simpa using hx) (by simpa using hu)
theorem fld {w:World} {fuel:Nat} {cs:List Value} {fs:Array Field} {xs:List (DataW H×List MemPlace)} (hg:∀ (i:Nat) (f:Field),fs[i]? = some f->DataW.trod en P w base spare held fuel f.type ((cs.drop f.offset).take (P.cellsOf f.type))=xs[i]?) (hxl:xs.length=fs.size) (i:Nat) {f:Field} (hf:fs[i]? = some f) (u o n:Nat) (hu:f.type=u) (ho:f.offset=o) (hn:P.cellsOf u=n) (hr:Hr P u enc ok) :
  ∃ a,ok a/\CRd (λ b=>w.heap[b]?) (enc a) ((cs.drop o).take n):=by
 have:=hg i f hf
 have hi:i<xs.length:=by rw [hxl];exact Ao hf
 rw [JiZ hi,hu,ho,hn] at this
 exact hr H en w base spare held fuel _ _ this
theorem Jid {w:World} {fuel:Nat} {cs:List Value} {m:Nat} (hg:∀ i,i<m->∃ y,DataW.trod en P w base spare held fuel e ((cs.drop (i*P.cellsOf e)).take (P.cellsOf e))=some y) (i:Nat) (hi:Nat.ble (i+1) m=true) (o n:Nat) (hn:P.cellsOf e=n) (ho:i*n=o) (hr:Hr P e enc ok) :
  ∃ a,ok a/\CRd (λ b=>w.heap[b]?) (enc a) ((cs.drop o).take n):=by
 obtain ⟨y,hy⟩:=hg i (Jjf hi)
 rw [hn,ho] at hy
 exact hr H en w base spare held fuel _ _ hy
theorem Ja2 {f:FuncId} {args:List AV} {vs:Array Value} (hc:AG P f args (.d (.bool true))) (hcr:CR (λ b=>W.heap[b]?) noR args vs.toList):Calls P f vs W λ e W'=>e=.returned (.bool true)/\(∀ before:List MemPlace,W.keptBut W' (·∈before))/\∀ b,b<W.heap.size->W'.heap[b]? = W.heap[b]? := by
 refine (hc.2 (λ b=>W.heap[b]?) W vs hcr λ b o h=>h).mono λ e W' h=>?_
 obtain ⟨v,F',ρ,rfl,hS,hr,hmu⟩:=h
 have hv:v=.bool true:=by
  have:(BZ true 0 (.d (.bool true))).1=.d (.bool true):=rfl
  rw [this] at hr
  exact hr.bool
 subst hv
 have hold:∀ b,b<W.heap.size->W'.heap[b]? = W.heap[b]? := λ b hb=>hS.old b (by omega)
 refine ⟨rfl,λ before=>World.keptBut_mono (λ p hp=>hp.elim) (?_:W.keptBut W' λ _=>False),hold⟩
 refine ⟨hmu.1,hmu.2.1,λ i hi=>?_⟩
 rw [hold i hi]
 cases hh:W.heap[i]? with
 | none=>rfl
 | some o=>cases o<;>first|exact ⟨rfl,rfl,rfl,λ _ _=>rfl⟩|exact .inr ⟨rfl,rfl⟩|rfl
theorem Ye {f:Func} {s:ChangeSpec} {apart fresh handsOn again:Bool} {args:Array Value} {ds gs:List (DataW H)} {before pa pv:List MemPlace}
  (hW:DataW.Whole en P f.params.toList s.vars apart W args.toList ds gs before)
  (hres:∀ (b:Nat) (sp:Nat->Bool) (hd:Bool),DataW.TrodAll en P W' b sp hd f.resultTypes.toList (v.resultList f.resultTypes.size) (s.fn H (ds++gs)).results [])
  (hargs:∀ sp:Nat->Bool,(∀ p∈before,sp p.block=true)->DataW.TrodAll en P W' 0 sp true f.params.toList args.toList (s.fn H (ds++gs)).args pa)
  (hvars:∀ sp:Nat->Bool,(∀ p∈before,sp p.block=true)->DataW.TrodVars en P W' sp s.vars (s.fn H (ds++gs)).vars pv)
  (hps:before=pa++pv) (hk:W.keptBut W' (·∈before)) (hold:∀ b,b<W.heap.size->W'.heap[b]? = W.heap[b]?)
  (hok:∀ (j:Nat) (t:TypeId) (r:Value),f.resultTypes[j]? = some t->(v.resultList f.resultTypes.size)[j]? = some r->Value.okWide P W' .any 0 t r) :
  s.post en P f apart fresh handsOn again W args v W':=by
 have hin:∀ p∈before,(λ b=>decide (b<W.heap.size)) p.block=true:=λ p hp=>by simpa using hW.lt p hp
 have hlt:=hW.lt
 refine ⟨ds,gs,before,[],pa,pv,hW,hres _ _ _,hargs _ hin,hvars _ hin,World.keptBut_mono (λ p hp=>⟨hp,?_⟩) hk,λ _=>?_⟩
 ·rw [hps,List.mem_append] at hp
  exact Or.inr hp
 ·obtain ⟨_,_,_,_,_,hz,hn⟩:=hW
  refine ⟨hok,_,_,([]++pa)++pv,⟨[]++pa,pv,trodAll_append (hargs _ (λ _ _=>rfl)) (hres _ _ _),hvars _ (λ _ _=>rfl),rfl,?_,?_⟩,?_⟩
  ·intro b off hp
   have hp:MemPlace.cell b off∈before:=by rw [hps];simpa using hp
   have:=hz b off hp
   simp only [World.frozen?,hold b (hlt _ hp)] at this ⊢
   exact this
  ·intro ha
   have:=hn ha
   rw [hps] at this
   simpa using this
  ·intro p hp _
   rw [hps]
   simpa using hp
theorem Ja3 (hl:laidOutB P=true) (hr:P.readableRec t=true) (hrow:t<P.types.size) (h:DataW.Trod en P W 0 (λ _=>true) true t v d ps) (hb:∀ p∈ps,p.block<W.heap.size) {sp:Nat->Bool} (hs:∀ p∈ps,sp p.block=true) (hold:∀ b,b<W.heap.size->W'.heap[b]? = W.heap[b]?):DataW.Trod en P W' 0 sp true t v d ps:=by
 refine WideElems.Trod_stays hl hr hrow h (λ p hp=>?_) hs
 have:=hb p hp
 cases p with
 | cell b o=>exact World.cell?_of_block (w:=W) (hold b this)
 | map b=>exact hold b this
end Go.AI
end
section
namespace Go.AI
open Go.Proofs Go.ChangeShapes Go.WideShapes Go.ChangeAt Go.RowKit
def okI (k:IntKind) (n:Int):Prop:=(Lit.int k n).wf=true
theorem rd5:Hr Try.prog 5 eU8 (okI .u8):=Yd Try.underlying5
theorem JgD:Hr Try.prog 25 (eL eU8) (λ l=>∀ a∈l,okI .u8 a):=OK (sz:=1) Try.underlying25 (by kernel_rfl) rfl (λ _=>rfl) rd5
theorem JiU:Hr Try.prog 68 (JhN eU8) (λ x=>okI .u8 x.a0/\okI .u8 x.a1):=by
 intro H e w base spare held fuel cs x h
 obtain ⟨m,hcl,hg⟩:=Wo Try.underlying68 h
 have hcl:cs.length=2:=hcl.trans (by kernel_rfl)
 obtain ⟨a0,k0,c0⟩:=Jid hg 0 rfl 0 1 (by kernel_rfl) rfl rd5
 obtain ⟨a1,k1,c1⟩:=Jid hg 1 rfl 1 1 (by kernel_rfl) rfl rd5
 refine ⟨⟨a0,a1⟩,⟨k0,k1⟩,?_⟩
 have:=EL c0 rfl (EL c1 rfl (Tu (Nat.le_of_eq hcl)))
 exact this
def JB (x:Dc):Prop:=(∀ a∈x.P,okI .u8 a)/\(∀ a∈x.C,okI .u8 a)/\okI .u8 x.L/\okI .u8 x.R/\(okI .u8 x.W.a0/\okI .u8 x.W.a1)
theorem JiV:Hr Try.prog 70 Fj JB:=by
 intro H e w base spare held fuel cs x h
 obtain ⟨xs,n,_,_,hcl,hxl,hg⟩:=DataW.trod_struct Try.underlying70 h
 have hcl:cs.length=6:=hcl.trans (by kernel_rfl)
 obtain ⟨a0,k0,c0⟩:=fld hg hxl 0 rfl 25 0 1 rfl rfl (by kernel_rfl) JgD
 obtain ⟨a1,k1,c1⟩:=fld hg hxl 1 rfl 25 1 1 rfl rfl (by kernel_rfl) JgD
 obtain ⟨a2,k2,c2⟩:=fld hg hxl 2 rfl 5 2 1 rfl rfl (by kernel_rfl) rd5
 obtain ⟨a3,k3,c3⟩:=fld hg hxl 3 rfl 5 3 1 rfl rfl (by kernel_rfl) rd5
 obtain ⟨a4,k4,c4⟩:=fld hg hxl 4 rfl 68 4 2 rfl rfl (by kernel_rfl) JiU
 refine ⟨⟨a0,a1,a2,a3,a4⟩,⟨k0,k1,k2,k3,k4⟩,?_⟩
 have:=EL c0 rfl (EL c1 rfl (EL c2 rfl (EL c3 rfl (EL c4 rfl (Tu (Nat.le_of_eq hcl))))))
 exact this
theorem JiW:Hr Try.prog 22 (eL Fj) (λ l=>∀ a∈l,JB a):=OK (sz:=6) Try.underlying22 (by kernel_rfl) rfl (λ _=>rfl) JiV
def Wp (x:KB):Prop:=okI .u8 x.Base/\okI .u8 x.Drop/\(∀ a∈x.More,JB a)
theorem JiX:Hr Try.prog 24 JhO Wp:=by
 intro H e w base spare held fuel cs x h
 obtain ⟨xs,n,_,_,hcl,hxl,hg⟩:=DataW.trod_struct Try.underlying24 h
 have hcl:cs.length=3:=hcl.trans (by kernel_rfl)
 obtain ⟨a0,k0,c0⟩:=fld hg hxl 0 rfl 5 0 1 rfl rfl (by kernel_rfl) rd5
 obtain ⟨a1,k1,c1⟩:=fld hg hxl 1 rfl 5 1 1 rfl rfl (by kernel_rfl) rd5
 obtain ⟨a2,k2,c2⟩:=fld hg hxl 2 rfl 22 2 1 rfl rfl (by kernel_rfl) JiW
 refine ⟨⟨a0,a1,a2⟩,⟨k0,k1,k2⟩,?_⟩
 have:=EL c0 rfl (EL c1 rfl (EL c2 rfl (Tu (Nat.le_of_eq hcl))))
 exact this
theorem rd9:Hr Try.prog 9 eS (λ _=>True):=Tt Try.underlying9
end Go.AI
end
section
namespace Go.AI
def Le {α:Type} (a b:Option α):Prop:=∀ z,a=some z->b=some z
theorem Le.refl {α:Type} (a:Option α):Le a a:=λ _ h=>h
theorem Le.bind {α β:Type} {a a':Option α} {f f':α->Option β} (h:Le a a') (hf:∀ x,Le (f x) (f' x)):Le (a.bind f) (a'.bind f'):=by
 intro z hz
 obtain ⟨x,h1,h2⟩:=bind_some hz
 rw [h x h1]
 exact hf x z h2
theorem Le.ite {α:Type} {c:Prop} [Decidable c] {a a' b b':Option α} (h:Le a a') (h':Le b b'):Le (if c then a else b) (if c then a' else b'):=by
 split
 ·exact h
 ·exact h'
theorem Le.whl {σ ρ:Type} {body body':σ->Option (σ⊕ρ)} (hb:∀ x,Le (body x) (body' x)):∀ {n m:Nat},n<=m->∀ x,Le (whl body n x) (whl body' m x):=by
 intro n
 induction n with
 | zero=>intro m _ x z hz;cases hz
 | succ n ih=>
  intro m hm x z hz
  cases m with
  | zero=>omega
  | succ m=>
   simp only [Go.AI.whl] at hz ⊢
   cases hx:body x with
   | none=>rw [hx] at hz;cases hz
   | some y=>
    rw [hb x y hx]
    rw [hx] at hz
    cases y with
    | inl y=>exact ih (by omega) y z hz
    | inr r=>exact hz
theorem Le.sum {α β γ:Type} {y:α⊕β} {f f':α->Option γ} {g g':β->Option γ} (hf:∀ a,Le (f a) (f' a)) (hg:∀ b,Le (g b) (g' b)):Le (match y with | .inl a=>f a | .inr b=>g b) (match y with | .inl a=>f' a | .inr b=>g' b):=by
 cases y with
 | inl a=>exact hf a
 | inr b=>exact hg b
def Ev {α:Type} (f:Nat->Option α) (z:α):Prop:=∃ n,∀ m,n<=m->f m=some z
theorem Ev.const {α:Type} {z:α}:Ev (λ _=>some z) z:=⟨0,λ _ _=>rfl⟩
theorem Ev.of {α:Type} {f:Nat->Option α} {z:α} (hm:∀ n m,n<=m->Le (f n) (f m)) {n:Nat} (h:f n=some z):Ev f z:=⟨n,λ m hnm=>hm n m hnm z h⟩
theorem Ev.all {α:Type} {f:Nat->Option α} {z:α} (h:∀ n,f n=some z):Ev f z:=⟨0,λ m _=>h m⟩
theorem Ev.bind {α β:Type} {f:Nat->Option α} {g:Nat->α->Option β} {x:α} {z:β} (h:Ev f x) (hg:Ev (λ n=>g n x) z):Ev (λ n=>(f n).bind (g n)) z:=by
 obtain ⟨n,hn⟩:=h
 obtain ⟨m,hm⟩:=hg
 refine ⟨max n m,λ k hk=>?_⟩
 show (f k).bind (g k)=_
 rw [hn k (by omega)]
 exact hm k (by omega)
theorem Ev.out {α:Type} {f:Nat->Option α} {z:α} (h:Ev f z):∃ n,f n=some z:=by
 obtain ⟨n,hn⟩:=h
 exact ⟨n,hn n (Nat.le_refl n)⟩
theorem Ev.congr {α:Type} {f g:Nat->Option α} {z:α} (h:Ev f z) (e:∀ n,g n=f n):Ev g z:=by
 obtain ⟨n,hn⟩:=h
 exact ⟨n,λ m hm=>by rw [e m];exact hn m hm⟩
theorem Ev.whl {σ ρ:Type} {body:Nat->σ->Option (σ⊕ρ)} {r:ρ} (I:Nat->σ->Prop) (h:∀ k x,I k x->(∃ y j,j<k/\I j y/\Ev (λ n=>body n x) (.inl y))\/Ev (λ n=>body n x) (.inr r)):∀ (k:Nat) (x:σ),I k x->Ev (λ n=>Go.AI.whl (body n) n x) r:=by
 have key:∀ (k:Nat) (x:σ),I k x->∃ N c,∀ n fuel,N<=n->c<=fuel->Go.AI.whl (body n) fuel x=some r:=by
  intro k
  induction k using Nat.strongRecOn with
  | _ k ih=>
   intro x hx
   rcases h k x hx with ⟨y,j,hj,hy,N1,h1⟩|⟨N1,h1⟩
   ·obtain ⟨N2,c,h2⟩:=ih j hj y hy
    refine ⟨max N1 N2,c+1,λ n fuel hn hf=>?_⟩
    cases fuel with
    | zero=>omega
    | succ fuel=>
     have e:=h1 n (by omega)
     simp only at e
     simp only [Go.AI.whl,e]
     exact h2 n fuel (by omega) (by omega)
   ·refine ⟨N1,1,λ n fuel hn hf=>?_⟩
    cases fuel with
    | zero=>omega
    | succ fuel=>
     have e:=h1 n hn
     simp only at e
     simp only [Go.AI.whl,e]
 intro k x hx
 obtain ⟨N,c,hh⟩:=key k x hx
 exact ⟨max N c,λ m hm=>hh m m (by omega) (by omega)⟩
end Go.AI
end
section
namespace Go.AI
theorem lr {α:Type} {x:Option α}:Le x x:=Le.refl x
theorem M8 {n m} (_:n<=m) (a b):Le (Fv n a b) (Fv m a b):=.ite (.bind lr λ _=>.bind lr λ _=>.bind lr λ _=>lr) lr
theorem QZ {n m} (h:n<=m):Le (HM n) (HM m):=.bind (Le.whl (λ _=>M8 h _ _) h _) λ _=>.bind lr λ _=>lr
theorem L9 {n m} (_:n<=m) (a):Le (Dx n a) (Dx m a):=lr
theorem Q0 {n m} (h:n<=m) (a b):Le (E7 n a b) (E7 m a b):=.ite (.bind lr λ _=>.bind (L9 h _) λ _=>.ite lr lr) lr
theorem OL {n m} (h:n<=m) (a):Le (Hf n a) (Hf m a):=.bind (Le.whl (λ _=>Q0 h _ _) h _) λ y2=>by rcases y2 with _|_;exact lr;exact lr
theorem GV {n m} (_:n<=m) (a):Le (Eg n a) (Eg m a):=.ite lr (.ite lr (.ite lr (.ite lr lr)))
theorem Ma {n m} (h:n<=m) (a b):Le (CY n a b) (CY m a b):=.ite (.bind lr λ _=>.bind (GV h _) λ _=>.ite lr lr) lr
theorem Pb {n m} (h:n<=m) (a):Le (Eh n a) (Eh m a):=.bind (Le.whl (λ _=>Ma h _ _) h _) λ y5=>by rcases y5 with _|_;exact lr;exact lr
theorem Tw {n m} (_:n<=m) (a):Le (IB n a) (IB m a):=lr
theorem Pc {n m} (h:n<=m) (a b):Le (Ei n a b) (Ei m a b):=.ite (.bind lr λ _=>.bind (Tw h _) λ _=>.ite lr lr) lr
theorem Tx {n m} (h:n<=m) (a b):Le (G0 n a b) (G0 m a b):=.ite lr (.bind (OL h _) λ _=>.ite lr (.ite lr (.ite lr (.bind (Pb h _) λ _=>.ite (.bind (Le.ite (lr) (lr)) λ _=>lr) (.bind (Le.whl (λ _=>Pc h _ _) h _) λ y8=>by rcases y8 with _|_;exact lr;exact lr)))))
theorem Pd {n m} (_:n<=m) (a b c):Le (Ej n a b c) (Ej m a b c):=.ite (.bind lr λ _=>.bind lr λ _=>.ite lr lr) lr
theorem Tz {n m} (h:n<=m) (a b):Le (G1 n a b) (G1 m a b):=.ite lr (.bind (Le.whl (λ _=>Pd h _ _ _) h _) λ y11=>by rcases y11 with _|_;exact lr;exact lr)
theorem TA {n m} (h:n<=m) (a b):Le (G2 n a b) (G2 m a b):=.bind (Le.ite (Tz h _ _) (lr)) λ _=>lr
theorem Pe {n m} (h:n<=m) (a b c d e):Le (Dq n a b c d e) (Dq m a b c d e):=.ite (.bind lr λ _=>.bind (TA h _ _) λ _=>.ite lr lr) lr
theorem Pf {n m} (h:n<=m) (a b):Le (Dr n a b) (Dr m a b):=.ite (.bind lr λ _=>.bind (Tx h _ _) λ _=>.ite lr (.bind lr λ _=>.bind (Le.whl (λ _=>Pe h _ _ _ _ _) h _) λ y14=>by rcases y14 with _|_;exact lr;exact lr)) lr
theorem TB {n m} (h:n<=m) (a):Le (G3 n a) (G3 m a):=.ite lr (.bind (Le.ite (lr) (lr)) λ _=>.ite lr (.ite lr (.bind (Le.whl (λ _=>Pf h _ _) h _) λ y17=>by rcases y17 with _|_;exact lr;exact lr)))
theorem TC {n m} (h:n<=m) (a):Le (E8 n a) (E8 m a):=.bind (TB h _) λ _=>lr
theorem TD {n m} (_:n<=m):Le (IC n) (IC m):=lr
theorem JC {n m} (_:n<=m) (a b):Le (GN n a b) (GN m a b):=.bind (Le.ite (lr) (lr)) λ _=>lr
theorem OM {n m} (h:n<=m) (a b c):Le (Hg n a b c) (Hg m a b c):=.ite lr (.bind lr λ _=>.bind (Le.ite (JC h _ _) (lr)) λ _=>.ite lr (.ite (.ite lr lr) (.bind lr λ _=>.bind (GV h _) λ _=>.bind (JC h _ _) λ _=>.ite lr (.bind lr λ _=>.bind (GV h _) λ _=>lr))))
theorem H7 {n m} (_:n<=m) (a b c d):Le (Cp n a b c d) (Cp m a b c d):=lr
theorem H8 {n m} (h:n<=m) (a b c d e f):Le (CM n a b c d e f) (CM m a b c d e f):=.bind lr λ _=>.bind lr λ _=>H7 h _ _ _ _
theorem M9 {n m} (h:n<=m) (a b c d e f):Le (Bu n a b c d e f) (Bu m a b c d e f):=.ite (.bind lr λ _=>.bind (OM h _ _ _) λ _=>.ite (H7 h _ _ _ _) (.ite (.bind lr λ _=>.bind lr λ _=>H8 h _ _ _ _ _ _) (H8 h _ _ _ _ _ _))) lr
theorem Na {n m} (h:n<=m) (a b c d e):Le (Cq n a b c d e) (Cq m a b c d e):=.ite (.bind (Le.whl (λ _=>M9 h _ _ _ _ _ _) h _) λ _=>lr) lr
theorem Q1 {n m} (h:n<=m) (a):Le (E9 n a) (E9 m a):=.bind (TD h) λ _=>.bind (Le.whl (λ _=>Na h _ _ _ _ _) h _) λ _=>lr
theorem RG {n m} (h:n<=m) (a):Le (Hh n a) (Hh m a):=.bind (Q1 h _) λ _=>lr
theorem N4 {n m} (_:n<=m) (a b):Le (ED n a b) (ED m a b):=.bind (Le.ite (lr) (lr)) λ _=>lr
theorem N5 {n m} (h:n<=m) (a b):Le (EE n a b) (EE m a b):=.bind (N4 h _ _) λ _=>lr
theorem Q2 {n m} (h:n<=m) (a b):Le (Fa n a b) (Fa m a b):=.bind (Le.ite (JC h _ _) (lr)) λ _=>.bind (Le.ite (JC h _ _) (lr)) λ _=>lr
theorem H9 {n m} (_:n<=m) (a):Le (Dd n a) (Dd m a):=lr
theorem N6 {n m} (h:n<=m) (a b):Le (DG n a b) (DG m a b):=.bind (H9 h _) λ _=>.bind (Le.ite (H9 h _) (lr)) λ _=>lr
theorem IV {n m} (_:n<=m) (a):Le (EF n a) (EF m a):=lr
theorem Ge {n m} (h:n<=m) (a b c d):Le (A5 n a b c d) (A5 m a b c d):=.ite (.bind lr λ _=>.bind (N6 h _ _) λ _=>.ite lr lr) lr
theorem GW {n m} (h:n<=m) (a b):Le (Bk n a b) (Bk m a b):=.bind (Le.whl (λ _=>Ge h _ _ _ _) h _) λ _=>.bind (Le.ite (lr) (lr)) λ _=>.bind (Le.ite (lr) (lr)) λ _=>.bind (Le.ite (IV h _) (lr)) λ _=>.bind (Le.ite (IV h _) (lr)) λ _=>lr
theorem EX {n m} (h:n<=m) (a b):Le (Bx n a b) (Bx m a b):=.bind (GW h _ _) λ _=>.ite lr (.bind lr λ _=>lr)
theorem Ls {n m} (_:n<=m) (a b c d e f):Le (BV n a b c d e f) (BV m a b c d e f):=.ite (.bind lr λ _=>lr) lr
theorem GM {n m} (_:n<=m) (a b):Le (Cj n a b) (Cj m a b):=lr
theorem Lt {n m} (h:n<=m) (a b c d e f g):Le (BW n a b c d e f g) (BW m a b c d e f g):=.ite (.bind (OM h _ _ _) λ _=>.ite (.bind lr λ _=>.bind lr λ _=>GM h _ _) (GM h _ _)) lr
theorem Lu {n m} (h:n<=m) (a b c d e):Le (Ck n a b c d e) (Ck m a b c d e):=.ite (.bind lr λ _=>.bind (Le.whl (λ _=>Lt h _ _ _ _ _ _ _) h _) λ _=>lr) lr
theorem N7 {n m} (h:n<=m) (a b):Le (DH n a b) (DH m a b):=.bind (RG h _) λ _=>.bind lr λ _=>.bind (Le.whl (λ _=>Ls h _ _ _ _ _ _) h _) λ _=>.bind lr λ _=>.bind (Le.whl (λ _=>Lu h _ _ _ _ _) h _) λ _=>lr
theorem FV {n m} (_:n<=m) (a b c d):Le (BS n a b c d) (BS m a b c d):=.bind lr λ _=>.bind lr λ _=>.bind lr λ _=>.ite (.bind lr λ _=>.bind lr λ _=>.bind lr λ _=>.bind lr λ _=>lr) lr
theorem DS {n m} (h:n<=m) (a b c):Le (Bv n a b c) (Bv m a b c):=.bind lr λ _=>.bind lr λ _=>.bind (N5 h _ _) λ _=>lr
theorem Ja4 {n m} (_:n<=m) (a):Le (Sk n a) (Sk m a):=lr
theorem JD {n m} (_:n<=m) (a b c):Le (BD n a b c) (BD m a b c):=.ite (.bind lr λ _=>.bind lr λ _=>.bind lr λ _=>lr) lr
theorem FA {n m} (_:n<=m) (a b c):Le (BE n a b c) (BE m a b c):=lr
theorem JE {n m} (h:n<=m) (a b c d e f g i):Le (Bl n a b c d e f g i) (Bl m a b c d e f g i):=.ite (.bind lr λ _=>.bind (DS h _ _ _) λ _=>.ite (.bind (FV h _ _ _ _) λ _=>FA h _ _ _) (FA h _ _ _)) lr
theorem FB {n m} (h:n<=m) (a b c d e f g):Le (BF n a b c d e f g) (BF m a b c d e f g):=.bind lr λ _=>.bind (Le.whl (λ _=>JE h _ _ _ _ _ _ _ _) h _) λ _=>lr
theorem JF {n m} (h:n<=m) (a b c d e f):Le (BG n a b c d e f) (BG m a b c d e f):=.bind lr λ _=>.ite (.bind lr λ _=>.bind lr λ _=>.bind lr λ _=>.bind lr λ _=>.ite (FB h _ _ _ _ _ _ _) (FB h _ _ _ _ _ _ _)) lr
theorem FC {n m} (h:n<=m) (a b c d e):Le (Bm n a b c d e) (Bm m a b c d e):=.bind (Le.whl (λ _=>JF h _ _ _ _ _ _) h _) λ _=>.bind lr λ _=>.bind (Ja4 h _) λ _=>.bind lr λ _=>.bind lr λ _=>.bind lr λ _=>lr
theorem JG {n m} (h:n<=m) (a b c d):Le (BH n a b c d) (BH m a b c d):=.ite (.ite (.bind lr λ _=>.bind (GV h _) λ _=>FC h _ _ _ _ _) (FC h _ _ _ _ _)) lr
theorem Lv {n m} (h:n<=m) (a):Le (CI n a) (CI m a):=.bind (Le.whl (λ _=>JD h _ _ _) h _) λ _=>.bind (FV h _ _ _ _) λ _=>.bind (Le.whl (λ _=>JG h _ _ _ _) h _) λ _=>lr
theorem C9 {n m} (_:n<=m) (a b c):Le (Bb n a b c) (Bb m a b c):=lr
theorem Ik {n m} (h:n<=m) (a b c d e f g i):Le (Bc n a b c d e f g i) (Bc m a b c d e f g i):=.ite (.bind lr λ _=>.bind (DS h _ _ _) λ _=>.ite (C9 h _ _ _) (.bind lr λ _=>.bind (EX h _ _) λ _=>.bind lr λ _=>.bind lr λ _=>.bind (Le.ite (lr) (lr)) λ _=>.bind (Le.ite (lr) (lr)) λ _=>.ite (.bind lr λ _=>.bind lr λ _=>.bind lr λ _=>C9 h _ _ _) (C9 h _ _ _))) lr
theorem FW {n m} (h:n<=m) (a b c d e):Le (BT n a b c d e) (BT m a b c d e):=.bind lr λ _=>.bind lr λ _=>.bind lr λ _=>.bind (Le.whl (λ _=>Ik h _ _ _ _ _ _ _ _) h _) λ _=>lr
theorem FD {n m} (_:n<=m) (a b):Le (BI n a b) (BI m a b):=lr
theorem JH {n m} (h:n<=m) (a b c d e f g):Le (Bn n a b c d e f g) (Bn m a b c d e f g):=.ite (.bind lr λ _=>.bind lr λ _=>.bind lr λ _=>.bind lr λ _=>.bind (Le.ite (lr) (lr)) λ _=>.bind (Le.ite (Q2 h _ _) (lr)) λ _=>.ite (.bind lr λ _=>.bind lr λ _=>FD h _ _) (FD h _ _)) lr
theorem JI {n m} (h:n<=m) (a b c d):Le (Bo n a b c d) (Bo m a b c d):=.ite (.bind (FW h _ _ _ _ _) λ _=>lr) lr
theorem JJ {n m} (h:n<=m) (a b c d e):Le (Bp n a b c d e) (Bp m a b c d e):=.ite (.bind (FW h _ _ _ _ _) λ _=>lr) lr
theorem JK {n m} (h:n<=m) (a b):Le (BJ n a b) (BJ m a b):=.bind lr λ _=>.bind (Le.whl (λ _=>JJ h _ _ _ _ _) h _) λ _=>.ite lr lr
theorem JL {n m} (h:n<=m) (a b):Le (B7 n a b) (B7 m a b):=.ite (.bind lr λ _=>.bind lr λ _=>.bind lr λ _=>.bind lr λ _=>.bind (Le.whl (λ _=>JH h _ _ _ _ _ _ _) h _) λ _=>.bind lr λ _=>.bind (Le.whl (λ _=>JI h _ _ _ _) h _) λ _=>.bind (Le.whl (λ _=>JK h _ _) h _) λ _=>lr) lr
theorem Lw {n m} (h:n<=m) (a):Le (CJ n a) (CJ m a):=.bind (Le.whl (λ _=>JL h _ _) h _) λ _=>lr
theorem Eu {n m} (_:n<=m) (a):Le (Bh n a) (Bh m a):=lr
theorem HB {n m} (h:n<=m) (a b c d e f):Le (Bi n a b c d e f) (Bi m a b c d e f):=.ite (.bind lr λ _=>.bind (DS h _ _ _) λ _=>.ite (Eu h _) (.bind lr λ _=>.bind lr λ _=>.bind (EX h _ _) λ _=>.ite (Eu h _) (.bind lr λ _=>.bind lr λ _=>lr))) lr
theorem HC {n m} (h:n<=m) (a b c d e):Le (Bz n a b c d e) (Bz m a b c d e):=.ite (.bind lr λ _=>.bind (Le.whl (λ _=>HB h _ _ _ _ _ _) h _) λ y40=>by rcases y40 with _|_;exact lr;exact lr) lr
theorem JM {n m} (h:n<=m) (a):Le (B8 n a) (B8 m a):=.bind lr λ _=>.bind (EX h _ _) λ _=>.bind (Le.whl (λ _=>HC h _ _ _ _ _) h _) λ _=>lr
theorem TE {n m} (h:n<=m) (a b):Le (G4 n a b) (G4 m a b):=.bind (OL h _) λ _=>.ite lr (.bind (TC h _) λ _=>.ite lr (.bind (N7 h _ _) λ _=>.bind (Lv h _) λ _=>.bind (Lw h _) λ _=>.bind lr λ _=>.bind lr λ _=>.ite lr (.bind (JM h _) λ _=>lr)))
theorem TF {n m} (_:n<=m) (a b):Le (K6 n a b) (K6 m a b):=lr
theorem Q3 {n m} (_:n<=m) (a b c d e):Le (Gs n a b c d e) (Gs m a b c d e):=.ite lr lr
theorem Nb {n m} (h:n<=m) (a b c d e f g i j k):Le (Cr n a b c d e f g i j k) (Cr m a b c d e f g i j k):=.ite (.bind (Q3 h _ _ _ _ _) λ _=>.ite lr lr) lr
theorem Nc {n m} (h:n<=m) (a b c d e f g):Le (De n a b c d e f g) (De m a b c d e f g):=.ite (.bind lr λ _=>.bind lr λ _=>.bind (Le.whl (λ _=>Nb h _ _ _ _ _ _ _ _ _ _) h _) λ y44=>by rcases y44 with _|_;exact (.bind lr λ _=>lr);exact lr) lr
theorem Q4 {n m} (h:n<=m) (a b c d e):Le (Fb n a b c d e) (Fb m a b c d e):=.bind (Le.whl (λ _=>Nc h _ _ _ _ _ _ _) h _) λ y47=>by rcases y47 with _|_;exact lr;exact lr
theorem Ka {n m} (_:n<=m) (a):Le (Fw n a) (Fw m a):=lr
theorem Du {n m} (h:n<=m) (a b c):Le (CK n a b c) (CK m a b c):=.bind (TE h _ _) λ _=>.ite lr (.ite lr (.bind (TF h _ _) λ _=>.bind (Q4 h _ _ _ _ _) λ _=>.ite (Ka h _) (.ite (Ka h _) lr)))
theorem TG {n m} (_:n<=m) (a b):Le (K7 n a b) (K7 m a b):=.ite lr (.bind lr λ _=>lr)
theorem Mb {n m} (_:n<=m) (a b):Le (EP n a b) (EP m a b):=.ite (.bind lr λ _=>.ite lr lr) lr
theorem Pg {n m} (h:n<=m) (a):Le (GO n a) (GO m a):=.bind (Le.whl (λ _=>Mb h _ _) h _) λ y50=>by rcases y50 with _|_;exact lr;exact lr
theorem Vc {n m} (h:n<=m) (a b):Le (MJ n a b) (MJ m a b):=.ite lr (.bind lr λ _=>.ite lr (.bind (TG h _ _) λ _=>.bind lr λ _=>.bind lr λ _=>.ite lr (.bind lr λ _=>.bind (Pg h _) λ _=>.ite lr lr)))
theorem FE {n m} (h:n<=m) (a b c d e):Le (Df n a b c d e) (Df m a b c d e):=.ite (.bind lr λ _=>.bind (Du h _ _ _) λ _=>.ite lr (.bind (Le.ite (lr) (lr)) λ _=>.ite lr lr)) lr
theorem Q5 {n m} (h:n<=m) (a b c d):Le (HN n a b c d) (HN m a b c d):=.bind (Vc h _ _) λ _=>.ite lr (.bind lr λ _=>.ite (FE h _ _ _ _ _) (.ite (FE h _ _ _ _ _) (FE h _ _ _ _ _)))
theorem Q6 {n m} (h:n<=m):Le (Gt n) (Gt m):=.bind (QZ h) λ _=>.bind (Du h _ _ _) λ _=>.bind (Du h _ _ _) λ _=>.bind (Du h _ _ _) λ _=>.bind (Du h _ _ _) λ _=>.bind (Du h _ _ _) λ _=>.bind (Du h _ _ _) λ _=>.bind (Q5 h _ _ _ _) λ _=>lr
end Go.AI
end
section
namespace Go.AI
theorem Wq (a:Int):IntKind.i64.wrap a=if decide (a % 18446744073709551616>=9223372036854775808)=true then a % 18446744073709551616-18446744073709551616 else a % 18446744073709551616:=rfl
theorem Sm (a:Int):IntKind.u8.wrap a=a % 256:=rfl
theorem Q7 {a:Int} (h:-9223372036854775808<=a) (h':a<9223372036854775808):IntKind.i64.wrap a=a:=by
 rw [Wq]
 split
 ·rename_i hc;simp at hc;omega
 ·rename_i hc;simp at hc;omega
theorem N8 {a b:Int} (h:-9223372036854775808<=a+b) (h':a+b<9223372036854775808):Az .i64 a b=a+b:=Q7 h h'
theorem Ja5 {a b:Int} (h:-9223372036854775808<=a-b) (h':a-b<9223372036854775808):Jk .i64 a b=a-b:=Q7 h h'
theorem Jie {a:Int} (h:0<=a) (h':a<256):IntKind.u8.wrap a=a:=by
 rw [Sm];omega
theorem Vd (a:Int):0<=IntKind.u8.wrap a/\IntKind.u8.wrap a<256:=by
 rw [Sm];omega
def Gf (m k:Int):Bool:=decide (0<=k)&&decide (k<8)&&(Cm .u8 (Qd .u8 m k) 1==1)
theorem Ja6 (n:Nat) (m k:Int):GN n m k=some (Gf m k):=by
 unfold GN Gf
 by_cases h:0<=k
 ·by_cases h':k<8<;>simp [h,h',CA]
 ·simp [h]
theorem Ws (n:Nat) (m k:Int):HQ n m k=some (Gf m k):=by
 unfold HQ Gf
 by_cases h:0<=k
 ·by_cases h':k<8<;>simp [h,h',CA]
 ·simp [h]
def FF (b:Int):Int:=
 if (decide (97<=Cm .u8 b 127)&&decide (Cm .u8 b 127<=122))=true then 1
 else if (decide (65<=Cm .u8 b 127)&&decide (Cm .u8 b 127<=90))=true then 2
 else if (decide (48<=Cm .u8 b 127)&&decide (Cm .u8 b 127<=57))=true then 3
 else if (Cm .u8 b 127==32)=true then 4 else 5
theorem Q8 (n:Nat) (b:Int):Eg n b=some (FF b):=by
 unfold Eg FF
 split
 ·rfl
 ·split
  ·rfl
  ·split
   ·rfl
   ·split<;>rfl
theorem Sn (n:Nat) (b:Int):G5 n b=some (FF b):=by
 unfold G5 FF
 simp only [ge_iff_le]
 split
 ·rfl
 ·split
  ·rfl
  ·split
   ·rfl
   ·split<;>rfl
theorem ON (b:Int):1<=FF b/\FF b<=5:=by
 unfold FF
 split
 ·omega
 ·split
  ·omega
  ·split
   ·omega
   ·split<;>omega
def OO (s:List UInt8) (i:Nat):Int:=(s[i]?.getD 0).toNat
theorem JN {s:List UInt8} {i:Nat} (h:i<s.length):Lk s (i:Int)=some (OO s i):=by
 unfold Lk OO
 rw [if_pos (by omega)]
 simp
def Xc:Aa:=⟨0,0,0⟩
def Xd (r:Av) (s:Aa):Aa×Bool:=
 if ((r.From != s.Mode)||!Gf r.Left s.Last)=true then (Xc,false)
 else if (r.Print==[])=true then
  (if (Cm .u8 s.Need r.Right==0)=true then (Xc,false) else (⟨r.To,s.Last,Cm .u8 s.Need r.Right⟩,true))
 else if (!Gf s.Need (FF (OO r.Print 0)))=true then (Xc,false)
 else (⟨r.To,FF (OO r.Print (r.Print.length-1)),r.Right⟩,true)
def Ap (t:Ac) (s:Aa) (k:Int):Aa×Bool:=
 if (decide (k<0)||decide (k>=(t.Rules.length:Int)))=true then (Xc,false) else Xd (t.Rules[k.toNat]?.getD default) s
def Ja7 (t:Ac):Prop:=∀ r∈t.Rules,r.Print.length<9223372036854775808
theorem Q9 {α:Type} [Inhabited α] {l:List α} {k:Int} (h:0<=k) (h':k<l.length):idx l k=some (l[k.toNat]?.getD default):=by
 unfold idx
 rw [if_pos h]
 have:k.toNat<l.length:=by omega
 simp [this]
theorem Pt {t:Ac} (ht:Ja7 t) (n:Nat) (s:Aa) (k:Int):Hg n t s k=some (Ap t s k):=by
 unfold Hg Ap
 by_cases hk:(decide (k<0)||decide (k>=(t.Rules.length:Int)))=true
 ·rw [if_pos hk,if_pos hk];rfl
 ·rw [if_neg hk,if_neg hk]
  simp only [Jjj,decide_eq_true_eq,not_or,Int.not_lt,ge_iff_le,Int.not_le] at hk
  rw [Q9 hk.1 hk.2]
  have hmem:(t.Rules[k.toNat]?.getD default)∈t.Rules:=by
   have:k.toNat<t.Rules.length:=by omega
   simp [this]
  have hlen:=ht _ hmem
  generalize t.Rules[k.toNat]?.getD default=r at hlen ⊢
  simp only [Option.bind_some,Ja6,Q8]
  unfold Xd
  by_cases h1:r.From=s.Mode
  ·simp only [h1,bne_self_eq_false,Bool.not_false,if_true,Option.bind_some,Bool.false_or]
   by_cases h2:Gf r.Left s.Last=true
   ·simp only [h2,Bool.not_true,Jjc,if_false]
    by_cases h3:r.Print=[]
    ·simp only [h3,beq_self_eq_true,if_true]
     split<;>rfl
    ·have h3':(r.Print==[])=false:=by simpa using h3
     have hpos:0<r.Print.length:=List.length_pos_iff.2 h3
     simp only [h3',Jjc,if_false]
     have e0:=JN (s:=r.Print) (i:=0) hpos
     simp only [Int.natCast_zero] at e0
     rw [e0]
     have e1:Jk .i64 ((r.Print.length:Nat):Int) 1=((r.Print.length-1:Nat):Int):=by rw [Ja5 (by omega) (by omega)];omega
     rw [e1,JN (by omega)]
     simp only [Option.bind_some]
     split<;>rfl
   ·have h2:Gf r.Left s.Last=false:=by simpa using h2
    simp only [h2,Bool.not_false,if_true];rfl
  ·have h1':(r.From != s.Mode)=true:=by simpa using h1
   simp only [h1',Bool.not_true,Jjc,if_false,Option.bind_some,Bool.true_or,if_true];rfl
end Go.AI
end
section
namespace Go.AI
theorem Aj {α:Type} {l:List α} {i:Nat} {x:α} (h:l[i]? = some x):i<l.length:=(List.getElem?_eq_some_iff.1 h).1
theorem Nd {t:Ac} (ht:Ja7 t) (n:Nat) (s:Aa) (k:Int):Hi n t s k=some (Ap t s k):=by
 unfold Hi Ap
 by_cases hk:(decide (k<0)||decide (k>=(t.Rules.length:Int)))=true
 ·rw [if_pos hk,if_pos hk];rfl
 ·rw [if_neg hk,if_neg hk]
  simp only [Jjj,decide_eq_true_eq,not_or,Int.not_lt,ge_iff_le,Int.not_le] at hk
  rw [Q9 hk.1 hk.2]
  have hmem:(t.Rules[k.toNat]?.getD default)∈t.Rules:=by
   have:k.toNat<t.Rules.length:=by omega
   simp [this]
  have hlen:=ht _ hmem
  generalize t.Rules[k.toNat]?.getD default=r at hlen ⊢
  simp only [Option.bind_some,Ws,Sn]
  unfold Xd
  by_cases h1:r.From=s.Mode
  ·simp only [h1,bne_self_eq_false,Bool.not_false,if_true,Option.bind_some,Bool.false_or]
   by_cases h2:Gf r.Left s.Last=true
   ·simp only [h2,Bool.not_true,Jjc,if_false]
    by_cases h3:r.Print=[]
    ·simp only [h3,List.length_nil,Int.natCast_zero,beq_self_eq_true,Bool.true_and,if_true]
     split<;>rfl
    ·have h3':(r.Print==[])=false:=by simpa using h3
     have hpos:0<r.Print.length:=List.length_pos_iff.2 h3
     have h4:(((r.Print.length:Nat):Int)==0)=false:=by simp;omega
     simp only [h3',h4,Bool.false_and,Jjc,if_false]
     have e0:=JN (s:=r.Print) (i:=0) hpos
     simp only [Int.natCast_zero] at e0
     rw [e0]
     have e1:Jk .i64 ((r.Print.length:Nat):Int) 1=((r.Print.length-1:Nat):Int):=by rw [Ja5 (by omega) (by omega)];omega
     rw [e1,JN (by omega)]
     simp only [Option.bind_some]
     split<;>rfl
   ·have h2:Gf r.Left s.Last=false:=by simpa using h2
    simp only [h2,Bool.not_false,if_true];rfl
  ·have h1':(r.From != s.Mode)=true:=by simpa using h1
   simp only [h1',Bool.not_true,Jjc,if_false,Option.bind_some,Bool.true_or,if_true];rfl
def Bw (t:Ac) (s:Aa):Bool:=decide (s.Mode<t.Modes)&&Gf t.Accept s.Mode&&Gf s.Need 0
theorem Wt (n:Nat) (t:Ac) (s:Aa):Fa n t s=some (Bw t s):=by
 unfold Fa Bw
 simp only [Ja6]
 by_cases h1:s.Mode<t.Modes
 ·cases h2:Gf t.Accept s.Mode<;>simp [h1]
 ·simp [h1]
theorem Ve (n:Nat) (t:Ac) (s:Aa):HR n t s=some (Bw t s):=by
 unfold HR Bw
 simp only [Ws]
 have h0:¬ (0<=s.Mode)->Gf t.Accept s.Mode=false:=λ h=>by simp [Gf,h]
 by_cases h:0<=s.Mode
 ·by_cases h1:s.Mode<t.Modes
  ·cases h2:Gf t.Accept s.Mode<;>simp [h,h1]
  ·simp [h1]
 ·simp [h,h0 h]
theorem eqS (a b:Aa):((a.Mode==b.Mode)&&((a.Last==b.Last)&&((a.Need==b.Need)&&true)))=decide (a=b):=by
 cases a;cases b
 simp [Bool.decide_and]
 rfl
def BU (l:List Aa) (s:Aa):Int:=match l.findIdx? (λ x=>decide (x=s)) with
 | some i=>i
 | none=>-1
theorem IW {l:List Aa} {s:Aa} (hl:l.length<9223372036854775807):Ev (λ n=>Fi n l s) (BU l s):=by
 have loop:Ev (λ n=>whl (λ x=>Dt n l s x) n (0:Int)) (match l.findIdx? (λ x=>decide (x=s)) with|some i=>(.inr (i:Int):Unit⊕Int)|none=>.inl ()):=by
  refine Ev.whl (body:=λ n x=>Dt n l s x) (λ k x=>∃ i:Nat,x=i/\i<=l.length/\k=l.length-i/\∀ j,j<i->∀ y,l[j]? = some y->y≠s) ?_ l.length 0 ⟨0,rfl,by omega,by omega,λ j hj=>by omega⟩
  rintro k x ⟨i,rfl,hi,rfl,hbefore⟩
  by_cases hlt:i<l.length
  ·have hg:l[i]? = some l[i]:=JiZ hlt
   have hidx:idx l (i:Int)=some l[i]:=by
    unfold idx
    rw [if_pos (by omega)]
    simp
   by_cases he:l[i]=s
   ·right
    refine Ev.all λ n=>?_
    unfold Dt
    rw [if_pos (by simpa using hlt),hidx]
    simp only [Option.bind_some,eqS,he,decide_true,if_true]
    have:l.findIdx? (λ x=>decide (x=s))=some i:=by
     rw [List.findIdx?_eq_some_iff_getElem]
     refine ⟨hlt,by simpa using he,λ j hj=>?_⟩
     have hj':j<l.length:=by omega
     have:=hbefore j hj l[j] (JiZ hj')
     simpa using this
    rw [this]
   ·left
    refine ⟨((i+1:Nat):Int),l.length-(i+1),by omega,⟨i+1,rfl,by omega,rfl,λ j hj y hy=>?_⟩,Ev.all λ n=>?_⟩
    ·by_cases hji:j=i
     ·subst hji;rw [hg] at hy;cases hy;exact he
     ·exact hbefore j (by omega) y hy
    ·unfold Dt
     rw [if_pos (by simpa using hlt),hidx]
     simp only [Option.bind_some,eqS,he,decide_false,Jjc,if_false]
     rw [N8 (by omega) (by omega)]
     rfl
  ·right
   have hi':i=l.length:=by omega
   subst hi'
   refine Ev.all λ n=>?_
   unfold Dt
   rw [if_neg (by simp)]
   have:l.findIdx? (λ x=>decide (x=s))=none:=by
    rw [List.findIdx?_eq_none_iff]
    intro y hy
    obtain ⟨j,hj⟩:=List.mem_iff_getElem?.1 hy
    have:=hbefore j (Aj hj) y hj
    simpa using this
   rw [this]
 refine (Ev.bind loop (g:=λ _ y=>match y with|Sum.inl _=>some (-1)|Sum.inr z=>some z) (z:=BU l s) ?_).congr λ n=>?_
 ·unfold BU
  cases l.findIdx? (λ x=>decide (x=s)) with
  | none=>exact Ev.const
  | some i=>exact Ev.const
 ·rfl
end Go.AI
end
section
namespace Go.AI
theorem Wu (a b:Int) (h:0<=b) (h':b<256):0<=Cm .u8 a b/\Cm .u8 a b<=b:=by
 unfold Cm
 have hb:(BitVec.ofInt 8 b).toNat=b.toNat:=by
  rw [BitVec.toNat_ofInt]
  omega
 have hle:(BitVec.ofInt 8 a &&& BitVec.ofInt 8 b).toNat<=b.toNat:=by
  rw [BitVec.toNat_and,hb];exact Nat.and_le_right
 have e:(BitVec.ofInt IntKind.u8.bits a &&& BitVec.ofInt IntKind.u8.bits b).toNat=(BitVec.ofInt 8 a &&& BitVec.ofInt 8 b).toNat:=rfl
 rw [e,Jie (by omega) (by omega)]
 omega
def Mc (r:Av):Prop:=0<=r.To/\r.To<2/\0<=r.Right/\r.Right<=63/\r.Print.length<=3
def Hs (t:Ac):Prop:=t.Rules.length<=11/\∀ r∈t.Rules,Mc r
theorem Hs.short {t:Ac} (h:Hs t):Ja7 t:=λ r hr=>by have:=(h.2 r hr).2.2.2.2;omega
def InU (s:Aa):Prop:=0<=s.Mode/\s.Mode<2/\0<=s.Last/\s.Last<=5/\0<=s.Need/\s.Need<=63
def JgE:List Aa:=(List.range 768).map λ i=>⟨(i / 384:Nat),(i / 64 % 6:Nat),(i % 64:Nat)⟩
theorem Ja8 {s:Aa} (h:InU s):s∈JgE:=by
 obtain ⟨h1,h2,h3,h4,h5,h6⟩:=h
 obtain ⟨m,l,d⟩:=s
 simp only at h1 h2 h3 h4 h5 h6
 simp only [JgE,List.mem_map,List.mem_range]
 refine ⟨m.toNat*384+l.toNat*64+d.toNat,by omega,?_⟩
 have e1:(m.toNat*384+l.toNat*64+d.toNat) / 384=m.toNat:=by omega
 have e2:(m.toNat*384+l.toNat*64+d.toNat) / 64 % 6=l.toNat:=by omega
 have e3:(m.toNat*384+l.toNat*64+d.toNat) % 64=d.toNat:=by omega
 rw [e1,e2,e3]
 congr 1<;>omega
theorem Ja9 {l m:List Aa} (h:l.Nodup) (hs:∀ x∈l,x∈m):l.length<=m.length:=by
 induction l generalizing m with
 | nil=>simp
 | cons a l ih=>
  rw [List.nodup_cons] at h
  have ha:=hs a (by simp)
  have hlen:(m.erase a).length=m.length-1:=List.length_erase_of_mem ha
  have hpos:0<m.length:=List.length_pos_of_mem ha
  have:=ih (m:=m.erase a) h.2 λ x hx=>by
   have hne:x≠a:=λ e=>h.1 (e▸hx)
   exact (List.mem_erase_of_ne hne).2 (hs x (by simp [hx]))
  simp
  omega
theorem Jba {l:List Aa} (h:l.Nodup) (hs:∀ x∈l,InU x):l.length<=768:=by
 have:=Ja9 h λ x hx=>Ja8 (hs x hx)
 simpa [JgE] using this
theorem Jbb {t:Ac} (ht:Hs t) {s:Aa} (hs:InU s) {k:Int} (h:(Ap t s k).2=true):InU (Ap t s k).1:=by
 unfold Ap at h ⊢
 split at h
 ·cases h
 ·rename_i hk
  rw [if_neg hk]
  simp only [Jjj,decide_eq_true_eq,not_or,Int.not_lt,ge_iff_le,Int.not_le] at hk
  have hmem:(t.Rules[k.toNat]?.getD default)∈t.Rules:=by
   have:k.toNat<t.Rules.length:=by omega
   simp [this]
  have hr:=ht.2 _ hmem
  generalize t.Rules[k.toNat]?.getD default=r at hr h ⊢
  obtain ⟨a1,a2,a3,a4,a5⟩:=hr
  obtain ⟨b1,b2,b3,b4,b5,b6⟩:=hs
  unfold Xd at h ⊢
  split at h
  ·cases h
  ·rename_i h1
   rw [if_neg h1]
   split at h
   ·rename_i h2
    rw [if_pos h2]
    split at h
    ·cases h
    ·rename_i h3
     rw [if_neg h3]
     have:=Wu s.Need r.Right a3 (by omega)
     exact ⟨a1,a2,b3,b4,this.1,by show Cm .u8 s.Need r.Right<=63;omega⟩
   ·rename_i h2
    rw [if_neg h2]
    split at h
    ·cases h
    ·rename_i h3
     rw [if_neg h3]
     have:=ON (OO r.Print (r.Print.length-1))
     exact ⟨a1,a2,by show 0<=FF _;omega,by show FF _<=5;omega,a3,a4⟩
def AD:Aa:=⟨0,0,63⟩
def JO (t:Ac) (s:Aa) (st:List Aa) (k:Nat):List Aa:=if (Ap t s k).2=true/\(Ap t s k).1 ∉ st then st++[(Ap t s k).1] else st
def IX (t:Ac) (s:Aa) (m:Nat) (st:List Aa):List Aa:=(List.range m).foldl (JO t s) st
theorem IY (t:Ac) (s:Aa) (m:Nat) (st:List Aa):IX t s (m+1) st=JO t s (IX t s m st) m:=by
 simp [IX,List.range_succ]
def Ra (t:Ac):Nat->Nat->List Aa->List Aa
 | 0,_,st=>st
 | f+1,i,st=>match st[i]? with
  | some s=>Ra t f (i+1) (IX t s t.Rules.length st)
  | none=>st
def Ae (t:Ac):List Aa:=Ra t 800 0 [AD]
structure FX (t:Ac) (st:List Aa):Prop where
 nodup:st.Nodup
 inU:∀ s∈st,InU s
 first:st[0]? = some AD
 origin:∀ (j:Nat) (s:Aa),st[j]? = some s->0<j->∃ (i:Nat) (s':Aa) (k:Nat),i<j/\st[i]? = some s'/\k<t.Rules.length/\Ap t s' k=(s,true)
theorem FX.len {t:Ac} {st:List Aa} (h:FX t st):st.length<=768:=Jba h.nodup h.inU
theorem FX.add {t:Ac} (ht:Hs t) {st:List Aa} (h:FX t st) {i:Nat} {s:Aa} (hi:st[i]? = some s) {k:Nat} (hk:k<t.Rules.length):FX t (JO t s st k):=by
 unfold JO
 split
 ·rename_i hc
  have hil:=Aj hi
  refine ⟨?_,λ x hx=>?_,?_,λ j x hj h0=>?_⟩
  ·rw [List.nodup_append]
   refine ⟨h.nodup,by simp,λ a ha b hb=>?_⟩
   simp at hb
   subst hb
   exact λ e=>hc.2 (e▸ha)
  ·simp only [List.mem_append,List.mem_singleton] at hx
   rcases hx with hx|rfl
   ·exact h.inU x hx
   ·exact Jbb ht (h.inU s (Ji1 hi)) hc.1
  ·rw [Ji7 (by omega)];exact h.first
  ·rcases Nat.lt_or_ge j st.length with hlt|hge
   ·rw [Ji7 hlt] at hj
    obtain ⟨i',s',k',a1,a2,a3,a4⟩:=h.origin j x hj h0
    exact ⟨i',s',k',a1,by rw [Ji7 (by omega)];exact a2,a3,a4⟩
   ·rw [Jji hge] at hj
    have:j-st.length=0:=by have:=Aj hj;simp at this;omega
    rw [this] at hj
    simp at hj
    subst hj
    refine ⟨i,s,k,by omega,by rw [Ji7 hil];exact hi,hk,?_⟩
    exact Prod.ext rfl hc.1
 ·exact h
theorem Vf (t:Ac) (s:Aa) (st:List Aa) (k:Nat):st <+: JO t s st k:=by
 unfold JO
 split
 ·exact List.prefix_append _ _
 ·exact List.prefix_refl _
theorem Gz (t:Ac) (s:Aa) (st:List Aa):∀ m,st <+: IX t s m st:=by
 intro m
 induction m with
 | zero=>exact List.prefix_refl _
 | succ m ih=>rw [IY];exact ih.trans (Vf _ _ _ _)
theorem Ld {α:Type} {l m:List α} (h:l <+: m) {i:Nat} {x:α} (hi:l[i]? = some x):m[i]? = some x:=by
 obtain ⟨r,rfl⟩:=h
 rw [Ji7 (Aj hi)];exact hi
theorem FX.exp {t:Ac} (ht:Hs t) {st:List Aa} (h:FX t st) {i:Nat} {s:Aa} (hi:st[i]? = some s):∀ m,m<=t.Rules.length->FX t (IX t s m st):=by
 intro m
 induction m with
 | zero=>intro _;exact h
 | succ m ih=>
  intro hm
  rw [IY]
  exact (ih (by omega)).add ht (Ld (Gz t s st m) hi) (by omega)
theorem Jbc (t:Ac) (s:Aa) (st:List Aa):∀ m k:Nat,k<m->(Ap t s k).2=true->(Ap t s k).1∈IX t s m st:=by
 intro m
 induction m with
 | zero=>intro k hk;omega
 | succ m ih=>
  intro k hk h
  rw [IY]
  by_cases e:k=m
  ·subst e
   unfold JO
   by_cases hc:(Ap t s k).1∈IX t s k st
   ·rw [if_neg (λ hh=>hh.2 hc)];exact hc
   ·rw [if_pos ⟨h,hc⟩];simp
  ·exact (Vf t s _ m).subset (ih k (by omega) h)
def JgF (t:Ac) (i:Nat) (st:List Aa):Prop:=∀ (j:Nat) (s:Aa),j<i->st[j]? = some s->∀ k:Nat,k<t.Rules.length->(Ap t s k).2=true->(Ap t s k).1∈st
theorem JgG {t:Ac} (ht:Hs t):∀ (f i:Nat) (st:List Aa),FX t st->JgF t i st->768<f+i->FX t (Ra t f i st)/\∀ i',JgF t i' (Ra t f i st):=by
 intro f
 induction f with
 | zero=>
  intro i st h hd hf
  have:=h.len
  refine ⟨h,λ i' j s hj hs=>?_⟩
  have hs:st[j]? = some s:=hs
  exact hd j s (by have:=Aj hs;omega) hs
 | succ f ih=>
  intro i st h hd hf
  simp only [Ra]
  cases hi:st[i]? with
  | none=>
   refine ⟨h,λ i' j s hj hs=>?_⟩
   have hs:st[j]? = some s:=hs
   exact hd j s (by have:=Aj hs;rw [List.getElem?_eq_none_iff] at hi;omega) hs
  | some s=>
   refine ih (i+1) _ (h.exp ht hi _ (Nat.le_refl _)) (λ j x hj hx k hk hk2=>?_) (by omega)
   by_cases e:j=i
   ·subst e
    have:=Ld (Gz t s st t.Rules.length) hi
    rw [this] at hx
    cases hx
    exact Jbc t s st _ k hk hk2
   ·have hjl:j<st.length:=by have:=Aj hi;omega
    have hxx:st[j]? = some st[j]:=JiZ hjl
    have:=Ld (Gz t s st t.Rules.length) hxx
    rw [this] at hx
    cases hx
    exact (Gz t s st t.Rules.length).subset (hd j _ (by omega) hxx k hk hk2)
theorem B9 {t:Ac} (ht:Hs t):FX t (Ae t)/\∀ i,JgF t i (Ae t):=by
 refine JgG ht 800 0 [AD] ⟨by simp,λ s hs=>?_,rfl,λ j s hj h0=>?_⟩ (λ j s hj=>by omega) (by omega)
 ·simp at hs;subst hs;exact ⟨by decide,by decide,by decide,by decide,by decide,by decide⟩
 ·cases j with
  | zero=>omega
  | succ j=>simp at hj
end Go.AI
end
section
namespace Go.AI
theorem Ev.whlR {σ ρ:Type} {body:Nat->σ->Option (σ⊕ρ)} {R:ρ->Prop} (I:Nat->σ->Prop) (h:∀ k x,I k x->(∃ y j,j<k/\I j y/\Ev (λ n=>body n x) (.inl y))\/∃ r,R r/\Ev (λ n=>body n x) (.inr r)):∀ (k:Nat) (x:σ),I k x->∃ r,R r/\Ev (λ n=>Go.AI.whl (body n) n x) r:=by
 have key:∀ (k:Nat) (x:σ),I k x->∃ r,R r/\∃ N c,∀ n fuel,N<=n->c<=fuel->Go.AI.whl (body n) fuel x=some r:=by
  intro k
  induction k using Nat.strongRecOn with
  | _ k ih=>
   intro x hx
   rcases h k x hx with ⟨y,j,hj,hy,N1,h1⟩|⟨r,hr,N1,h1⟩
   ·obtain ⟨r,hr,N2,c,h2⟩:=ih j hj y hy
    refine ⟨r,hr,max N1 N2,c+1,λ n fuel hn hf=>?_⟩
    cases fuel with
    | zero=>omega
    | succ fuel=>
     have e:=h1 n (by omega)
     simp only at e
     simp only [Go.AI.whl,e]
     exact h2 n fuel (by omega) (by omega)
   ·refine ⟨r,hr,N1,1,λ n fuel hn hf=>?_⟩
    cases fuel with
    | zero=>omega
    | succ fuel=>
     have e:=h1 n hn
     simp only at e
     simp only [Go.AI.whl,e]
 intro k x hx
 obtain ⟨r,hr,N,c,hh⟩:=key k x hx
 exact ⟨r,hr,max N c,λ m hm=>hh m m (by omega) (by omega)⟩
def Ia (st:List Aa) (nb:List (Aa×Int)):Prop:=∀ s,F9 s nb=(st.findIdx? λ x=>decide (x=s)).map λ i=>(i:Int)
theorem CE {st:List Aa} {s:Aa} {i:Nat} (hn:st.Nodup) (h:st[i]? = some s):(st.findIdx? λ x=>decide (x=s))=some i:=by
 have hi:=Aj h
 rw [List.findIdx?_eq_some_iff_getElem]
 have he:st[i]=s:=by rw [JiZ hi] at h;exact Option.some.inj h
 refine ⟨hi,by simpa using he,λ j hj=>?_⟩
 simp only [Bool.not_eq_true,decide_eq_false_iff_not]
 intro e
 have:=(List.getElem_inj (i:=j) (j:=i) (h₀:=by omega) (h₁:=hi) hn).1 (by rw [e,he])
 omega
theorem GX {st:List Aa} {s:Aa} (h:s ∉ st):(st.findIdx? λ x=>decide (x=s))=none:=by
 rw [List.findIdx?_eq_none_iff]
 intro y hy
 simp only [decide_eq_false_iff_not]
 exact λ e=>h (e▸hy)
theorem Yf {κ α:Type} [DecidableEq κ] (k k':κ) (v:α) (m:List (κ×α)):F9 k' (Ll k v m)=if k'=k then some v else F9 k' m:=by
 induction m with
 | nil=>simp [Ll,F9]
 | cons p m ih=>
  simp only [Ll]
  by_cases h:k=p.1
  ·rw [if_pos h]
   simp only [F9]
   by_cases h':k'=k
   ·simp [h']
   ·have:k'≠p.1:=λ e=>h' (e.trans h.symm)
    simp [h',this]
  ·rw [if_neg h]
   simp only [F9]
   by_cases h':k'=p.1
   ·have:k'≠k:=λ e=>h (e▸h')
    rw [if_pos h',if_neg this,if_pos h']
   ·rw [if_neg h',if_neg h',ih]
theorem Ia.snoc {st:List Aa} {nb:List (Aa×Int)} (h:Ia st nb) (hn:st.Nodup) {p:Aa} (hp:p ∉ st):Ia (st++[p]) (Ll p (st.length:Nat) nb):=by
 intro s
 rw [Yf]
 have hnd:(st++[p]).Nodup:=by
  rw [List.nodup_append]
  exact ⟨hn,by simp,λ a ha b hb=>by simp at hb;subst hb;exact λ e=>hp (e▸ha)⟩
 by_cases e:s=p
 ·subst e
  rw [if_pos rfl,CE hnd (i:=st.length) (by simp)]
  rfl
 ·rw [if_neg e,h s]
  by_cases hs:s∈st
  ·obtain ⟨i,hi⟩:=List.mem_iff_getElem?.1 hs
   rw [CE hn hi,CE hnd (i:=i) (by rw [Ji7 (Aj hi)];exact hi)]
  ·rw [GX hs,GX (by simp [hs,e])]
def Ht (i m j k:Nat):Prop:=j<i\/(j=i/\k<m)
structure Dj (t:Ac) (st:List Aa) (fr:List (List Int)) (i m:Nat):Prop where
 len:fr.length=st.length
 cov:∀ j s k,Ht i m j k->st[j]? = some s->k<t.Rules.length->(Ap t s (k:Nat)).2=true->(Ap t s (k:Nat)).1∈st
 sound:∀ (n:Nat) l,fr[n]? = some l->∀ x∈l,∃ (j:Nat) (s:Aa) (k:Nat) (s':Aa),x=(j:Int)/\st[j]? = some s/\k<t.Rules.length/\st[n]? = some s'/\Ap t s (k:Nat)=(s',true)
 compl:∀ (n:Nat) l,fr[n]? = some l->∀ (j:Nat) (s:Aa) (k:Nat) (s':Aa),Ht i m j k->st[j]? = some s->k<t.Rules.length->st[n]? = some s'->Ap t s (k:Nat)=(s',true)->(j:Int)∈l
 small:∀ (n:Nat) l,fr[n]? = some l->l.length<=i*11+m
theorem Dj.snoc {t:Ac} {st:List Aa} {fr:List (List Int)} {i m:Nat} (h:Dj t st fr i m) {p:Aa} (hp:p ∉ st) (hi:i<st.length):Dj t (st++[p]) (fr++[[]]) i m:=by
 have hget:∀ (j:Nat) s,Ht i m j 0\/j<=i->(st++[p])[j]? = some s->st[j]? = some s:=λ j s hj hs=>by
  rcases Nat.lt_or_ge j st.length with hlt|hge
  ·rwa [Ji7 hlt] at hs
  ·rcases hj with (h1|⟨h1,_⟩)|h1<;>omega
 have hle:∀ {j k},Ht i m j k->j<=i:=λ h=>by rcases h with h|⟨h,_⟩<;>omega
 refine ⟨by simp [h.len],λ j s k ht hs hk h2=>?_,λ n l hl x hx=>?_,λ n l hl j s k s' ht hs hk hs' he=>?_,λ n l hl=>?_⟩
 ·exact List.mem_append_left _ (h.cov j s k ht (hget j s (.inr (hle ht)) hs) hk h2)
 ·rcases Nat.lt_or_ge n fr.length with hlt|hge
  ·rw [Ji7 hlt] at hl
   obtain ⟨j,s,k,s',a1,a2,a3,a4,a5⟩:=h.sound n l hl x hx
   exact ⟨j,s,k,s',a1,by rw [Ji7 (Aj a2)];exact a2,a3,by rw [Ji7 (Aj a4)];exact a4,a5⟩
  ·rw [Jji hge] at hl
   have:n-fr.length=0:=by have:=Aj hl;simp at this;omega
   rw [this] at hl;simp at hl;subst hl;simp at hx
 ·have hs0:=hget j s (.inr (hle ht)) hs
  have hmem:s'∈st:=by have:=h.cov j s k ht hs0 hk (by rw [he]);rwa [he] at this
  rcases Nat.lt_or_ge n fr.length with hlt|hge
  ·rw [Ji7 hlt] at hl
   rw [Ji7 (by rw [← h.len];exact hlt)] at hs'
   exact h.compl n l hl j s k s' ht hs0 hk hs' he
  ·have hn:n=st.length:=by have:=Aj hs';simp at this;rw [h.len] at hge;omega
   subst hn
   simp at hs'
   subst hs'
   exact absurd hmem hp
 ·rcases Nat.lt_or_ge n fr.length with hlt|hge
  ·rw [Ji7 hlt] at hl;exact h.small n l hl
  ·rw [Jji hge] at hl
   have:n-fr.length=0:=by have:=Aj hl;simp at this;omega
   rw [this] at hl;simp at hl;subst hl;simp
theorem Dj.put {t:Ac} {st:List Aa} {fr:List (List Int)} {i m:Nat} (h:Dj t st fr i m) (hnd:st.Nodup) {s p:Aa} {q:Nat} {l:List Int} (hs:st[i]? = some s) (hm:m<t.Rules.length) (hst:Ap t s (m:Nat)=(p,true)) (hq:st[q]? = some p) (hl:fr[q]? = some l):Dj t st (fr.set q (l++[(i:Int)])) i (m+1):=by
 have htk:∀ {j k},Ht i (m+1) j k->Ht i m j k\/(j=i/\k=m):=λ {j k} h=>by
  unfold Ht at *
  omega
 have hql:=Aj hl
 refine ⟨by simp [h.len],λ j x k ht hx hk h2=>?_,λ n l' hl' x hx=>?_,λ n l' hl' j x k x' ht hx hk hx' he=>?_,λ n l' hl'=>?_⟩
 ·rcases htk ht with ht|⟨rfl,rfl⟩
  ·exact h.cov j x k ht hx hk h2
  ·rw [hs] at hx;cases hx;rw [hst];exact Ji1 hq
 ·by_cases e:n=q
  ·subst e
   rw [Jjb hql] at hl'
   cases hl'
   simp only [List.mem_append,List.mem_singleton] at hx
   rcases hx with hx|rfl
   ·exact h.sound n l hl x hx
   ·exact ⟨i,s,m,p,rfl,hs,hm,hq,hst⟩
  ·rw [Jjg (Ne.symm e)] at hl';exact h.sound n l' hl' x hx
 ·rcases htk ht with ht|⟨rfl,rfl⟩
  ·by_cases e:n=q
   ·subst e
    rw [Jjb hql] at hl'
    cases hl'
    exact List.mem_append_left _ (h.compl n l hl j x k x' ht hx hk hx' he)
   ·rw [Jjg (Ne.symm e)] at hl';exact h.compl n l' hl' j x k x' ht hx hk hx' he
  ·rw [hs] at hx;cases hx
   rw [hst] at he;cases he
   have e:n=q:=by
    have h1:=Aj hx'
    have h2:=Aj hq
    rw [JiZ h1] at hx'
    rw [JiZ h2] at hq
    exact (List.getElem_inj (h₀:=h1) (h₁:=h2) hnd).1 ((Option.some.inj hx').trans (Option.some.inj hq).symm)
   subst e
   rw [Jjb hql] at hl'
   cases hl'
   simp
 ·by_cases e:n=q
  ·subst e
   rw [Jjb hql] at hl'
   cases hl'
   have:=h.small n l hl
   simp;omega
  ·rw [Jjg (Ne.symm e)] at hl'
   have:=h.small n l' hl'
   omega
theorem Dj.skip {t:Ac} {st:List Aa} {fr:List (List Int)} {i m:Nat} (h:Dj t st fr i m) {s:Aa} (hs:st[i]? = some s) (hst:(Ap t s (m:Nat)).2=false):Dj t st fr i (m+1):=by
 have htk:∀ {j k},Ht i (m+1) j k->Ht i m j k\/(j=i/\k=m):=λ {j k} h=>by
  unfold Ht at *
  omega
 refine ⟨h.len,λ j x k ht hx hk h2=>?_,h.sound,λ n l hl j x k x' ht hx hk hx' he=>?_,λ n l hl=>by have:=h.small n l hl;omega⟩
 ·rcases htk ht with ht|⟨rfl,rfl⟩
  ·exact h.cov j x k ht hx hk h2
  ·rw [hs] at hx;cases hx;rw [hst] at h2;cases h2
 ·rcases htk ht with ht|⟨rfl,rfl⟩
  ·exact h.compl n l hl j x k x' ht hx hk hx' he
  ·rw [hs] at hx;cases hx;rw [he] at hst;cases hst
end Go.AI
end
section
namespace Go.AI
theorem JP {α:Type} {l:List α} {i:Nat} {x:α} (h:l[i]? = some x):idx l (i:Int)=some x:=by
 unfold idx
 rw [if_pos (by omega)]
 simpa using h
theorem TH {α:Type} {eb:Nat} {xs ys:List α} (h:(xs.length+ys.length)*eb<=70368744177664):app eb xs ys=some (xs++ys):=by
 unfold app;rw [if_pos h]
theorem Vg {t:Ac} (ht:Hs t) {i m:Nat} {s:Aa} {st:List Aa} {fr:List (List Int)} {nb:List (Aa×Int)} (hF:FX t st) (hi:st[i]? = some s) (hN:Ia st nb) (hR:Dj t st fr i m) (hm:m<t.Rules.length) :
  ∃ fr' nb',Ia (JO t s st m) nb'/\Dj t (JO t s st m) fr' i (m+1)/\∀ n,Bu n t (i:Int) st fr nb (m:Int)=some (.inl (JO t s st m,fr',nb',((m+1:Nat):Int))):=by
 have hil:=Aj hi
 have hlen:=hF.len
 have hrl:=ht.1
 have hinc:Az .i64 (m:Int) 1=((m+1:Nat):Int):=by rw [N8 (by omega) (by omega)];rfl
 have hcond:decide ((m:Int)<((t.Rules.length:Nat):Int))=true:=by simpa using hm
 cases hp:(Ap t s (m:Nat)).2 with
 | false=>
  have ha:JO t s st m=st:=by unfold JO;rw [if_neg (by rw [hp];simp)]
  refine ⟨fr,nb,by rw [ha];exact hN,by rw [ha];exact hR.skip hi hp,λ n=>?_⟩
  unfold Bu
  rw [if_pos hcond,JP hi]
  simp only [Option.bind_some,Pt ht.short,hp,Bool.not_false,if_true,Cp,hinc,ha]
 | true=>
  have hpe:Ap t s (m:Nat)=((Ap t s (m:Nat)).1,true):=Prod.ext rfl hp
  generalize hpp:(Ap t s (m:Nat)).1=p at hpe
  by_cases hmem:p∈st
  ·have ha:JO t s st m=st:=by unfold JO;rw [if_neg (by rw [hpp];exact λ hh=>hh.2 hmem)]
   obtain ⟨q,hq⟩:=List.mem_iff_getElem?.1 hmem
   have hql:=Aj hq
   obtain ⟨lq,hfq⟩:∃ lq,fr[q]? = some lq:=⟨_,JiZ (by rw [hR.len];exact hql)⟩
   have hsm:=hR.small q _ hfq
   have hget:F9 p nb=some (q:Int):=by rw [hN p,CE hF.nodup hq];rfl
   have hiv:i<768:=by omega
   refine ⟨fr.set q (lq++[(i:Int)]),nb,by rw [ha];exact hN,by rw [ha];exact hR.put hF.nodup hi hm hpe hq hfq,λ n=>?_⟩
   unfold Bu
   rw [if_pos hcond,JP hi]
   simp only [Option.bind_some,Pt ht.short,hpe,hget,Option.isSome_some,Bool.not_true,Jjc,if_false,Option.getD_some,CM]
   rw [JP hfq]
   simp only [Option.bind_some]
   rw [TH (by simp;omega)]
   simp only [Option.bind_some,Cp,hinc,ha,Ji9]
  ·have ha:JO t s st m=st++[p]:=by unfold JO;rw [if_pos ⟨hp,by rw [hpp];exact hmem⟩,hpp]
   have hnd:(st++[p]).Nodup:=by have:=(hF.add ht hi hm).nodup;rwa [ha] at this
   have hget:F9 p nb=none:=by rw [hN p,GX hmem];rfl
   have hR':=hR.snoc hmem hil
   have hfq:(fr++[[]])[st.length]? = some ([]:List Int):=by rw [← hR.len];simp
   refine ⟨(fr++[[]]).set st.length ([]++[(i:Int)]),Ll p (st.length:Nat) nb,by rw [ha];exact hN.snoc hF.nodup hmem,by rw [ha];exact hR'.put hnd (by rw [Ji7 hil];exact hi) hm hpe (by simp) hfq,λ n=>?_⟩
   unfold Bu
   rw [if_pos hcond,JP hi]
   simp only [Option.bind_some,Pt ht.short,hpe,hget,Option.isSome_none,Bool.not_false,Bool.not_true,Jjc,if_true,if_false]
   rw [TH (by simp;omega),Option.bind_some,TH (by simp [hR.len];omega),Option.bind_some]
   simp only [CM]
   rw [JP hfq]
   simp only [Option.bind_some]
   rw [TH (by simp)]
   simp only [Option.bind_some,Cp,hinc,ha,Ji9]
theorem Dj.next {t:Ac} {st:List Aa} {fr:List (List Int)} {i:Nat} (h:Dj t st fr i t.Rules.length) (hr:t.Rules.length<=11):Dj t st fr (i+1) 0:=by
 have htk:∀ {j k},k<t.Rules.length->Ht (i+1) 0 j k->Ht i t.Rules.length j k:=λ {j k} hk h=>by
  unfold Ht at *
  omega
 exact ⟨h.len,λ j s k ht hs hk=>h.cov j s k (htk hk ht) hs hk,h.sound,λ n l hl j s k s' ht hs hk=>h.compl n l hl j s k s' (htk hk ht) hs hk,λ n l hl=>by have:=h.small n l hl;omega⟩
theorem Jbd {t:Ac} (ht:Hs t) {i:Nat} {s:Aa} {st:List Aa} {fr:List (List Int)} {nb:List (Aa×Int)} (hF:FX t st) (hi:st[i]? = some s) (hN:Ia st nb) (hR:Dj t st fr i 0) :
  ∃ r:List Aa×List (List Int)×List (Aa×Int),(r.1=IX t s t.Rules.length st/\Ia r.1 r.2.2/\Dj t r.1 r.2.1 (i+1) 0) /\
   Ev (λ n=>whl (λ (x:((List Aa)×(List (List Int))×(List (Aa×Int))×Int))=>Bu n t (i:Int) x.1 x.2.1 x.2.2.1 x.2.2.2) n (st,fr,nb,0)) r:=by
 refine Ev.whlR (body:=λ n x=>Bu n t (i:Int) x.1 x.2.1 x.2.2.1 x.2.2.2) (λ k x=>∃ m:Nat,m<=t.Rules.length/\k=t.Rules.length-m/\x.1=IX t s m st/\x.2.2.2=(m:Int)/\Ia x.1 x.2.2.1/\Dj t x.1 x.2.1 i m) ?_ t.Rules.length (st,fr,nb,0) ⟨0,by omega,by omega,rfl,rfl,hN,hR⟩
 rintro k ⟨st',fr',nb',m'⟩ ⟨m,hm,rfl,h1,h2,h3,h4⟩
 simp only at h1 h2 h3 h4
 subst h1
 subst h2
 rcases Nat.lt_or_ge m t.Rules.length with hlt|hge
 ·left
  have hi':(IX t s m st)[i]? = some s:=Ld (Gz t s st m) hi
  obtain ⟨fr2,nb2,g1,g2,g3⟩:=Vg ht (hF.exp ht hi m hm) hi' h3 h4 hlt
  exact ⟨_,t.Rules.length-(m+1),by omega,⟨m+1,hlt,rfl,(IY t s m st).symm,rfl,g1,g2⟩,Ev.all g3⟩
 ·right
  have e:m=t.Rules.length:=by omega
  subst e
  refine ⟨(IX t s t.Rules.length st,fr',nb'),⟨rfl,h3,h4.next ht.1⟩,Ev.all λ n=>?_⟩
  unfold Bu
  rw [if_neg (by simp)]
theorem Wv {t:Ac} (ht:Hs t):∃ fr,Dj t (Ae t) fr (Ae t).length 0/\Ev (λ n=>E9 n t) (Ae t,fr):=by
 have h0:FX t [AD]:=⟨by simp,λ s hs=>by simp at hs;subst hs;exact ⟨by decide,by decide,by decide,by decide,by decide,by decide⟩,rfl,λ j s hj h0=>by cases j with|zero=>omega|succ j=>simp at hj⟩
 have loop:∃ r:List Aa×List (List Int),(r.1=Ae t/\Dj t r.1 r.2 r.1.length 0) /\
   Ev (λ n=>whl (λ (x:((List Aa)×(List (List Int))×(List (Aa×Int))×Int))=>Cq n t x.1 x.2.1 x.2.2.1 x.2.2.2) n ([AD],([[]]:List (List Int)),(Ll AD 0 []),0)) r:=by
  refine Ev.whlR (body:=λ n x=>Cq n t x.1 x.2.1 x.2.2.1 x.2.2.2) (λ k x=>∃ i:Nat,i<=x.1.length/\k=800-i/\Ra t (800-i) i x.1=Ae t/\x.2.2.2=(i:Int)/\FX t x.1/\Ia x.1 x.2.2.1/\Dj t x.1 x.2.1 i 0) ?_ 800 _ ⟨0,by simp,by omega,rfl,rfl,h0,?_,?_⟩
  ·rintro k ⟨st,fr,nb,i'⟩ ⟨i,hil,rfl,hb,hi',hF,hN,hR⟩
   simp only at hil hb hi' hF hN hR
   subst hi'
   have hlen:=hF.len
   rcases Nat.lt_or_ge i st.length with hlt|hge
   ·left
    have hi:st[i]? = some st[i]:=JiZ hlt
    obtain ⟨r,⟨g1,g2,g3⟩,g4⟩:=Jbd ht hF hi hN hR
    have hexp:=hF.exp ht hi _ (Nat.le_refl _)
    refine ⟨(r.1,r.2.1,r.2.2,((i+1:Nat):Int)),800-(i+1),by omega,⟨i+1,?_,rfl,?_,rfl,by rw [g1];exact hexp,g2,g3⟩,?_⟩
    ·simp only [g1]
     have:=(Gz t st[i] st t.Rules.length).length_le
     omega
    ·simp only [g1]
     rw [← hb]
     have e:800-i=(800-(i+1))+1:=by omega
     rw [e]
     simp only [Ra,hi]
    ·refine (Ev.bind g4 (g:=λ _ y2=>some (.inl (y2.1,y2.2.1,y2.2.2,((i+1:Nat):Int)))) Ev.const).congr λ n=>?_
     unfold Cq
     rw [if_pos (by simpa using hlt)]
     have hinc:Az .i64 (i:Int) 1=((i+1:Nat):Int):=by rw [N8 (by omega) (by omega)];rfl
     rw [hinc]
   ·right
    have e:i=st.length:=by omega
    subst e
    have hst:st=Ae t:=by
     rw [← hb]
     have e:800-st.length=(800-(st.length+1))+1:=by omega
     rw [e]
     simp [Ra]
    refine ⟨(st,fr),⟨hst,hR⟩,Ev.all λ n=>?_⟩
    unfold Cq
    rw [if_neg (by simp)]
  ·intro s
   simp only [Ll,F9]
   by_cases e:s=AD
   ·subst e;simp
   ·have:¬ AD=s:=λ h=>e h.symm
    simp [e,this]
  ·refine ⟨rfl,λ j s k ht=>?_,λ n l hl x hx=>?_,λ n l hl j s k s' ht=>?_,λ n l hl=>?_⟩
   ·unfold Ht at ht;omega
   ·cases n with
    | zero=>simp at hl;subst hl;simp at hx
    | succ n=>simp at hl
   ·unfold Ht at ht;omega
   ·cases n with
    | zero=>simp at hl;subst hl;simp
    | succ n=>simp at hl
 obtain ⟨⟨st,fr⟩,⟨g1,g2⟩,g3⟩:=loop
 simp only at g1 g2
 subst g1
 refine ⟨fr,g2,?_⟩
 have hs:∀ n,IC n=some AD:=λ n=>rfl
 refine (Ev.bind g3 (g:=λ _ y3=>some (y3.1,y3.2)) Ev.const).congr λ n=>?_
 unfold E9
 rw [hs,Option.bind_some]
theorem Ww {t:Ac} (ht:Hs t):Ev (λ n=>Hh n t) (Ae t):=by
 obtain ⟨fr,_,h⟩:=Wv ht
 exact (Ev.bind h (g:=λ _ r=>some r.1) Ev.const).congr λ n=>rfl
end Go.AI
end
section
namespace Go.AI
def Tot {α:Type} (f:Nat->Option α) (P:α->Prop):Prop:=∃ z,P z/\Ev f z
def Rd2 {σ ρ:Type} (I:σ->Prop) (P:ρ->Prop):σ⊕ρ->Prop
 | .inl y=>I y
 | .inr r=>P r
variable {α β σ ρ:Type} {P R:α->Prop}
theorem Tot.ev {f:Nat->Option α} {z:α} (h:Tot f (λ x=>x=z)):Ev f z:=by obtain ⟨_,rfl,h⟩:=h;exact h
theorem Ev.tot {f:Nat->Option α} {z:α} (h:Ev f z) (hp:P z):Tot f P:=⟨z,hp,h⟩
theorem Tot.pure {z:α} (h:P z):Tot (λ _=>some z) P:=⟨z,h,Ev.const⟩
theorem Tot.all {f:Nat->Option α} {z:α} (h:∀ n,f n=some z) (hp:P z):Tot f P:=⟨z,hp,Ev.all h⟩
theorem Tot.mono {f:Nat->Option α} (h:Tot f R) (hp:∀ x,R x->P x):Tot f P:=by obtain ⟨z,hz,h⟩:=h;exact ⟨z,hp z hz,h⟩
theorem Tot.bind {f:Nat->Option β} {g:Nat->β->Option α} {R:β->Prop} (h:Tot f R) (k:∀ x,R x->Tot (λ n=>g n x) P):Tot (λ n=>(f n).bind (g n)) P:=by
 obtain ⟨x,hx,h⟩:=h
 obtain ⟨z,hz,h'⟩:=k x hx
 exact ⟨z,hz,Ev.bind h h'⟩
theorem Tot.bindE {f:Nat->Option β} {g:Nat->β->Option α} {x:β} (h:Ev f x) (k:Tot (λ n=>g n x) P):Tot (λ n=>(f n).bind (g n)) P:=by
 obtain ⟨z,hz,h'⟩:=k
 exact ⟨z,hz,Ev.bind h h'⟩
theorem Tot.bindC {x:Option β} {y:β} {g:Nat->β->Option α} (h:x=some y) (k:Tot (λ n=>g n y) P):Tot (λ n=>x.bind (g n)) P:=by subst h;exact k
theorem Tot.bindA {f:Nat->Option β} {y:β} {g:Nat->β->Option α} (h:∀ n,f n=some y) (k:Tot (λ n=>g n y) P):Tot (λ n=>(f n).bind (g n)) P:=Tot.bindE (Ev.all h) k
theorem Tot.ite {c:Bool} {a b:Nat->Option α} (h1:c=true->Tot a P) (h2:c=false->Tot b P):Tot (λ n=>if c=true then a n else b n) P:=by
 cases c with
 | true=>exact h1 rfl
 | false=>exact h2 rfl
theorem Tot.iteT {c:Bool} {a b:Nat->Option α} (h:c=true) (k:Tot a P):Tot (λ n=>if c=true then a n else b n) P:=by subst h;exact k
theorem Tot.iteF {c:Bool} {a b:Nat->Option α} (h:c=false) (k:Tot b P):Tot (λ n=>if c=true then a n else b n) P:=by subst h;exact k
theorem Tot.guard {c:Bool} {f:Nat->Option β} {d:β} {g:Nat->β->Option α} {R:β->Prop} (h:c=true->Tot f R) (k:∀ x,(c=true->R x)->Tot (λ n=>g n x) P):Tot (λ n=>(if c=true then f n else some d).bind (g n)) P:=by
 cases c with
 | true=>exact Tot.bind (h rfl) λ x hx=>k x λ _=>hx
 | false=>exact k d λ h=>by cases h
theorem Tot.congr {f g:Nat->Option α} (h:Tot f P) (e:∀ n,g n=f n):Tot g P:=by obtain ⟨z,hz,h⟩:=h;exact ⟨z,hz,h.congr e⟩
theorem Tot.sum {y:β⊕σ} {f:Nat->β->Option α} {g:Nat->σ->Option α} (h1:∀ b,y=.inl b->Tot (λ n=>f n b) P) (h2:∀ b,y=.inr b->Tot (λ n=>g n b) P):Tot (λ n=>match y with | .inl b=>f n b | .inr b=>g n b) P:=by
 cases y with
 | inl b=>exact h1 b rfl
 | inr b=>exact h2 b rfl
theorem Tot.whl {body:Nat->σ->Option (σ⊕ρ)} {P:ρ->Prop} (I:Nat->σ->Prop) (h:∀ k x,I k x->Tot (λ n=>body n x) (Rd2 (λ y=>∃ j,j<k/\I j y) P)):∀ (k:Nat) (x:σ),I k x->Tot (λ n=>Go.AI.whl (body n) n x) P:=by
 have key:∀ (k:Nat) (x:σ),I k x->∃ r,P r/\∃ N c,∀ n fuel,N<=n->c<=fuel->Go.AI.whl (body n) fuel x=some r:=by
  intro k
  induction k using Nat.strongRecOn with
  | _ k ih=>
   intro x hx
   obtain ⟨z,hz,N1,h1⟩:=h k x hx
   cases z with
   | inl y=>
    obtain ⟨j,hj,hy⟩:=hz
    obtain ⟨r,hr,N2,c,h2⟩:=ih j hj y hy
    refine ⟨r,hr,max N1 N2,c+1,λ n fuel hn hf=>?_⟩
    cases fuel with
    | zero=>omega
    | succ fuel=>
     have e:=h1 n (by omega)
     simp only at e
     simp only [Go.AI.whl,e]
     exact h2 n fuel (by omega) (by omega)
   | inr r=>
    refine ⟨r,hz,N1,1,λ n fuel hn hf=>?_⟩
    cases fuel with
    | zero=>omega
    | succ fuel=>
     have e:=h1 n hn
     simp only at e
     simp only [Go.AI.whl,e]
 intro k x hx
 obtain ⟨r,hr,N,c,hh⟩:=key k x hx
 exact ⟨r,hr,max N c,λ m hm=>hh m m (by omega) (by omega)⟩
theorem Tot.upto {body:Nat->σ->Option (σ⊕ρ)} {P:ρ->Prop} (N:Nat) (I:Nat->σ->Prop)
  (step:∀ i x,i<N->I i x->Tot (λ n=>body n x) (Rd2 (I (i+1)) P))
  (last:∀ x,I N x->Tot (λ n=>body n x) (Rd2 (λ _=>False) P)) (x:σ) (h0:I 0 x):Tot (λ n=>Go.AI.whl (body n) n x) P:=by
 refine Tot.whl (body:=body) (λ k x=>∃ i,i<=N/\k=N-i/\I i x) ?_ N x ⟨0,by omega,by omega,h0⟩
 rintro k x ⟨i,hi,rfl,hx⟩
 rcases Nat.lt_or_ge i N with hlt|hge
 ·refine (step i x hlt hx).mono λ z hz=>?_
  cases z with
  | inl y=>exact ⟨N-(i+1),by omega,i+1,by omega,rfl,hz⟩
  | inr r=>exact hz
 ·have:i=N:=by omega
  subst this
  refine (last x hx).mono λ z hz=>?_
  cases z with
  | inl y=>exact hz.elim
  | inr r=>exact hz
theorem CP {l:List α} {i:Nat} {x:α} (h:l[i]? = some x):idx l (i:Int)=some x:=by
 unfold idx
 rw [if_pos (by omega)]
 simpa using h
theorem KT {l:List α} {i:Nat} (h:i<l.length):idx l (i:Int)=some l[i]:=CP (JiZ h)
theorem Il {eb:Nat} {xs ys:List α} (h:(xs.length+ys.length)*eb<=70368744177664):app eb xs ys=some (xs++ys):=by
 unfold app;rw [if_pos h]
theorem JR {l:List α} {i:Nat} {y:α} (h:i<l.length):put l (i:Int) y=some (l.set i y):=by
 unfold put;rw [if_pos (by omega),Ji9]
theorem Jbe {x y:List UInt8} (h:x.length+y.length<=9223372036854775807):cat x y=some (x++y):=by
 unfold cat;rw [if_pos h]
end Go.AI
end
section
namespace Go.AI
theorem JcQ (a:Int):IntKind.i64.wrap a=if decide (a % 18446744073709551616>=9223372036854775808)=true then a % 18446744073709551616-18446744073709551616 else a % 18446744073709551616:=rfl
theorem w64 {a:Int} (h:-9223372036854775808<=a) (h':a<9223372036854775808):IntKind.i64.wrap a=a:=by
 rw [JcQ]
 simp only [decide_eq_true_eq]
 split<;>omega
theorem Hu {a b:Int} (h:-9223372036854775808<=a+b) (h':a+b<9223372036854775808):Az .i64 a b=a+b:=w64 h h'
theorem Xe {a b:Int} (h:-9223372036854775808<=a-b) (h':a-b<9223372036854775808):Jk .i64 a b=a-b:=w64 h h'
theorem Ez {i:Nat} (h:i<9223372036854775807):Az .i64 (i:Int) 1=((i+1:Nat):Int):=by rw [Hu]<;>omega
theorem N9 {a m:Int} (h:0<=a) (hm:0<m):Br a m=a % m/\0<=Br a m/\Br a m<m:=by
 have e:Br a m=a % m:=by unfold Br;rw [Int.tmod_eq_emod_of_nonneg h]
 rw [e];exact ⟨rfl,Int.emod_nonneg _ (by omega),Int.emod_lt_of_pos _ hm⟩
variable {α β σ ρ:Type}
theorem Jif [Inhabited α] {l:List α} {i:Int} (h:0<=i) (h':i<l.length):idx l i=some (l.getD i.toNat default):=by
 unfold idx
 rw [if_pos h,Ji8,JiZ (by omega)];rfl
theorem Hv [Inhabited α] {l:List α} {i:Nat} (h:i<l.length):idx l (i:Int)=some (l.getD i default):=by
 rw [Jif (by omega) (by omega),Ji9]
theorem Jbf {l:List α} {a b:Int} (h:0<=a) (h1:a<=b) (h2:b<=l.length):sub l a b=some ((l.take b.toNat).drop a.toNat):=by
 unfold sub;rw [if_pos ⟨h,h1,h2⟩]
theorem TI {l:List α} {k:Nat} (h:k<=l.length):sub l 0 (k:Int)=some (l.take k):=by
 rw [Jbf (by omega) (by omega) (by omega)];simp
theorem OP {eb:Nat} {k:Int} {z:α} (h:0<=k) (h':k.toNat*eb<=70368744177664):mkl eb k z=some (List.replicate k.toNat z):=by
 unfold mkl;rw [if_pos ⟨h,h'⟩]
theorem DL {b:Bool} (h:b=true):CA b=some ():=by subst h;rfl
theorem Wx {body:σ->Option (σ⊕ρ)} {r:ρ} (st:Nat->σ) (k:Nat) (step:∀ i,i<k->body (st i)=some (.inl (st (i+1)))) (last:body (st k)=some (.inr r)):∀ n,k<n->whl body n (st 0)=some r:=by
 have key:∀ (j n i:Nat),i+j=k->j<n->whl body n (st i)=some r:=by
  intro j
  induction j with
  | zero=>
   intro n i hi hn
   cases n with
   | zero=>omega
   | succ n=>
    have:i=k:=by omega
    subst this;simp only [whl,last]
  | succ j ih=>
   intro n i hi hn
   cases n with
   | zero=>omega
   | succ n=>simp only [whl,step i (by omega)];exact ih n (i+1) (by omega) (by omega)
 intro n hn
 exact key k n 0 (by omega) hn
theorem Ev.to {body:Nat->σ->Option (σ⊕ρ)} {r:ρ} (st:Nat->σ) (k:Nat) (h:∃ N,∀ n,N<=n->(∀ i,i<k->body n (st i)=some (.inl (st (i+1))))/\body n (st k)=some (.inr r)):Ev (λ n=>Go.AI.whl (body n) n (st 0)) r:=by
 obtain ⟨N,h⟩:=h
 exact ⟨max N (k+1),λ n hn=>Wx st k (h n (by omega)).1 (h n (by omega)).2 n (by omega)⟩
def Ib (N:Nat) (stop:Nat->Option ρ) (d:ρ):ρ:=((List.range N).findSome? stop).getD d
theorem Yg {N:Nat} {stop:Nat->Option ρ} {d:ρ} (h:∀ i,i<N->stop i=none):Ib N stop d=d:=by
 unfold Ib
 rw [List.findSome?_eq_none_iff.2 λ i hi=>h i (List.mem_range.1 hi)];rfl
theorem Yh {N:Nat} {stop:Nat->Option ρ} {d r:ρ} (k:Nat) (hk:k<N) (hr:stop k=some r) (h:∀ i,i<k->stop i=none):Ib N stop d=r:=by
 unfold Ib
 have:(List.range N).findSome? stop=some r:=by
  have e:List.range N=List.range k++(List.range (N-k)).map (k+·):=by rw [← List.range_add];congr 1;omega
  rw [e,List.findSome?_append,List.findSome?_eq_none_iff.2 λ i hi=>h i (List.mem_range.1 hi)]
  have:N-k=(N-k-1)+1:=by omega
  rw [this,List.range_succ_eq_map]
  simp [hr]
 rw [this];rfl
theorem RH (N:Nat) (stop:Nat->Option ρ) (d:ρ):((∀ i,i<N->stop i=none)/\Ib N stop d=d)\/∃ k r,k<N/\stop k=some r/\(∀ i,i<k->stop i=none)/\Ib N stop d=r:=by
 by_cases h:∀ i,i<N->stop i=none
 ·exact .inl ⟨h,Yg h⟩
 ·right
  have hex:∃ k,k<N/\stop k≠none:=by
   apply Classical.byContradiction
   intro hh
   exact h λ i hi=>Classical.byContradiction λ hn=>hh ⟨i,hi,hn⟩
  have key:∀ m,(∃ k,k<m/\k<N/\stop k≠none)->∃ k,k<N/\stop k≠none/\∀ i,i<k->stop i=none:=by
   intro m
   induction m with
   | zero=>rintro ⟨k,hk,_⟩;omega
   | succ m ih=>
    rintro ⟨k,hk,h1,h2⟩
    by_cases hm:∃ k,k<m/\k<N/\stop k≠none
    ·exact ih hm
    ·refine ⟨k,h1,h2,λ i hi=>Classical.byContradiction λ hn=>hm ⟨i,by omega,by omega,hn⟩⟩
  obtain ⟨k0,h1,h2⟩:=hex
  obtain ⟨k,h3,h4,h5⟩:=key (k0+1) ⟨k0,by omega,h1,h2⟩
  obtain ⟨r,hr⟩:=Option.ne_none_iff_exists'.1 h4
  exact ⟨k,r,h3,hr,h5,Yh k h3 hr h5⟩
theorem Yi {body:Int->Option (Int⊕ρ)} {N:Nat} (stop:Nat->Option ρ) {d:ρ} (h1:∀ i,i<N->body (i:Int)=some (match stop i with|some r=>.inr r|none=>.inl ((i+1:Nat):Int))) (h2:body (N:Int)=some (.inr d)):∀ n,N<n->whl body n 0=some (Ib N stop d):=by
 intro n hn
 rcases RH N stop d with ⟨h,e⟩|⟨k,r,hk,hr,h,e⟩
 ·rw [e]
  exact Wx (λ i=>(i:Int)) N (λ i hi=>by rw [h1 i hi,h i hi]) h2 n hn
 ·rw [e]
  exact Wx (λ i=>(i:Int)) k (λ i hi=>by rw [h1 i (by omega),h i hi]) (by rw [h1 k hk,hr]) n (by omega)
theorem Ev.first {body:Nat->Int->Option (Int⊕ρ)} {N:Nat} (stop:Nat->Option ρ) {d:ρ} (h:∃ M,∀ n,M<=n->(∀ i,i<N->body n (i:Int)=some (match stop i with|some r=>.inr r|none=>.inl ((i+1:Nat):Int)))/\body n (N:Int)=some (.inr d)):Ev (λ n=>Go.AI.whl (body n) n 0) (Ib N stop d):=by
 obtain ⟨M,h⟩:=h
 exact ⟨max M (N+1),λ n hn=>Yi stop (h n (by omega)).1 (h n (by omega)).2 n (by omega)⟩
theorem Tot.gE {P:α->Prop} {c:Bool} {f:Nat->Option β} {d x:β} {g:Nat->β->Option α} (hc:c=true) (h:Ev f x) (k:Tot (λ n=>g n x) P):Tot (λ n=>(if c=true then f n else some d).bind (g n)) P:=by
 subst hc;exact Tot.bindE h k
theorem Tot.gF {P:α->Prop} {c:Bool} {f:Nat->Option β} {d:β} {g:Nat->β->Option α} (hc:c=false) (k:Tot (λ n=>g n d) P):Tot (λ n=>(if c=true then f n else some d).bind (g n)) P:=by
 subst hc;exact k
theorem Ev.many {f:Nat->Nat->Option α} {z:Nat->α} (N:Nat) (h:∀ i,i<N->Ev (λ n=>f n i) (z i)):∃ M,∀ n,M<=n->∀ i,i<N->f n i=some (z i):=by
 induction N with
 | zero=>exact ⟨0,λ n _ i hi=>by omega⟩
 | succ N ih=>
  obtain ⟨M1,h1⟩:=ih λ i hi=>h i (by omega)
  obtain ⟨M2,h2⟩:=h N (by omega)
  exact ⟨max M1 M2,λ n hn i hi=>by
   by_cases e:i=N
   ·subst e;exact h2 n (by omega)
   ·exact h1 n (by omega) i (by omega)⟩
end Go.AI
end
section
namespace Go.AI
def scan {ρ:Type} (N:Nat) (stop:Nat->Option ρ):Unit⊕ρ:=match (List.range N).findSome? stop with
 | some r=>.inr r
 | none=>.inl ()
theorem Gm {ρ:Type} {body:Nat->Int->Option (Int⊕(Unit⊕ρ))} (N:Nat) (stop:Nat->Option ρ)
  (h:∀ i,i<N->Ev (λ n=>body n (i:Int)) (match stop i with|some r=>.inr (.inr r)|none=>.inl ((i+1:Nat):Int)))
  (h2:Ev (λ n=>body n (N:Int)) (.inr (.inl ()))):Ev (λ n=>whl (body n) n 0) (AI.scan N stop):=by
 have key:∀ (k i:Nat),i+k=N->(List.range N).findSome? stop=((List.range k).map (i+·)).findSome? stop->∃ M c,∀ n fuel,M<=n->c<=fuel->whl (body n) fuel (i:Int)=some (AI.scan N stop):=by
  intro k
  induction k with
  | zero=>
   intro i hi hf
   have:i=N:=by omega
   subst this
   obtain ⟨M,hM⟩:=h2
   refine ⟨M,1,λ n fuel hn hfu=>?_⟩
   obtain ⟨fuel,rfl⟩:∃ f,fuel=f+1:=⟨fuel-1,by omega⟩
   have e:=hM n hn
   simp only at e
   simp only [AI.whl,e]
   unfold AI.scan
   rw [hf];rfl
  | succ k ih=>
   intro i hi hf
   obtain ⟨M,hM⟩:=h i (by omega)
   have hs:(List.range (k+1)).map (i+·)=i::(List.range k).map ((i+1)+·):=by
    rw [List.range_succ_eq_map]
    simp only [List.map_cons,Nat.add_zero,List.map_map,List.cons.injEq,true_and]
    apply List.map_congr_left
    intro a _
    simp only [Function.comp];omega
   rw [hs,List.findSome?_cons] at hf
   cases hst:stop i with
   | some r=>
    rw [hst] at hf hM
    refine ⟨M,1,λ n fuel hn hfu=>?_⟩
    obtain ⟨fuel,rfl⟩:∃ f,fuel=f+1:=⟨fuel-1,by omega⟩
    have e:=hM n hn
    simp only at e
    simp only [AI.whl,e]
    unfold AI.scan
    rw [hf]
   | none=>
    rw [hst] at hf hM
    obtain ⟨M2,c,h3⟩:=ih (i+1) (by omega) hf
    refine ⟨max M M2,c+1,λ n fuel hn hfu=>?_⟩
    obtain ⟨fuel,rfl⟩:∃ f,fuel=f+1:=⟨fuel-1,by omega⟩
    have e:=hM n (by omega)
    simp only at e
    simp only [AI.whl,e]
    exact h3 n fuel (by omega) (by omega)
 obtain ⟨M,c,hh⟩:=key N 0 (by omega) (by simp)
 exact ⟨max M c,λ m hm=>hh m m (by omega) (by omega)⟩
theorem G6 {ρ:Type} {N:Nat} {stop:Nat->Option ρ} (h:∀ i,i<N->stop i=none):scan N stop=.inl ():=by
 unfold scan
 rw [List.findSome?_eq_none_iff.2 λ i hi=>h i (List.mem_range.1 hi)]
theorem G7 {ρ:Type} {N:Nat} {stop:Nat->Option ρ} {i:Nat} (hi:i<N) (h:(stop i).isSome=true):∃ k r,k<N/\stop k=some r/\scan N stop=.inr r:=by
 unfold scan
 cases hf:(List.range N).findSome? stop with
 | none=>rw [List.findSome?_eq_none_iff.1 hf i (List.mem_range.2 hi)] at h;cases h
 | some r=>
  obtain ⟨k,hk,hr⟩:=List.exists_of_findSome?_eq_some hf
  exact ⟨k,r,List.mem_range.1 hk,hr,rfl⟩
def Nf (b:UInt8):Int:=(b.toNat:Int)
def Hw (b:UInt8):Bool:=decide (Cm .u8 (Nf b) 127>=32)&&decide (Cm .u8 (Nf b) 127<=126)
def DT (b:UInt8):Bool:=Cm .u8 (Nf b) 127==32
theorem Ng {s:List UInt8} {i:Nat} {b:UInt8} (h:s[i]? = some b):Lk s (i:Int)=some (Nf b):=by
 rw [JN (Aj h)]
 unfold OO Nf
 rw [h];rfl
theorem Fp {i n:Nat} (h:i<n):decide ((i:Int)<((n:Nat):Int))=true:=by simpa using h
theorem So (n:Nat):decide (((n:Nat):Int)<((n:Nat):Int))=false:=by simp
def DB (s:List UInt8):Int×Int:=match scan s.length (λ i=>if Hw (s.getD i 0) then none else some ((i:Int),(60:Int))) with
 | .inl _=>(((s.length:Nat):Int),0)
 | .inr p=>p
theorem Cf {α:Type} {l:List α} {i:Nat} {d:α} (h:i<l.length):l.getD i d=l[i]:=by
 rw [Ji8,JiZ h];rfl
theorem Xf {s:List UInt8} (hl:s.length<9223372036854775807):Ev (λ n=>Hf n s) (DB s):=by
 unfold Hf DB
 refine Ev.bind (Gm s.length (λ i=>if Hw (s.getD i 0) then none else some ((i:Int),(60:Int))) (λ i hi=>Ev.all λ n=>?_) (Ev.all λ n=>?_)) ?_
 ·unfold E7
  have hg:s[i]? = some s[i]:=JiZ hi
  rw [if_pos (Fp hi),Ng hg,Cf hi]
  have hc:Dx n (Nf s[i])=some (Hw s[i]):=rfl
  simp only [Option.bind_some,hc]
  cases Hw s[i] with
  | true=>simp [Ez (show i<9223372036854775807 by omega)]
  | false=>simp
 ·unfold E7
  rw [if_neg (by simp)]
 ·generalize scan s.length _=z;cases z<;>exact Ev.const
theorem Vh {s:List UInt8} (hl:s.length<9223372036854775807):Ev (λ n=>KC n s) (DB s):=by
 unfold KC DB
 refine Ev.bind (Gm s.length (λ i=>if Hw (s.getD i 0) then none else some ((i:Int),(60:Int))) (λ i hi=>Ev.all λ n=>?_) (Ev.all λ n=>?_)) ?_
 ·unfold HO
  have hg:s[i]? = some s[i]:=JiZ hi
  rw [if_pos (Fp hi),Ng hg,Cf hi]
  have hc:If n (Nf s[i])=some (Hw s[i]):=rfl
  simp only [Option.bind_some,hc]
  cases Hw s[i] with
  | true=>simp [Ez (show i<9223372036854775807 by omega)]
  | false=>simp
 ·unfold HO
  rw [if_neg (by simp)]
 ·generalize scan s.length _=z;cases z<;>exact Ev.const
theorem Vi {s:List UInt8} (h:s.all Hw=true):DB s=(((s.length:Nat):Int),0):=by
 unfold DB
 rw [G6 λ i hi=>by rw [Cf hi,List.all_eq_true.1 h _ (List.getElem_mem hi)];rfl]
theorem Sp {s:List UInt8} (h:s.all Hw=false):(DB s).2=60:=by
 rw [List.all_eq_false] at h
 obtain ⟨b,hb,hc⟩:=h
 obtain ⟨i,hi,e⟩:=List.getElem_of_mem hb
 unfold DB
 obtain ⟨k,r,hk,hr,hs⟩:=G7 (stop:=λ i=>if Hw (s.getD i 0) then none else some ((i:Int),(60:Int))) hi (by
  rw [Cf hi,e];simp only [Bool.not_eq_true] at hc;rw [hc];rfl)
 rw [hs]
 simp only at hr ⊢
 split at hr
 ·cases hr
 ·cases hr;rfl
theorem Yj {s:List UInt8} (hl:s.length<9223372036854775807):Ev (λ n=>Jn n s) (s.all Hw):=by
 unfold Jn
 refine Ev.bind (Vh hl) ?_
 cases h:s.all Hw with
 | true=>rw [Vi h];exact Ev.const
 | false=>rw [Sp h];exact Ev.const
def Cw (r:Av) (m:Int):Bool:=
 r.Print.all Hw&&decide (r.Print.length<=4)&&decide (1<=r.Cells.length)&&decide (r.Cells.length<=4) &&
 (decide (1<=r.Left)&&decide (r.Left<=63)&&decide (1<=r.Right)&&decide (r.Right<=63)&&decide (0<=r.From)&&decide (r.From<m)&&decide (0<=r.To)&&decide (r.To<m)) &&
 r.Cells.all (λ c=>decide (c<63)) &&
 (bif r.Print.any DT then decide (r.Print.length=1)&&decide (r.Cells.length=1)&&r.Cells.any (λ c=>c==0) else !r.Cells.any (λ c=>c==0))
end Go.AI
end
section
namespace Go.AI
theorem Yk {r:Av} (hl:r.Print.length<9223372036854775807):Ev (λ n=>whl (λ (x:(Bool×Int))=>Ek n r x.1 x.2) n (false,0)) (r.Print.any DT):=by
 refine Ev.whl (body:=λ n x=>Ek n r x.1 x.2) (λ k x=>∃ i:Nat,x.2=(i:Int)/\i<=r.Print.length/\k=r.Print.length-i/\x.1=(r.Print.take i).any DT) ?_ r.Print.length (false,0) ⟨0,rfl,by omega,by omega,by simp⟩
 rintro k ⟨b,i'⟩ ⟨i,h1,hi,rfl,h2⟩
 simp only at h1 h2
 subst h1
 subst h2
 rcases Nat.lt_or_ge i r.Print.length with hlt|hge
 ·left
  have hg:r.Print[i]? = some r.Print[i]:=JiZ hlt
  have hcond:decide ((i:Int)<((r.Print.length:Nat):Int))=true:=by simpa using hlt
  refine ⟨((r.Print.take (i+1)).any DT,((i+1:Nat):Int)),r.Print.length-(i+1),by omega,⟨i+1,rfl,by omega,rfl,rfl⟩,Ev.all λ n=>?_⟩
  unfold Ek
  rw [if_pos hcond]
  have ht:(r.Print.take (i+1)).any DT=((r.Print.take i).any DT||DT r.Print[i]):=by
   rw [List.take_add_one,hg];simp only [Option.toList_some,List.any_append,List.any_cons,List.any_nil,Bool.or_false]
  have hsp:∀ n,NF n (Nf r.Print[i])=some (DT r.Print[i]):=λ n=>rfl
  rw [ht,N8 (by omega) (by omega),Ng hg]
  cases (r.Print.take i).any DT with
  | true=>simp
  | false=>simp [hsp]
 ·right
  have e:i=r.Print.length:=by omega
  subst e
  refine Ev.all λ n=>?_
  unfold Ek
  rw [if_neg (by simp),List.take_length]
theorem Ev.upto {σ ρ:Type} {body:Nat->σ->Option (σ⊕ρ)} {R:ρ->Prop} (N:Nat) (I:Nat->σ->Prop)
  (step:∀ i x,i<N->I i x->(∃ y,I (i+1) y/\Ev (λ n=>body n x) (.inl y))\/∃ r,R r/\Ev (λ n=>body n x) (.inr r))
  (last:∀ x,I N x->∃ r,R r/\Ev (λ n=>body n x) (.inr r)) (x:σ) (h0:I 0 x):∃ r,R r/\Ev (λ n=>Go.AI.whl (body n) n x) r:=by
 refine Ev.whlR (body:=body) (λ k x=>∃ i,i<=N/\k=N-i/\I i x) ?_ N x ⟨0,by omega,by omega,h0⟩
 rintro k x ⟨i,hi,rfl,hx⟩
 rcases Nat.lt_or_ge i N with hlt|hge
 ·rcases step i x hlt hx with ⟨y,hy,hE⟩|h
  ·exact .inl ⟨y,N-(i+1),by omega,⟨i+1,by omega,rfl,hy⟩,hE⟩
  ·exact .inr h
 ·have:i=N:=by omega
  subst this
  exact .inr (last x hx)
theorem Yl {r:Av} (hl:r.Cells.length<9223372036854775807) (y:Bool):∃ z:Bool⊕Bool,(if r.Cells.all (λ c=>decide (c<63))=true then z=.inl (r.Cells.any (λ c=>c==0)) else z=.inr false)/\Ev (λ n=>whl (λ (x:(Bool×Int))=>Ds n r y x.1 x.2) n (false,0)) z:=by
 refine Ev.upto (body:=λ n x=>Ds n r y x.1 x.2) r.Cells.length (λ i x=>x.2=(i:Int)/\x.1=(r.Cells.take i).any (λ c=>c==0)/\(r.Cells.take i).all (λ c=>decide (c<63))=true) ?_ ?_ (false,0) ⟨rfl,by simp,by simp⟩
 ·rintro i ⟨b,i'⟩ hlt ⟨h1,h2,h3⟩
  simp only at h1 h2
  subst h1
  subst h2
  have hg:r.Cells[i]? = some r.Cells[i]:=JiZ hlt
  have hcond:decide ((i:Int)<((r.Cells.length:Nat):Int))=true:=by simpa using hlt
  by_cases hc:r.Cells[i]<63
  ·left
   refine ⟨((r.Cells.take (i+1)).any (λ c=>c==0),((i+1:Nat):Int)),⟨rfl,rfl,?_⟩,Ev.all λ n=>?_⟩
   ·rw [List.take_add_one,hg];simp only [Option.toList_some,List.all_append,h3,List.all_cons,decide_eq_true hc,List.all_nil,Bool.and_self]
   ·unfold Ds
    have ht:(r.Cells.take (i+1)).any (λ c=>c==0)=((r.Cells.take i).any (λ c=>c==0)||r.Cells[i]==0):=by
     rw [List.take_add_one,hg];simp only [Option.toList_some,List.any_append,List.any_cons,List.any_nil,Bool.or_false]
    rw [if_pos hcond,JP hg,Option.bind_some,if_neg (by simpa using hc),ht,N8 (by omega) (by omega)]
    cases (r.Cells.take i).any (λ c=>c==0) with
    | true=>simp
    | false=>simp
  ·right
   refine ⟨.inr false,?_,Ev.all λ n=>?_⟩
   ·rw [if_neg]
    intro h
    rw [List.all_eq_true] at h
    exact hc (by simpa using h r.Cells[i] (List.getElem_mem hlt))
   ·unfold Ds
    rw [if_pos hcond,JP hg,Option.bind_some,if_pos (by simp;omega)]
 ·rintro ⟨b,i'⟩ ⟨h1,h2,h3⟩
  simp only at h1 h2
  subst h1
  subst h2
  rw [List.take_length] at h3 ⊢
  refine ⟨.inl (r.Cells.any (λ c=>c==0)),by rw [if_pos h3],Ev.all λ n=>?_⟩
  unfold Ds
  rw [if_neg (by simp)]
theorem Jbg {r:Av} (hp:r.Print.length<9223372036854775807) (hc:r.Cells.length<9223372036854775807) (m:Int):Ev (λ n=>K8 n r m) (Cw r m):=by
 obtain ⟨z,hz,hE⟩:=Yl hc (r.Print.any DT)
 have h1:=Yj hp
 have h2:=Yk (r:=r) hp
 unfold K8
 refine Ev.bind h1 ?_
 unfold Cw
 generalize r.Print.all Hw=a
 by_cases g1:((((!a)||(decide (((r.Print.length:Nat):Int)>4)))||(decide (((r.Cells.length:Nat):Int)<1)))||(decide (((r.Cells.length:Nat):Int)>4)))=true
 ·simp only [g1,if_true]
  have:(a&&decide (r.Print.length<=4)&&decide (1<=r.Cells.length)&&decide (r.Cells.length<=4))=false:=by
   rw [← Bool.not_eq_true]
   intro h
   simp only [Ji0,decide_eq_true_eq] at h
   simp only [Jjj,decide_eq_true_eq,Bool.not_eq_true'] at g1
   rcases g1 with ((g|g)|g)|g
   ·rw [g] at h;simp at h
   all_goals omega
  rw [this]
  exact Ev.const
 ·simp only [g1]
  by_cases g2:((((((((decide (r.Left<1))||(decide (r.Left>63)))||(decide (r.Right<1)))||(decide (r.Right>63)))||(decide (r.From<0)))||(decide (r.From>=m)))||(decide (r.To<0)))||(decide (r.To>=m)))=true
  ·simp only [g2,if_true]
   have:(decide (1<=r.Left)&&decide (r.Left<=63)&&decide (1<=r.Right)&&decide (r.Right<=63)&&decide (0<=r.From)&&decide (r.From<m)&&decide (0<=r.To)&&decide (r.To<m))=false:=by
    rw [← Bool.not_eq_true]
    intro h
    simp only [Ji0,decide_eq_true_eq] at h
    simp only [Jjj,decide_eq_true_eq] at g2
    omega
   rw [this,Bool.and_false]
   exact Ev.const
  ·have e1:(a&&decide (r.Print.length<=4)&&decide (1<=r.Cells.length)&&decide (r.Cells.length<=4))=true:=by
    simp only [Jjj,decide_eq_true_eq,Bool.not_eq_true',not_or] at g1
    simp only [Ji0,decide_eq_true_eq]
    refine ⟨⟨⟨by simpa using g1.1.1.1,?_⟩,?_⟩,?_⟩<;>omega
   have e2:(decide (1<=r.Left)&&decide (r.Left<=63)&&decide (1<=r.Right)&&decide (r.Right<=63)&&decide (0<=r.From)&&decide (r.From<m)&&decide (0<=r.To)&&decide (r.To<m))=true:=by
    simp only [Jjj,decide_eq_true_eq,not_or] at g2
    simp only [Ji0,decide_eq_true_eq]
    omega
   rw [e1,e2]
   simp only [g2,Jjc,if_false]
   refine Ev.bind h2 (Ev.bind hE ?_)
   split at hz
   ·rename_i h
    subst hz
    rw [h]
    generalize r.Print.any DT=b
    cases b with
    | false=>exact Ev.const
    | true=>
     refine Ev.all λ n=>?_
     simp only [Bool.not_true,Jjc,if_false,Bool.and_true,Bool.true_and,cond_true]
     congr 3<;>rw [Bool.eq_iff_iff]<;>simp<;>omega
   ·rename_i h
    subst hz
    rw [Bool.not_eq_true] at h
    rw [h]
    exact Ev.const
end Go.AI
end
