/- Part 5 of 7 of the proof: lemmas about the model and the program's functions, with no condition beyond those that each states. -/
import Derived.Test.YtjaogfjfamffnaaGreatLD
section
namespace Go.AI
open Go.Proofs
set_option maxRecDepth 10000
theorem xok (n kl:Nat):XOK Tryz.prog (cxk n kl):=⟨tyOK,rfl⟩
theorem fO (k:Nat) (s:St) {fn:Func} {f:FuncId} {args:List AV} {r:AV} (hf:Tryz.prog.funcs[f]? = some fn) (h:WP (cxk k 0) (Ax fn) [] (WS (cxk k 0).ty fn.results.toList r) s) (hb:fn.body=some (Ax fn):=by kernel_rfl) (hnm:(fn.name == "runtime.NumGoroutine")=false:=by kernel_rfl) (hnt:(cxk k 0).nt.n=fn.ntmps:=by kernel_rfl) (hlen:Nat.ble args.length fn.ntmps=true:=by kernel_rfl) (hs:(⟨(List.range args.length).zip args,[]⟩:St)=s:=by kernel_rfl):AD Tryz.prog f args r:=fo follows (Jf3 k 0) hf h hb hnm hnt hlen hs
theorem fL (k nb:Nat) (s:St) {fn:Func} {f:FuncId} {args:List AV} {O0 O1:List (Option Ob)} {r:AV} (hf:Tryz.prog.funcs[f]? = some fn) (h:WP (cxk k nb) (Ax fn) [] (Uh nb (cxk k nb).ty fn.results.toList r O1) s) (hb:fn.body=some (Ax fn):=by kernel_rfl) (hnm:(fn.name == "runtime.NumGoroutine")=false:=by kernel_rfl) (hnt:(cxk k nb).nt=⟨fn.ntmps,[],nb⟩:=by kernel_rfl) (hlen:Nat.ble args.length fn.ntmps=true:=by kernel_rfl) (hs:(⟨(List.range args.length).zip args,O0⟩:St)=s:=by kernel_rfl):BG Tryz.prog f args O0 nb r O1:=fl follows (Jf3 k nb) hf h hb hnm hnt hlen hs
variable {n:Nat}
def An (x:Ay):List D:=[.str x.Print,.sl (x.Cells.map eU8),.int .u8 x.Left,.int .u8 x.Right,.int .i64 x.From,.int .i64 x.To]
def Aj (x:Ab):List D:=[.int .i64 x.Mode,.int .i64 x.Last,.int .u8 x.Need]
def Az (x:N0):List D:=[.str x.Print,.int .i64 x.Cells,.int .i64 x.To]
def L8 (x:AE):List D:=[.sl (x.States.map Ae),.sl (x.Costs.map Ae)]
def Ai (x:A8):List D:=[.int .i64 x.Rule,.int .i64 x.To]
@[reducible] def Jks {α:Type} (e:α->List D) (x:FM α):List D:=e x.a0++e x.a1
def FG (x:Dq):List D:=[.sl (x.P.map eU8),.sl (x.C.map eU8),.int .u8 x.L,.int .u8 x.R,.int .u8 x.W.a0,.int .u8 x.W.a1]
def Jkt (x:Nf):List D:=[.int .u8 x.Base,.int .u8 x.Drop,.sl (x.More.map FG)]
def PV (x:Bz):List D:=[.int .u8 x.At,.int .u8 x.Cut,.sl (x.L.map eU8)]
def FX (x:Ad) (v2:AV):List AV:=[.d (.int .i64 x.Modes),.d (.int .u8 x.Accept),v2]
def AK (x:Ad):List AV:=[.d (.int .i64 x.Modes),.d (.int .u8 x.Accept),.d (.sl (x.Rules.map An))]
def Je (x:Ab):List AV:=[.d (.int .i64 x.Mode),.d (.int .i64 x.Last),.d (.int .u8 x.Need)]
def CS (x:A0):List AV:=[.d (.str x.Text),.d (.sl (x.Costs.map (eL Ae))),.d (.sl (x.Least.map Ae))]
def EC (x:BD):List AV:=[.d (.int .i64 x.At),.d (.int .i64 x.Cut),.d (.str x.Put)]
def L9 (x:Ay):List AV:=[.d (.str x.Print),.d (.sl (x.Cells.map eU8)),.d (.int .u8 x.Left),.d (.int .u8 x.Right),.d (.int .i64 x.From),.d (.int .i64 x.To)]
def Ha (x:Af) (v5:AV) (v6:AV):List AV:=[.d (.int .i64 x.T.Modes),.d (.int .u8 x.T.Accept),.d (.sl (x.T.Rules.map An)),.d (.str x.S),.d (.sl (x.States.map Aj)),v5,v6,.d (.int .i64 x.Last)]
def Al (x:Af) (v6:AV):List AV:=[.d (.int .i64 x.T.Modes),.d (.int .u8 x.T.Accept),.d (.sl (x.T.Rules.map An)),.d (.str x.S),.d (.sl (x.States.map Aj)),.d (.sl (x.Arcs.map (eL Ai))),v6,.d (.int .i64 x.Last)]
def O4 (x:Dq):List AV:=[.d (.sl (x.P.map eU8)),.d (.sl (x.C.map eU8)),.d (.int .u8 x.L),.d (.int .u8 x.R),.d (.int .u8 x.W.a0),.d (.int .u8 x.W.a1)]
def Rq (x:Ay) (v1:AV):List AV:=[.d (.str x.Print),v1,.d (.int .u8 x.Left),.d (.int .u8 x.Right),.d (.int .i64 x.From),.d (.int .i64 x.To)]
def Yn (x:Nf):List AV:=[.d (.int .u8 x.Base),.d (.int .u8 x.Drop),.d (.sl (x.More.map FG))]
def Jg5 (x:Sz):List AV:=[.d (.str x.S),.d (.int .i64 x.I),.d (.int .i64 x.State.Mode),.d (.int .i64 x.State.Last),.d (.int .u8 x.State.Need),.d (.sl (x.L.map Aj))]
def FH (x:A0) (v1:AV) (v2:AV):List AV:=[.d (.str x.Text),v1,v2]
def K5 (x:Bz):List AV:=[.d (.int .u8 x.At),.d (.int .u8 x.Cut),.d (.sl (x.L.map eU8))]
def Ac (x:AE):List AV:=[.own 1 (x.States.map Ae),.own 1 (x.Costs.map Ae)]
theorem SA:∀ a b:Ab,A3 [.int .i64,.int .i64,.int .u8] ((Aj a).map .d) ((Aj b).map .d)=some (decide (a=b)):=by
  intro a b
  cases a;cases b
  simp [A3,Aj,Bool.decide_and]
  try rfl
section
variable (t_1:Ad) (i_1:Int) (t_2:Ad)
def Jg6:St:=⟨[],[]⟩
def Jg7:St:=⟨(0,.ptr 0 0)::(1,.ptr 1 0)::(2,.osl 2 1 0 (List.length ([[97],[98],[97,98]])))::(3,.osl 3 1 0 (List.length [1,3,7]))::(4,.d (.int .i64 i_1))::[],[some (.box [.d (.int .i64 0),.d (.int .u8 0),.osl 4 6 0 (List.length ([]:List Ay))]),some (.box (FX t_1 (.osl 5 6 0 (t_1.Rules.length)))),some (.arr 1 (List.map eS ([[97],[98],[97,98]]))),some (.arr 1 (List.map eU8 [1,3,7])),some (.arr 6 (List.map An ([]:List Ay))),some (.arr 6 (t_1.Rules.map An))]⟩
def Jg8:St:=⟨(0,.ptr 0 0)::(1,.ptr 1 0)::[],[some (.box [.d (.int .i64 0),.d (.int .u8 0),.osl 2 6 0 (List.length ([]:List Ay))]),some (.box (FX t_2 (.osl 3 6 0 (t_2.Rules.length)))),some (.arr 6 (List.map An ([]:List Ay))),some (.arr 6 (t_2.Rules.map An))]⟩
def QW:Ad->Ex->St->Prop:=xX 0 0 (λ (y:Ad)=>Jg8 y)
def K6:(Ad×Int)->St:=(λ (x:(Ad×Int))=>Jg7 x.1 x.2)
variable {t_1 i_1 t_2}
theorem PW (x:(Ad×Int)) (z:((Ad×Int)⊕Ad)) (H:GN n x.1 x.2=some z):WP (cxk 28 0) (Ax Tryz.f19) [1,1,1,1,0,1,0,0] (Av 0 (K6) (QW) z) (K6 x):=by
 obtain ⟨t_1,i_1⟩:=x
 refine sq (sr (ck 2 (en (cn H (λ H=>?_) (λ H=>?_)))))
 ·exact sk (qz (sq (bk 1 (rz (ck 4 (bx H λ x1 h1 H=>sp (AA 2 1 h1) (sp (CL eS 2 0 (ty 9) h1) (ck 2 (bx H λ x2 h2 H=>sp (AA 3 1 h2) (sp (CL eU8 3 0 (ty 64) h2) (sF (ck 2 (bx H λ l1 h3 H=>sp (B6 An 5 6 h3) (ck 2 (ae (qN (qz (rz (ck 3 (ae (by cases H;exact og (sg [0,1,2,3,4]))))))))))))))))))))))
 ·exact ex 0 (qx (by cases H;exact xo rfl (sg [0,1])))
theorem Tu {z} (H:Kj n=some z):AD Tryz.prog 19 [] (.agg [.d (.int .i64 z.Modes),.d (.int .u8 z.Accept),.own 6 (z.Rules.map An)]):=by
 exact fO 28 Jg6 Tryz.func19 (sr (ck 1 (en (sr (ck 3 (en (sr (ck 2 (en (sr (ck 2 (en (sq (sr (ck 1 (en (bk 0 (bx H λ y1 h4 H=>lX PW h4 (tr (tr (BN 0 2 6 (by kernel_rfl)) (BN 1 2 6 (by kernel_rfl))) (sg [0,1,2,3,4])) rfl λ s hE1=>qH (qs (hE1) (sr (ck 2 (en (re (by cases H;exact pr (rO (v:=.agg [.d (.int .i64 z.Modes),.d (.int .u8 z.Accept),.osl 3 6 0 (z.Rules.length)]) [3] (a1 (c1 vd (c1 vd (c1 vo (c0))))))))))))))))))))))))))))))
end
section
variable (p0_:Int)
def Jg9:St:=⟨(0,.d (.int .u8 p0_))::[],[]⟩
variable {p0_}
theorem N3 {z} (H:DM n p0_=some z):AD Tryz.prog 49 [.d (.int .u8 p0_)] (.d (.bool z)):=by
 exact fO 12 (Jg9 p0_) Tryz.func49 (sr (ck 1 (en (sr (ck 3 (en (sr (ck 4 (gc 1 (decide (32<=Ch .u8 p0_ 127)) (pA (ck 1 (en (re (by cases H;exact pr rd))))))))))))))
end
section
variable (p0_:(List UInt8)) (x_1:Int)
def Jha:St:=⟨(0,.d (.str p0_))::[],[]⟩
def Jhb:St:=⟨(0,.d (.str p0_))::(6,.d (.int .i64 ((p0_.length:Nat):Int)))::(7,.d (.int .i64 x_1))::[],[]⟩
def Jhc:St:=⟨(0,.d (.str p0_))::[],[]⟩
def Tv:(Unit⊕(Int×Int))->Ex->St->Prop:=xS (xX 0 0 (λ (_:Unit)=>Jhc p0_)) (xR ty Tryz.f25 (λ (y:(Int×Int))=>.tup [.d (.int .i64 y.1),.d (.int .i64 y.2)]))
def NA:Int->St:=(λ (x:Int)=>Jhb p0_ x)
variable {p0_ x_1}
theorem Ma (x:Int) (z:(Int⊕(Unit⊕(Int×Int)))) (H:Fv n p0_ x=some z):WP (cxk 19 0) (Ax Tryz.f25) [1,0,1,0,0] (Av 0 (NA p0_) (Tv p0_) z) (NA p0_ x):=by
 revert H
 generalize x=x_1
 intro H
 refine sr (ck 1 (en (sq (cn H (λ H=>?_) (λ H=>?_)))))
 ·refine sk (qz (sq (bk 1 (sr (ck 2 (en (sr (ck 2 (bx H λ b1 h5 H=>sp (Hw h5) (bx H λ r1 h6 H=>ca false (N3 h6) (ck 1 (en (cn H (λ H=>?_) (λ H=>?_))))))))))))))
  ·exact sr (ck 3 (en (re (qR (qr (by cases H;exact ro rfl rdT))))))
  ·exact sk (qN (qz (rz (ck 2 (ae (by cases H;exact og (sg [0,6,7])))))))
 ·exact ex 0 (qx (by cases H;exact xo rfl (sg [0])))
theorem IM {z} (H:FS n p0_=some z):AD Tryz.prog 25 [.d (.str p0_)] (.tup [.d (.int .i64 z.1),.d (.int .i64 z.2)]):=by
 refine fO 19 (Jha p0_) Tryz.func25 (sr (ck 2 (en (sq (sr (ck 3 (en (bk 0 (bx H λ y2 h7 H=>?_)))))))))
 rcases y2 with y3|y4
 ·exact lX Ma h7 (sg [0,6,7]) rfl λ s hE2=>qH (qs (hE2) (sr (ck 4 (en (re (by cases H;exact pr rdT))))))
 ·exact lR Ma h7 (sg [0,6,7]) rfl λ s hE3=>qR (qr (by cases H;exact pr hE3))
end
def Jhd:St:=⟨[],[]⟩
theorem Vh {z} (H:JF n=some z):AD Tryz.prog 82 [] (.agg [.d (.int .i64 z.Mode),.d (.int .i64 z.Last),.d (.int .u8 z.Need)]):=by
 exact fO 2 Jhd Tryz.func82 (sr (ck 1 (en (sr (ck 2 (en (re (by cases H;exact pr rd))))))))
section
variable (p0_:Int) (p1_:Int)
def Jhe:St:=⟨(0,.d (.int .u8 p0_))::(1,.d (.int .i64 p1_))::[],[]⟩
variable {p0_ p1_}
theorem Kq {z} (H:Hy n p0_ p1_=some z):AD Tryz.prog 72 [.d (.int .u8 p0_),.d (.int .i64 p1_)] (.d (.bool z)):=by
 exact fO 18 (Jhe p0_ p1_) Tryz.func72 (sr (ck 1 (en (sr (ck 4 (gc 1 (decide (0<=p1_)) (pA (ck 3 (bx H λ gd1 h8 H=>soG (λ hg=>HV (BA h8 hg)) (BS (λ hh=>hh) (BS (λ hh=>hh) (D0))) (gc 2 ((decide (0<=p1_))&&(decide (p1_<8))) (pA (ck 1 (en (re (by cases H;exact pr rd)))))))))))))))
end
section
variable (p0_:Int)
def Jhf:St:=⟨(0,.d (.int .u8 p0_))::[],[]⟩
variable {p0_}
theorem HH {z} (H:Es n p0_=some z):AD Tryz.prog 73 [.d (.int .u8 p0_)] (.d (.int .i64 z)):=by
 refine fO 30 (Jhf p0_) Tryz.func73 (sr (ck 1 (en (sr (ck 3 (en (sq (bk 0 (sr (ck 4 (gc 1 (decide (97<=Ch .u8 p0_ 127)) (pA (ck 1 (en (cn H (λ H=>?_) (λ H=>?_))))))))))))))))
 ·exact sr (ck 1 (en (re (qR (qr (by cases H;exact pr rd))))))
 ·refine sr (ck 4 (gc 1 (decide (65<=Ch .u8 p0_ 127)) (pA (ck 1 (en (cn H (λ H=>?_) (λ H=>?_)))))))
  ·exact sr (ck 1 (en (re (qR (qr (by cases H;exact pr rd))))))
  ·refine sr (ck 4 (gc 1 (decide (48<=Ch .u8 p0_ 127)) (pA (ck 1 (en (cn H (λ H=>?_) (λ H=>?_)))))))
   ·exact sr (ck 1 (en (re (qR (qr (by cases H;exact pr rd))))))
   ·refine sr (ck 3 (en (cn H (λ H=>?_) (λ H=>?_))))
    ·exact sr (ck 1 (en (re (qR (qr (by cases H;exact pr rd))))))
    ·exact sk (qN (qz (sr (ck 1 (en (re (by cases H;exact pr rd)))))))
end
section
variable (p0_:Ad) (p1_:Ab) (p2_:Int)
def Jhg:St:=⟨(0,.agg [.d (.int .i64 p0_.Modes),.d (.int .u8 p0_.Accept),.d (.sl (p0_.Rules.map An))])::(1,.agg [.d (.int .i64 p1_.Mode),.d (.int .i64 p1_.Last),.d (.int .u8 p1_.Need)])::(2,.d (.int .i64 p2_))::[],[]⟩
variable {p0_ p1_ p2_}
theorem Mb {z} (H:G1 n p0_ p1_ p2_=some z):AD Tryz.prog 52 [.agg (AK p0_),.agg (Je p1_),.d (.int .i64 p2_)] (.tup [.agg [.d (.int .i64 z.1.Mode),.d (.int .i64 z.1.Last),.d (.int .u8 z.1.Need)],.d (.bool z.2)]):=by
 refine fO 78 (Jhg p0_ p1_ p2_) Tryz.func52 (sr (ck 4 (en (sq (sr (ck 5 (gc 1 (!(decide (p2_<0))) (sE (g:=(!(decide (p2_<0)))) (λ hg=>AC An p0_.Rules) (gc 1 (!(decide (p2_<0))) (pO (en (cn H (λ H=>?_) (λ H=>?_)))))))))))))
 ·exact sr (ck 3 (en (re (qr (by cases H;exact pr rdT)))))
 ·refine sk (qz (sr (ck 3 (bx H λ x3 h9 H=>sp (Am An h9) (ck 3 (en (sq (sr (ck 7 (gc 1 (!(x3.From != p1_.Mode)) (ck 1 (gc 1 (!(x3.From != p1_.Mode)) (bx H λ r2 h10 H=>cG false (leZ) rfl (λ hg=>Kq (BA h10 hg)) (Or.inl rfl) (BS (λ hh=>hh) (BS (λ hh=>hh) (D0))) rfl (gc 1 (!(x3.From != p1_.Mode)) (pO (en (cn H (λ H=>?_) (λ H=>?_))))))))))))))))))
  ·exact sr (ck 3 (en (re (qr (by cases H;exact pr rdT)))))
  ·refine sk (qz (sq (sr (ck 3 (en (cn H (λ H=>?_) (λ H=>?_)))))))
   ·refine sr (ck 6 (en (sq (sr (ck 2 (en (cn H (λ H=>?_) (λ H=>?_))))))))
    ·exact sr (ck 3 (en (re (qr (qr (by cases H;exact pr rdT))))))
    ·exact sk (qz (sr (ck 8 (en (re (qr (by cases H;exact pr rdT)))))))
   ·refine sk (qz (sq (sr (ck 4 (bx H λ b2 h11 H=>sp (Hw h11) (bx H λ r3 h12 H=>ca false (HH h12) (bx H λ r4 h13 H=>ca false (Kq h13) (ck 1 (en (cn H (λ H=>?_) (λ H=>?_)))))))))))
    ·exact sr (ck 3 (en (re (qr (by cases H;exact pr rdT)))))
    ·exact sk (qz (sr (ck 8 (bx H λ b3 h14 H=>sp (Hw h14) (bx H λ r5 h15 H=>ca false (HH h15) (ck 5 (en (re (by cases H;exact pr rdT)))))))))
end
section
variable (p0_:Ad) (states_1:(List Ab)) (from_1:(List (List Int))) (number_1:(List (Ab×Int))) (k_1:Int) (states_2:(List Ab)) (from_2:(List (List Int))) (states_3:(List Ab)) (from_3:(List (List Int))) (number_2:(List (Ab×Int))) (x_2:Int) (states_4:(List Ab)) (from_4:(List (List Int))) (number_3:(List (Ab×Int))) (states_5:(List Ab)) (from_5:(List (List Int))) (number_4:(List (Ab×Int))) (states_6:(List Ab)) (from_6:(List (List Int))) (number_5:(List (Ab×Int))) (n_1:Int)
def Jhh:St:=⟨(0,.agg [.d (.int .i64 p0_.Modes),.d (.int .u8 p0_.Accept),.d (.sl (p0_.Rules.map An))])::[],[]⟩
def Jhi:St:=⟨(1,.ptr 0 0)::(5,.osl 1 3 0 (states_1.length))::(6,.osl 2 1 0 (from_1.length))::(7,.mp 3)::(8,.d (.int .i64 k_1))::[],[some (.box (AK p0_)),some (.arr 3 (states_1.map Aj)),some (.narr 1 (from_1.map (nL 1 Ae))),some (.map true false (Er Aj Ae number_1))]⟩
def Jhj:St:=⟨(5,.osl 0 3 0 (states_2.length))::(6,.osl 1 1 0 (from_2.length))::[],[some (.arr 3 (states_2.map Aj)),some (.narr 1 (from_2.map (nL 1 Ae)))]⟩
def Jhk:St:=⟨(1,.ptr 0 0)::(5,.osl 1 3 0 (states_3.length))::(6,.osl 2 1 0 (from_3.length))::(7,.mp 3)::(8,.d (.int .i64 k_1))::(29,.d (.int .i64 ((p0_.Rules.length:Nat):Int)))::(30,.d (.int .i64 x_2))::[],[some (.box (AK p0_)),some (.arr 3 (states_3.map Aj)),some (.narr 1 (from_3.map (nL 1 Ae))),some (.map true false (Er Aj Ae number_2))]⟩
def Jhl:St:=⟨(1,.ptr 0 0)::(5,.osl 1 3 0 (states_4.length))::(6,.osl 2 1 0 (from_4.length))::(7,.mp 3)::(8,.d (.int .i64 k_1))::[],[some (.box (AK p0_)),some (.arr 3 (states_4.map Aj)),some (.narr 1 (from_4.map (nL 1 Ae))),some (.map true false (Er Aj Ae number_3))]⟩
def Jhm:St:=⟨(1,.ptr 0 0)::(5,.osl 1 3 0 (states_5.length))::(6,.osl 2 1 0 (from_5.length))::(7,.mp 3)::(8,.d (.int .i64 k_1))::(29,.d (.int .i64 ((p0_.Rules.length:Nat):Int)))::(30,.d (.int .i64 x_2))::[],[some (.box (AK p0_)),some (.arr 3 (states_5.map Aj)),some (.narr 1 (from_5.map (nL 1 Ae))),some (.map true false (Er Aj Ae number_4))]⟩
def Jhn:St:=⟨(1,.ptr 0 0)::(5,.osl 1 3 0 (states_6.length))::(6,.osl 2 1 0 (from_6.length))::(7,.mp 3)::(8,.d (.int .i64 k_1))::(12,.d (.int .i64 n_1))::(29,.d (.int .i64 ((p0_.Rules.length:Nat):Int)))::(30,.d (.int .i64 x_2))::[],[some (.box (AK p0_)),some (.arr 3 (states_6.map Aj)),some (.narr 1 (from_6.map (nL 1 Ae))),some (.map true false (Er Aj Ae number_5))]⟩
def PX:((List Ab)×(List (List Int))×(List (Ab×Int)))->Ex->St->Prop:=xX 0 2 (λ (y:((List Ab)×(List (List Int))×(List (Ab×Int))))=>Jhl p0_ k_1 y.1 y.2.1 y.2.2)
def JM:((List Ab)×(List (List Int))×(List (Ab×Int))×Int)->St:=(λ (x:((List Ab)×(List (List Int))×(List (Ab×Int))×Int))=>Jhk p0_ k_1 x.1 x.2.1 x.2.2.1 x.2.2.2)
def PY:((List Ab)×(List (List Int)))->Ex->St->Prop:=xX 0 0 (λ (y:((List Ab)×(List (List Int))))=>Jhj y.1 y.2)
def JN:((List Ab)×(List (List Int))×(List (Ab×Int))×Int)->St:=(λ (x:((List Ab)×(List (List Int))×(List (Ab×Int))×Int))=>Jhi p0_ x.1 x.2.1 x.2.2.1 x.2.2.2)
variable {p0_ states_1 from_1 number_1 k_1 states_2 from_2 states_3 from_3 number_2 x_2 states_4 from_4 number_3 states_5 from_5 number_4 states_6 from_6 number_5 n_1}
theorem O5 (x:((List Ab)×(List (List Int))×(List (Ab×Int))×Int)) (z:(((List Ab)×(List (List Int))×(List (Ab×Int))×Int)⊕((List Ab)×(List (List Int))×(List (Ab×Int))))) (H:Bx n p0_ k_1 x.1 x.2.1 x.2.2.1 x.2.2.2=some z):WP (cxk 78 0) (Ax Tryz.f71) [1,1,1,1,0,1,0,0,1,0,0,1,0,0] (Av 0 (JM p0_ k_1) (PX p0_ k_1) z) (JM p0_ k_1 x):=by
 obtain ⟨states_3,from_3,number_2,x_2⟩:=x
 refine sr (ck 1 (en (sq (cn H (λ H=>?_) (λ H=>?_)))))
 ·refine sk (qz (sj (λ (x:((List Ab)×(List (List Int))×(List (Ab×Int))))=>Jhm p0_ k_1 x_2 x.1 x.2.1 x.2.2) (λ (x:((List Ab)×(List (List Int))×(List (Ab×Int))))=>Cj n x_2 x.1 x.2.1 x.2.2) z ?_ (λ hFAu_explore_J1=>?_)))
  ·rintro ⟨states_5,from_5,number_4⟩ H
   exact rz (ck 2 (ae (by cases H;exact og (gP [1,5,6,7,8,29,30] [0,1,2,3] (po1 (po1 (pn1 (nL 1 Ae) from_5 (po1 (Pl.z)))))))))
  refine bk 3 (sr (ck 2 (en (sr (ck 3 (bx H λ x4 h17 H=>sp (AA 1 3 h17) (sp (CL Aj 1 0 (ty 93) h17) (ck 1 (bx H λ r7 h18 H=>ca false (Mb h18) (ck 6 (en (sq (sr (ck 2 (en (cn H (λ H=>?_) (λ H=>?_)))))))))))))))))
  ·exact ex 3 (qx (qH (qs (gP [1,5,6,7,8,29,30] [0,1,2,3] (po1 (po1 (pn1 (nL 1 Ae) from_3 (po1 (Pl.z)))))) (hFAu_explore_J1 (states_3,from_3,number_2) H))))
  ·refine sk (qz (sr (ck 2 (sp (Sw (enc:=Ae) (encK:=Aj) (k:=3) (e1:=λ x=>.int .i64 x) (m:=number_2) (l:=[.d (.int .i64 r7.1.Mode),.d (.int .i64 r7.1.Last),.d (.int .u8 r7.1.Need)]) (key:=r7.1) (z:=0) (vz:=[.int .i64 0]) SA true) (ck 5 (en (sj (λ (x:((List Ab)×(List (List Int))×(List (Ab×Int))×Int))=>Jhn p0_ k_1 x_2 x.1 x.2.1 x.2.2.1 x.2.2.2) (λ (x:((List Ab)×(List (List Int))×(List (Ab×Int))×Int))=>CM n k_1 x_2 x.1 x.2.1 x.2.2.1 x.2.2.2) z ?_ (λ hFAu_explore_J2=>?_))))))))
   ·rintro ⟨states_6,from_6,number_5,n_1⟩ H
    exact bx H λ x5 h19 H=>rg (tr (so1 (encN:=(nL 1 Ae)) 2 1 h19) (sno (encN:=(nL 1 Ae)) (enc:=Ae) h19 [.own 1 (x5.map Ae)] x5 1 2 0 1)) (ck 4 (sp (AA 2 1 h19) (sp (Ci (encN:=(nL 1 Ae)) (row:=[.osl 4 1 0 (x5.length)]) (k:=2) (sz:=1) (off:=0) (t:=ty 35) (v:=.osl 4 1 0 (x5.length)) h19) (ck 2 (bx H λ l2 h20 H=>sp (B6 Ae 4 1 h20) (sp (AA 2 1 h19) (sp (L4 (encN:=(nL 1 Ae)) (row:=[.osl 4 1 0 (x5.length)]) (row':=[.osl 6 1 0 (l2.length)]) (k:=2) (sz:=1) (off:=0) (t:=ty 35) (v:=.osl 6 1 0 (l2.length)) h19) (ae (qN (qs (tr (tr (tr (tr (tr (sni (encN:=(nL 1 Ae)) (xs:=from_6) (n:=n_1) (enc:=Ae) [.osl 6 1 0 (l2.length)] l2 1 2 0 6 1) (scl (encN:=(nL 1 Ae)) (xss:=from_6) n_1 [.own 1 (l2.map Ae)] 1 2 l2)) (sn 6 2 1 (lsS from_6 n_1.toNat l2))) (sn 65 2 1 (lsS from_6 n_1.toNat l2))) (sn 67 2 1 (lsS from_6 n_1.toNat l2))) (gP [1,5,6,7,8,29,30] [0,1,2,3] (po1 (po1 (pn1 (nL 1 Ae) (List.set from_6 n_1.toNat l2) (po1 (Pl.z))))))) (hFAu_explore_J1 (states_6,(List.set from_6 n_1.toNat l2),number_5) H)))))))))))
   refine sr (ck 2 (en (cn H (λ H=>?_) (λ H=>?_))))
   ·exact sr (ck 3 (en (sr (ck 3 (sp (Ro (enc:=Ae) (encK:=Aj) (k:=3) (e1:=λ x=>.int .i64 x) (m:=number_2) (l:=[.d (.int .i64 r7.1.Mode),.d (.int .i64 r7.1.Last),.d (.int .u8 r7.1.Need)]) (key:=r7.1) (y:=((states_3.length:Nat):Int)) (v:=.d (.int .i64 ((states_3.length:Nat):Int))) (vz:=[.int .i64 0]) SA) (en (rz (ck 3 (bx H λ l3 h21 H=>sp (B6 Aj 1 3 h21) (ck 1 (sK false (bx H λ l4 h22 H=>sp (Je0 (encN:=(nL 1 Ae)) (esz:=1) (k:=2) (e:=[.nil]) h22) (ck 2 (ae (qs (tr (JgA (encN:=(nL 1 Ae)) (xss:=from_3) (yss:=l4) (y:=([]:(List Int))) (row:=[.own 0 []]) (sz:=1) 7 (by kernel_rfl) (JeR h22) (by kernel_rfl)) (gP [1,5,6,7,8,12,29,30] [0,6,7,3] (po1 (po1 (pn1 (nL 1 Ae) l4 (po1 (Pl.z))))))) (hFAu_explore_J2 (l3,l4,(LU r7.1 ((states_3.length:Nat):Int) number_2),((states_3.length:Nat):Int)) H))))))))))))))))
   ·exact sk (qs (gP [1,5,6,7,8,12,29,30] [0,1,2,3] (po1 (po1 (pn1 (nL 1 Ae) from_3 (po1 (Pl.z)))))) (hFAu_explore_J2 (states_3,from_3,number_2,(Option.getD (Gb r7.1 number_2) 0)) H))
 ·exact ex 2 (qx (by cases H;exact xo rfl (gP [1,5,6,7,8] [0,1,2,3] (po1 (po1 (pn1 (nL 1 Ae) from_3 (po1 (Pl.z))))))))
theorem O6 (x:((List Ab)×(List (List Int))×(List (Ab×Int))×Int)) (z:(((List Ab)×(List (List Int))×(List (Ab×Int))×Int)⊕((List Ab)×(List (List Int))))) (H:Ck n p0_ x.1 x.2.1 x.2.2.1 x.2.2.2=some z):WP (cxk 78 0) (Ax Tryz.f71) [1,1,1,1,0,1,0,0] (Av 0 (JN p0_) (PY) z) (JN p0_ x):=by
 obtain ⟨states_1,from_1,number_1,k_1⟩:=x
 refine sq (sr (ck 4 (en (cn H (λ H=>?_) (λ H=>?_)))))
 ·exact sk (qz (sq (bk 1 (sr (ck 2 (sp (AC An p0_.Rules) (ck 1 (en (bk 2 (bx H λ y5 h23 H=>lX O5 h23 (gP [1,5,6,7,8,29,30] [0,1,2,3] (po1 (po1 (pn1 (nL 1 Ae) from_1 (po1 (Pl.z)))))) rfl λ s hE4=>qH (qN (qs (hE4) (rz (ck 3 (ae (by cases H;exact og (gP [1,5,6,7,8] [0,1,2,3] (po1 (po1 (pn1 (nL 1 Ae) y5.2.1 (po1 (Pl.z))))))))))))))))))))))
 ·exact ex 0 (qx (by cases H;exact xo rfl (gP [5,6] [1,2] (po1 (pn1 (nL 1 Ae) from_1 (Pl.z))))))
theorem SB {z} (H:Fw n p0_=some z):AD Tryz.prog 71 [.agg (AK p0_)] (.tup [.own 3 (z.1.map Aj),.d (.sl (z.2.map (eL Ae)))]):=by
 exact fO 78 (Jhh p0_) Tryz.func71 (sr (ck 3 (en (sr (bx H λ r6 h16 H=>ca false (Vh h16) (ck 2 (en (sr (ck 2 (sK true (ck 2 (en (sq (rg (Jbz (sz:=1) (es:=[[.nil]]) 3 (List.map (nL 1 Ae) ([[]]:List (List Int))) (by kernel_rfl) (by kernel_rfl)) (ck 2 (sp (Ro (enc:=Ae) (encK:=Aj) (k:=4) (e1:=λ x=>.int .i64 x) (m:=[]) (l:=[.d (.int .i64 r6.Mode),.d (.int .i64 r6.Last),.d (.int .u8 r6.Need)]) (key:=r6) (y:=0) (v:=.d (.int .i64 0)) (vz:=[.int .i64 0]) SA) (ck 2 (en (sq (sr (ck 1 (en (bk 0 (bx H λ y6 h24 H=>lX O6 h24 (gP [1,5,6,7,8] [0,2,3,4] (po1 (po1 (pn1 (nL 1 Ae) ([[]]:List (List Int)) (po1 (Pl.z)))))) rfl λ s hE5=>qH (qs (hE5) (sr (ck 4 (ae (qs (Y3 (encN:=(nL 1 Ae)) (encD:=(eL Ae)) (xss:=y6.2) (k:=1) (sz:=1) 3 (by kernel_rfl) (λ _=>rfl) (λ _=>rfl)) (re (by cases H;exact pr (rT (vs:=[.osl 0 3 0 (y6.1.length),.d (.sl (y6.2.map (eL Ae)))]) [0] (t1 (ao vo) (t1 (ad vd) (t0)))))))))))))))))))))))))))))))))))
end
section
variable (p0_:Ad)
def Jho:St:=⟨(0,.agg [.d (.int .i64 p0_.Modes),.d (.int .u8 p0_.Accept),.d (.sl (p0_.Rules.map An))])::[],[]⟩
variable {p0_}
theorem NB {z} (H:GC n p0_=some z):AD Tryz.prog 50 [.agg (AK p0_)] (.own 3 (z.map Aj)):=by
 exact fO 11 (Jho p0_) Tryz.func50 (sr (ck 2 (en (sr (ck 1 (bx H λ r8 h25 H=>cl [List.length r8.1] (SB h25) (ck 5 (en (sr (ck 2 (en (re (by cases H;exact pr (rO (v:=.osl 1 3 0 (r8.1.length)) [1] (ao vo)))))))))))))))
end
section
variable (p0_:Ad) (p1_:Ab)
def Jhp:St:=⟨(0,.agg [.d (.int .i64 p0_.Modes),.d (.int .u8 p0_.Accept),.d (.sl (p0_.Rules.map An))])::(1,.agg [.d (.int .i64 p1_.Mode),.d (.int .i64 p1_.Last),.d (.int .u8 p1_.Need)])::[],[]⟩
variable {p0_ p1_}
theorem Mc {z} (H:Ed n p0_ p1_=some z):AD Tryz.prog 51 [.agg (AK p0_),.agg (Je p1_)] (.d (.bool z)):=by
 exact fO 22 (Jhp p0_ p1_) Tryz.func51 (sr (ck 3 (en (sr (ck 7 (gc 1 (decide (p1_.Mode<p0_.Modes)) (ck 1 (gc 1 (decide (p1_.Mode<p0_.Modes)) (bx H λ r9 h26 H=>cG false (leZ) rfl (λ hg=>Kq (BA h26 hg)) (Or.inl rfl) (BS (λ hh=>hh) (BS (λ hh=>hh) (D0))) rfl (pA (ck 2 (gc 1 ((decide (p1_.Mode<p0_.Modes))&&r9) (bx H λ r10 h27 H=>cG false (leZ) rfl (λ hg=>Kq (BA h27 hg)) (Or.inl rfl) (BS (λ hh=>hh) (D0)) rfl (pA (ck 1 (en (re (by cases H;exact pr rd))))))))))))))))))
end
section
variable (p0_:(List UInt8)) (p1_:(List UInt8))
def Jhq:St:=⟨(0,.d (.str p0_))::(1,.d (.str p1_))::[],[]⟩
variable {p0_ p1_}
theorem PZ {z} (H:EP n p0_ p1_=some z):AD Tryz.prog 74 [.d (.str p0_),.d (.str p1_)] (.d (.bool z)):=by
 exact fO 18 (Jhq p0_ p1_) Tryz.func74 (sr (ck 1 (en (sr (ck 8 (gc 1 (decide (((p0_.length:Nat):Int)>=((p1_.length:Nat):Int))) (bx H λ s1 h36 H=>sE (λ hg=>Hx (BA h36 hg)) (ck 1 (gc 1 (decide (((p0_.length:Nat):Int)>=((p1_.length:Nat):Int))) (pA (ck 1 (en (re (by cases H;exact pr rd))))))))))))))
end
section
variable (p0_:(List UInt8)) (p1_:(List UInt8))
def Jhr:St:=⟨(0,.d (.str p0_))::(1,.d (.str p1_))::[],[]⟩
variable {p0_ p1_}
theorem JO {z} (H:DU n p0_ p1_=some z):AD Tryz.prog 55 [.d (.str p0_),.d (.str p1_)] (.d (.bool z)):=by
 exact fO 8 (Jhr p0_ p1_) Tryz.func55 (sr (ck 1 (en (sr (ck 2 (bx H λ r11 h37 H=>ca true (PZ h37) (ck 1 (en (re (by cases H;exact pr rd))))))))))
end
section
variable (p0_:Ad) (x_4:AM) (r12:(List Ab)) (number_6:(List (Ab×Int))) (x_5:Int) (number_7:(List (Ab×Int))) (y8:(List (Ab×Int))) (g_1:AM) (x_6:Int) (g_2:AM) (x13:Ab) (g_3:AM) (x_7:Int) (g_4:AM) (g_5:AM)
def Jb1:St:=⟨(0,.agg [.d (.int .i64 p0_.Modes),.d (.int .u8 p0_.Accept),.d (.sl (p0_.Rules.map An))])::[],[]⟩
def Jb2:St:=⟨(2,.ptr 0 0)::[],[some (.box [.osl 1 1 0 (x_4.Arcs.length),.osl 2 1 0 (x_4.Accepts.length)]),some (.narr 1 (x_4.Arcs.map (nL 3 Az))),some (.arr 1 (x_4.Accepts.map eB))]⟩
def Jb3:St:=⟨(1,.ptr 0 0)::(3,.d (.sl (r12.map Aj)))::(4,.mp 1)::(19,.d (.sl (r12.map Aj)))::(20,.d (.int .i64 ((r12.length:Nat):Int)))::(21,.d (.int .i64 x_5))::[],[some (.box (AK p0_)),some (.map true false (Er Aj Ae number_6))]⟩
def Jb4:St:=⟨(1,.ptr 0 0)::(3,.d (.sl (r12.map Aj)))::(4,.mp 1)::[],[some (.box (AK p0_)),some (.map true false (Er Aj Ae number_7))]⟩
def O7:(List (Ab×Int))->Ex->St->Prop:=xX 0 0 (λ (y:(List (Ab×Int)))=>Jb4 p0_ r12 y)
def IN:((List (Ab×Int))×Int)->St:=(λ (x:((List (Ab×Int))×Int))=>Jb3 p0_ r12 x.1 x.2)
def Jb5:St:=⟨(1,.ptr 0 0)::(4,.mp 1)::(7,.ptr 2 0)::(38,.d (.sl (r12.map Aj)))::(39,.d (.int .i64 ((r12.length:Nat):Int)))::(40,.d (.int .i64 x_6))::[],[some (.box (AK p0_)),some (.map true false (Er Aj Ae y8)),some (.box [.osl 3 1 0 (g_1.Arcs.length),.osl 4 1 0 (g_1.Accepts.length)]),some (.narr 1 (g_1.Arcs.map (nL 3 Az))),some (.arr 1 (g_1.Accepts.map eB))]⟩
def Jb6:St:=⟨(7,.ptr 0 0)::[],[some (.box [.osl 1 1 0 (g_2.Arcs.length),.osl 2 1 0 (g_2.Accepts.length)]),some (.narr 1 (g_2.Arcs.map (nL 3 Az))),some (.arr 1 (g_2.Accepts.map eB))]⟩
def Jb7:St:=⟨(1,.ptr 0 0)::(4,.mp 1)::(7,.ptr 2 0)::(8,.d (.int .i64 x_6))::(9,.ptr 3 0)::(38,.d (.sl (r12.map Aj)))::(39,.d (.int .i64 ((r12.length:Nat):Int)))::(40,.d (.int .i64 x_6))::(55,.d (.sl (p0_.Rules.map An)))::(56,.d (.int .i64 ((p0_.Rules.length:Nat):Int)))::(57,.d (.int .i64 x_7))::[],[some (.box (AK p0_)),some (.map true false (Er Aj Ae y8)),some (.box [.osl 4 1 0 (g_3.Arcs.length),.osl 5 1 0 (g_3.Accepts.length)]),some (.box (Je x13)),some (.narr 1 (g_3.Arcs.map (nL 3 Az))),some (.arr 1 (g_3.Accepts.map eB))]⟩
def Jb8:St:=⟨(1,.ptr 0 0)::(4,.mp 1)::(7,.ptr 2 0)::(38,.d (.sl (r12.map Aj)))::(39,.d (.int .i64 ((r12.length:Nat):Int)))::(40,.d (.int .i64 x_6))::[],[some (.box (AK p0_)),some (.map true false (Er Aj Ae y8)),some (.box [.osl 3 1 0 (g_4.Arcs.length),.osl 4 1 0 (g_4.Accepts.length)]),some (.narr 1 (g_4.Arcs.map (nL 3 Az))),some (.arr 1 (g_4.Accepts.map eB))]⟩
def Jb9:St:=⟨(1,.ptr 0 0)::(4,.mp 1)::(7,.ptr 2 0)::(8,.d (.int .i64 x_6))::(9,.ptr 3 0)::(38,.d (.sl (r12.map Aj)))::(39,.d (.int .i64 ((r12.length:Nat):Int)))::(40,.d (.int .i64 x_6))::(55,.d (.sl (p0_.Rules.map An)))::(56,.d (.int .i64 ((p0_.Rules.length:Nat):Int)))::(57,.d (.int .i64 x_7))::[],[some (.box (AK p0_)),some (.map true false (Er Aj Ae y8)),some (.box [.osl 4 1 0 (g_5.Arcs.length),.osl 5 1 0 (g_5.Accepts.length)]),some (.box (Je x13)),some (.narr 1 (g_5.Arcs.map (nL 3 Az))),some (.arr 1 (g_5.Accepts.map eB))]⟩
def O8:AM->Ex->St->Prop:=xX 0 4 (λ (y:AM)=>Jb8 p0_ r12 y8 x_6 y)
def IP:(AM×Int)->St:=(λ (x:(AM×Int))=>Jb7 p0_ r12 y8 x_6 x13 x.1 x.2)
def O9:AM->Ex->St->Prop:=xX 0 2 (λ (y:AM)=>Jb6 y)
def IQ:(AM×Int)->St:=(λ (x:(AM×Int))=>Jb5 p0_ r12 y8 x.1 x.2)
variable {p0_ x_4 r12 number_6 x_5 number_7 y8 g_1 x_6 g_2 x13 g_3 x_7 g_4 g_5}
theorem N4 (x:((List (Ab×Int))×Int)) (z:(((List (Ab×Int))×Int)⊕(List (Ab×Int)))) (H:B1 n p0_ r12 x.1 x.2=some z):WP (cxk 97 0) (Ax Tryz.f26) [1,1,1,0,1,0,0] (Av 0 (IN p0_ r12) (O7 p0_ r12) z) (IN p0_ r12 x):=by
 obtain ⟨number_6,x_5⟩:=x
 refine sr (ck 1 (en (sq (cn H (λ H=>?_) (λ H=>?_)))))
 ·exact sk (qz (sq (bk 1 (sr (ck 1 (bx H λ x12 h44 H=>sp (Am Aj h44) (ck 4 (en (rz (ck 3 (sp (Ro (enc:=Ae) (encK:=Aj) (k:=1) (e1:=λ x=>.int .i64 x) (m:=number_6) (l:=[.d (.int .i64 x12.Mode),.d (.int .i64 x12.Last),.d (.int .u8 x12.Need)]) (key:=x12) (y:=x_5) (v:=.d (.int .i64 x_5)) (vz:=[.int .i64 0]) SA) (ae (qN (qz (rz (ck 2 (ae (by cases H;exact og (sg [1,3,4,19,20,21])))))))))))))))))))
 ·exact ex 0 (qx (by cases H;exact xo rfl (sg [1,3,4])))
theorem N5 (x:(AM×Int)) (z:((AM×Int)⊕AM)) (H:B2 n p0_ r12 y8 x_6 x13 x.1 x.2=some z):WP (cxk 97 0) (Ax Tryz.f26) [1,1,1,1,1,0,1,0,0,1,1,0,0,1,1,1,0,0] (Av 0 (IP p0_ r12 y8 x_6 x13) (O8 p0_ r12 y8 x_6) z) (IP p0_ r12 y8 x_6 x13 x):=by
 obtain ⟨g_3,x_7⟩:=x
 refine sr (ck 1 (en (sq (cn H (λ H=>?_) (λ H=>?_)))))
 ·refine sk (qz (sj (λ (x:AM)=>Jb9 p0_ r12 y8 x_6 x13 x_7 x) (λ (x:AM)=>Cp n x_7 x) z ?_ (λ hFRv_newGraph_J1=>?_)))
  ·intro g_5 H
   exact rz (ck 2 (ae (by cases H;exact og (gP [1,4,7,8,9,38,39,40,55,56,57] [0,1,2,3,4,5] (po1 (po1 (po1 (po1 (pn1 (nL 3 Az) g_5.Arcs (po1 (Pl.z)))))))))))
  refine bk 5 (sr (ck 1 (bx H λ x15 h52 H=>sp (Am An h52) (ck 4 (en (sr (ck 3 (bx H λ r14 h53 H=>ca false (Mb h53) (ck 6 (en (sr (ck 1 (en (cn H (λ H=>?_) (λ H=>?_)))))))))))))))
  ·exact bx H λ x16 h54 H=>rg (tr (so1 (encN:=(nL 3 Az)) 4 1 h54) (sno (encN:=(nL 3 Az)) (enc:=Az) h54 [.own 3 (x16.map Az)] x16 1 4 0 3)) (ck 10 (sp (AA 4 1 h54) (sp (Ci (encN:=(nL 3 Az)) (row:=[.osl 8 3 0 (x16.length)]) (k:=4) (sz:=1) (off:=0) (t:=ty 116) (v:=.osl 8 3 0 (x16.length)) h54) (ck 4 (sp (AC eU8 x15.Cells) (ck 2 (sp (Sw (enc:=Ae) (encK:=Aj) (k:=1) (e1:=λ x=>.int .i64 x) (m:=y8) (l:=[.d (.int .i64 r14.1.Mode),.d (.int .i64 r14.1.Last),.d (.int .u8 r14.1.Need)]) (key:=r14.1) (z:=0) (vz:=[.int .i64 0]) SA false) (ck 2 (bx H λ l12 h55 H=>sp (B6 Az 8 3 h55) (sp (AA 4 1 h54) (sp (L4 (encN:=(nL 3 Az)) (row:=[.osl 8 3 0 (x16.length)]) (row':=[.osl 10 3 0 (l12.length)]) (k:=4) (sz:=1) (off:=0) (t:=ty 116) (v:=.osl 10 3 0 (l12.length)) h54) (ae (qN (qs (tr (tr (tr (tr (tr (sni (encN:=(nL 3 Az)) (xs:=g_3.Arcs) (n:=x_6) (enc:=Az) [.osl 10 3 0 (l12.length)] l12 1 4 0 10 3) (scl (encN:=(nL 3 Az)) (xss:=g_3.Arcs) x_6 [.own 3 (l12.map Az)] 1 4 l12)) (sn 73 4 1 (lsS g_3.Arcs x_6.toNat l12))) (sn 78 4 1 (lsS g_3.Arcs x_6.toNat l12))) (snc 2 0 4 1 (lsS g_3.Arcs x_6.toNat l12))) (gP [1,4,7,8,9,38,39,40,55,56,57] [0,1,2,3,4,5] (po1 (po1 (po1 (po1 (pn1 (nL 3 Az) (List.set g_3.Arcs x_6.toNat l12) (po1 (Pl.z))))))))) (hFRv_newGraph_J1 ({ Arcs:=List.set g_3.Arcs x_6.toNat l12,Accepts:=g_3.Accepts }:AM) H)))))))))))))))
  ·exact sk (qN (qs (gP [1,4,7,8,9,38,39,40,55,56,57] [0,1,2,3,4,5] (po1 (po1 (po1 (po1 (pn1 (nL 3 Az) g_3.Arcs (po1 (Pl.z)))))))) (hFRv_newGraph_J1 g_3 H)))
 ·exact ex 4 (qx (by cases H;exact xo rfl (gP [1,4,7,38,39,40] [0,1,2,4,5] (po1 (po1 (po1 (pn1 (nL 3 Az) g_3.Arcs (po1 (Pl.z)))))))))
theorem N6 (x:(AM×Int)) (z:((AM×Int)⊕AM)) (H:Cq n p0_ r12 y8 x.1 x.2=some z):WP (cxk 97 0) (Ax Tryz.f26) [1,1,1,1,1,0,1,0,0] (Av 0 (IQ p0_ r12 y8) (O9) z) (IQ p0_ r12 y8 x):=by
 obtain ⟨g_1,x_6⟩:=x
 refine sr (ck 1 (en (sq (cn H (λ H=>?_) (λ H=>?_)))))
 ·exact sk (qz (sq (bk 3 (sr (ck 1 (bx H λ x13 h48 H=>sp (Am Aj h48) (ck 4 (en (sr (ck 7 (bx H λ r13 h49 H=>ca false (Mc h49) (bx H λ x14 h50 H=>sp (AA 4 1 h50) (bx H λ l11 h51 H=>stA eB 4 0 (ty 4) h50 h51 (en (sq (rg (tr (sn 48 4 1 (Bh h51)) (snc 2 1 4 1 (Bh h51))) (ck 2 (sp (AC An p0_.Rules) (ck 1 (en (bk 4 (bx H λ y9 h56 H=>lX N5 h56 (gP [1,4,7,8,9,38,39,40,55,56,57] [0,1,2,5,3,4] (po1 (po1 (po1 (po1 (pn1 (nL 3 Az) g_1.Arcs (po1 (Pl.z)))))))) rfl λ s hE8=>qH (qN (qs (hE8) (rz (ck 2 (ae (by cases H;exact og (gP [1,4,7,38,39,40] [0,1,2,3,4] (po1 (po1 (po1 (pn1 (nL 3 Az) y9.Arcs (po1 (Pl.z)))))))))))))))))))))))))))))))))))
 ·exact ex 2 (qx (by cases H;exact xo rfl (gP [7] [2,3,4] (po1 (pn1 (nL 3 Az) g_1.Arcs (po1 (Pl.z)))))))
theorem K7 {z} (H:DD n p0_=some z):BG Tryz.prog 26 [.agg (AK p0_)] [] 0 (.ptr 0 0) [some (.box [.osl 1 1 0 (z.Arcs.length),.osl 2 1 0 (z.Accepts.length)]),some (.narr 1 (z.Arcs.map (nL 3 Az))),some (.arr 1 (z.Accepts.map eB))]:=by
 exact fL 97 0 (Jb1 p0_) Tryz.func26 (sr (ck 2 (en (sr (ck 1 (bx H λ r12 h43 H=>ca false (NB h43) (ck 1 (en (sr (ck 1 (sp (AC Aj r12) (ck 2 (en (sq (sr (ck 1 (sp (AC Aj r12) (ck 1 (en (bk 0 (bx H λ y8 h45 H=>lX N4 h45 (sg [1,3,4,19,20,21]) rfl λ s hE7=>qH (qs (hE7) (sr (ck 1 (sp (AC Aj r12) (bx H λ l9 h46 H=>sp (Sy 1 (ez:=[.nil]) h46) (ck 1 (sp (AC Aj r12) (bx H λ l10 h47 H=>sp (Uo eB 1 h47) (ck 3 (en (sq (sq (rg (tr (tr (Vc (encN:=(nL 3 Az)) (sz:=1) (z:=[.nil]) (n:=((r12.length:Nat):Int)) 2 (ML h46) (by kernel_rfl) (by kernel_rfl)) (sn 32 2 1 (GM h46))) (snc 4 0 2 1 (GM h46))) (ck 1 (sp (AC Aj r12) (ck 1 (en (bk 2 (bx H λ y10 h57 H=>lX N6 h57 (gP [1,4,7,38,39,40] [0,1,4,2,3] (po1 (po1 (po1 (pn1 (nL 3 Az) l9 (po1 (Pl.z))))))) rfl λ s hE9=>qH (qs (hE9) (sr (ck 2 (en (re (by cases H;exact pL (rl (s':=Jb2 z) (gP [2] [0,1,2] (po1 (pn1 (nL 3 Az) z.Arcs (po1 (Pl.z))))))))))))))))))))))))))))))))))))))))))))))))))))
end
section
variable (p1_:(List UInt8)) (b0_:AM) (x_8:(List (Nat×Nat))) (x_9:(List Int)) (x_10:(List Int)) (l14:(List Int)) (l15:(List Int)) (m_3:(List (Nat×Nat))) (x_11:Int) (m_4:(List (Nat×Nat)))
def Jca:St:=⟨(0,.ptr 0 0)::(1,.d (.str p1_))::[],[some (.box [.d (.sl (b0_.Arcs.map (eL Az))),.d (.sl (b0_.Accepts.map eB))])]⟩
def Jcb:St:=⟨(4,.ptr 1 0)::[],[some (.box [.d (.sl (b0_.Arcs.map (eL Az))),.d (.sl (b0_.Accepts.map eB))]),some (.box [.d (.str p1_),.osl 2 1 0 (x_8.length),.osl 3 1 0 (x_9.length)]),some (.cut 4 1 x_8),some (.arr 1 (x_9.map Ae)),some (.arr 1 (x_10.map Ae))]⟩
def Jcc:St:=⟨(4,.ptr 1 0)::(5,.d (.int .i64 ((b0_.Arcs.length:Nat):Int)))::(7,.ptr 2 0)::(8,.osl 3 1 0 (l15.length))::(28,.d (.int .i64 (Au .i64 ((p1_.length:Nat):Int) 1)))::(29,.d (.int .i64 x_11))::[],[some (.box [.d (.sl (b0_.Arcs.map (eL Az))),.d (.sl (b0_.Accepts.map eB))]),some (.box [.d (.str []),.osl 4 1 0 (List.length ([]:List (List Int))),.osl 5 1 0 (List.length ([]:List Int))]),some (.box [.d (.str p1_),.osl 6 1 0 (m_3.length),.osl 7 1 0 (l14.length)]),some (.arr 1 (l15.map Ae)),some (.arr 1 (List.map (eL Ae) ([]:List (List Int)))),some (.arr 1 (List.map Ae ([]:List Int))),some (.cut 3 1 m_3),some (.arr 1 (l14.map Ae))]⟩
def Jcd:St:=⟨(4,.ptr 1 0)::(7,.ptr 2 0)::[],[some (.box [.d (.sl (b0_.Arcs.map (eL Az))),.d (.sl (b0_.Accepts.map eB))]),some (.box [.d (.str []),.osl 3 1 0 (List.length ([]:List (List Int))),.osl 4 1 0 (List.length ([]:List Int))]),some (.box [.d (.str p1_),.osl 5 1 0 (m_4.length),.osl 6 1 0 (l14.length)]),some (.arr 1 (List.map (eL Ae) ([]:List (List Int)))),some (.arr 1 (List.map Ae ([]:List Int))),some (.cut 7 1 m_4),some (.arr 1 (l14.map Ae)),some (.arr 1 (l15.map Ae))]⟩
def Lu:(List (Nat×Nat))->Ex->St->Prop:=xX 1 0 (λ (y:(List (Nat×Nat)))=>Jcd p1_ b0_ l14 l15 y)
def Gc:((List (Nat×Nat))×Int)->St:=(λ (x:((List (Nat×Nat))×Int))=>Jcc p1_ b0_ l14 l15 x.1 x.2)
variable {p1_ b0_ x_8 x_9 x_10 l14 l15 m_3 x_11 m_4}
theorem Kr (x:((List (Nat×Nat))×Int)) (z:(((List (Nat×Nat))×Int)⊕(List (Nat×Nat)))) (H:BH n p1_ b0_ l14 l15 x.1 x.2=some z):WP (cxk 51 1) (Ax Tryz.f28) [1,1,1,1,0,1,0,0] (Av 1 (Gc p1_ b0_ l14 l15) (Lu p1_ b0_ l14 l15) z) (Gc p1_ b0_ l14 l15 x):=by
 obtain ⟨m_3,x_11⟩:=x
 refine sr (ck 1 (en (sq (cn H (λ H=>?_) (λ H=>?_)))))
 ·exact sk (qz (sq (bk 1 (sr (ck 2 (en (rg (OW (xs:=m_3) 6 3 1 (by kernel_rfl)) (ck 15 (bx H λ gd3 h61 H=>sp (JgM 3 1 (l15.length) h61) (bx H λ x17 h62 H=>sp (AA 6 1 h62) (bx H λ l16 h63 H=>sp (JgN (t:=ty 35) 6 3 1 ((0+Int.toNat (Ki .i64 x_11 ((b0_.Arcs.length:Nat):Int)),Int.toNat (Ki .i64 (Au .i64 x_11 1) ((b0_.Arcs.length:Nat):Int))-Int.toNat (Ki .i64 x_11 ((b0_.Arcs.length:Nat):Int))):Nat×Nat).1 ((0+Int.toNat (Ki .i64 x_11 ((b0_.Arcs.length:Nat):Int)),Int.toNat (Ki .i64 (Au .i64 x_11 1) ((b0_.Arcs.length:Nat):Int))-Int.toNat (Ki .i64 x_11 ((b0_.Arcs.length:Nat):Int))):Nat×Nat).2 h63) (ae (qN (qz (rg (tr (tr (Ny (xs:=l16) 6 3 1 (by kernel_rfl)) (sn 33 6 1 (Bh h63))) (snc 2 1 6 1 (Bh h63))) (ck 2 (ae (by cases H;exact og (sg [4,5,7,8,28,29])))))))))))))))))))
 ·exact ex 0 (qx (by cases H;exact xo rfl (sg [4,7])))
theorem Ho {z} (H:B8 n p1_ b0_=some z):BG Tryz.prog 28 [.ptr 0 0,.d (.str p1_)] [some (.box [.d (.sl (b0_.Arcs.map (eL Az))),.d (.sl (b0_.Accepts.map eB))])] 1 (.agg [.d (.str p1_),.osl 2 1 0 (z.1.length),.osl 3 1 0 (z.2.1.length)]) [some (.box [.d (.sl (b0_.Arcs.map (eL Az))),.d (.sl (b0_.Accepts.map eB))]),some (.box [.d (.str p1_),.osl 2 1 0 (z.1.length),.osl 3 1 0 (z.2.1.length)]),some (.cut 4 1 z.1),some (.arr 1 (z.2.1.map Ae)),some (.arr 1 (z.2.2.map Ae))]:=by
 exact fL 51 1 (Jca p1_ b0_) Tryz.func28 (sr (ck 1 (en (sr (ck 4 (sp (AC (eL Az) b0_.Arcs) (ck 5 (en (sr (ck 2 (bx H λ l13 h58 H=>sp (Sy 1 (ez:=[.nil]) h58) (ck 1 (bx H λ l14 h59 H=>sp (Uo Ae 1 h59) (ck 3 (en (sr (ck 3 (bx H λ l15 h60 H=>sp (Uo Ae 1 h60) (ck 1 (en (sq (sq (rg (tr (tr (tr (JgO (zs:=l13) 2 5 1 (ML h58) (by kernel_rfl)) (Ny (xs:=List.replicate (l13.length) ((0,0):Nat×Nat)) 2 5 1 (by kernel_rfl))) (sn 20 2 1 ((GM h58).trans (lrN (x:=((0,0):Nat×Nat)))))) (snc 4 1 2 1 ((GM h58).trans (lrN (x:=((0,0):Nat×Nat)))))) (ck 2 (en (bk 0 (bx H λ y11 h64 H=>lX Kr h64 (tr (tr (BN 1 1 1 (by kernel_rfl)) (BN 1 2 1 (by kernel_rfl))) (sg [4,5,7,8,28,29])) rfl λ s hE10=>qH (qs (hE10) (sr (ck 2 (en (re (by cases H;exact pL (rl (s':=Jcb p1_ b0_ y11 l14 l15) (sg [4])))))))))))))))))))))))))))))))))))
end
section
variable (p1_0_:(List UInt8)) (b0_:AM) (o1_:(List (Nat×Nat))) (o2_:(List Int)) (o3_:(List Int))
def Jce:St:=⟨(0,.ptr 0 0)::(1,.agg [.d (.str p1_0_),.osl 1 1 0 (o1_.length),.osl 2 1 0 (o2_.length)])::[],[some (.box [.d (.sl (b0_.Arcs.map (eL Az))),.d (.sl (b0_.Accepts.map eB))]),some (.cut 3 1 o1_),some (.arr 1 (o2_.map Ae)),some (.arr 1 (o3_.map Ae))]⟩
def Jcf:St:=⟨(4,.clo 53 [.ptr 4 0,.ptr 5 0])::[],[some (.box [.d (.sl (b0_.Arcs.map (eL Az))),.d (.sl (b0_.Accepts.map eB))]),some (.cut 3 1 o1_),some (.arr 1 (o2_.map Ae)),some (.arr 1 (o3_.map Ae)),some (.box [.d (.str p1_0_),.osl 1 1 0 (o1_.length),.osl 2 1 0 (o2_.length)]),some (.box [.ptr 0 0])]⟩
variable {p1_0_ b0_ o1_ o2_ o3_}
theorem Hb {z} (H:C4 n p1_0_ b0_ o1_ o2_ o3_=some z):BG Tryz.prog 29 [.ptr 0 0,.agg [.d (.str p1_0_),.osl 1 1 0 (o1_.length),.osl 2 1 0 (o2_.length)]] [some (.box [.d (.sl (b0_.Arcs.map (eL Az))),.d (.sl (b0_.Accepts.map eB))]),some (.cut 3 1 o1_),some (.arr 1 (o2_.map Ae)),some (.arr 1 (o3_.map Ae))] 4 (.clo 53 [.ptr 4 0,.ptr 5 0]) [some (.box [.d (.sl (b0_.Arcs.map (eL Az))),.d (.sl (b0_.Accepts.map eB))]),some (.cut 3 1 o1_),some (.arr 1 (o2_.map Ae)),some (.arr 1 (o3_.map Ae)),some (.box [.d (.str p1_0_),.osl 1 1 0 (o1_.length),.osl 2 1 0 (o2_.length)]),some (.box [.ptr 0 0])]:=by
 exact fL 6 4 (Jce p1_0_ b0_ o1_ o2_ o3_) Tryz.func29 (sr (ck 3 (en (sr (xm (xok _ _) (ck 1 (en (re (by cases H;exact pL (rl (s':=Jcf p1_0_ b0_ o1_ o2_ o3_) (sg [4])))))))))))
end
section
variable (p0_0_:(List UInt8)) (p1_:Int) (p2_:Int) (o0_:(List (Nat×Nat))) (o1_:(List Int)) (o2_:(List Int)) (x_12:Int)
def Jcg:St:=⟨(0,.agg [.d (.str p0_0_),.osl 0 1 0 (o0_.length),.osl 1 1 0 (o1_.length)])::(1,.d (.int .i64 p1_))::(2,.d (.int .i64 p2_))::[],[some (.cut 2 1 o0_),some (.arr 1 (o1_.map Ae)),some (.arr 1 (o2_.map Ae))]⟩
def W3:St:=⟨(6,.d (.int .i64 x_12))::[],[some (.cut 2 1 o0_),some (.arr 1 (o1_.map Ae)),some (.arr 1 (o2_.map Ae))]⟩
variable {p0_0_ p1_ p2_ o0_ o1_ o2_ x_12}
theorem SC {z} (H:Fx n p0_0_ p1_ p2_ o0_ o1_ o2_=some z):BG Tryz.prog 56 [.agg [.d (.str p0_0_),.osl 0 1 0 (o0_.length),.osl 1 1 0 (o1_.length)],.d (.int .i64 p1_),.d (.int .i64 p2_)] [some (.cut 2 1 o0_),some (.arr 1 (o1_.map Ae)),some (.arr 1 (o2_.map Ae))] 3 (.d (.int .i64 z)) [some (.cut 2 1 o0_),some (.arr 1 (o1_.map Ae)),some (.arr 1 (o2_.map Ae))]:=by
 refine fL 30 3 (Jcg p0_0_ p1_ p2_ o0_ o1_ o2_) Tryz.func56 (sr (ck 2 (en (sq (sq (rg (OW (xs:=o0_) 0 2 1 (by kernel_rfl)) (ck 3 (bx H λ x18 h65 H=>sp (AA 0 1 h65) (sp (PP (t:=ty 35) 0 2 1 h65) (ck 1 (bx H λ x19 h66 H=>sp (E9 2 1 x18.1 x18.2 (GB h66)) (sp (L6 Ae 2 0 (ty 3) (Fa h66)) (ck 1 (en (cn H (λ H=>?_) (λ H=>?_))))))))))))))))
 ·exact sq (rg (Ny (xs:=o0_) 0 2 1 (by kernel_rfl)) (ck 1 (en (re (qr (by cases H;exact pL (rl (s':=W3 o0_ o1_ o2_ (-1)) (sg [6]))))))))
 ·exact sk (qz (sq (rg (tr (Ny (xs:=o0_) 0 2 1 (by kernel_rfl)) (OW (xs:=o0_) 0 2 1 (by kernel_rfl))) (ck 3 (bx H λ x20 h67 H=>sp (AA 1 1 h67) (sp (CL Ae 1 0 (ty 3) h67) (ck 3 (bx H λ x21 h68 H=>sp (AA 0 1 h68) (sp (PP (t:=ty 35) 0 2 1 h68) (ck 1 (bx H λ x22 h69 H=>sp (E9 2 1 x21.1 x21.2 (GB h69)) (sp (L6 Ae 2 0 (ty 3) (Fa h69)) (ck 2 (en (re (by cases H;exact pL (rl (s':=W3 o0_ o1_ o2_ (Au .i64 x20 x22)) (tr (Ny (xs:=o0_) 0 2 1 (by kernel_rfl)) (sg [6])))))))))))))))))))
end
section
variable (p0_:Int) (p1_:Int) (p2_:Int) (b0_0_:(Nat×Nat)) (o1_:(List Int)) (x_13:(List Int)) (x_14:Bool)
def Jch:St:=⟨(0,.d (.int .i64 p0_))::(1,.d (.int .i64 p1_))::(2,.d (.int .i64 p2_))::(3,.ptr 0 0)::[],[some (.box [.osl 1 1 b0_0_.1 b0_0_.2]),some (.arr 1 (o1_.map Ae))]⟩
def W4:St:=⟨(7,.d (.bool x_14))::[],[some (.box [.osl 1 1 b0_0_.1 b0_0_.2]),some (.arr 1 (x_13.map Ae))]⟩
variable {p0_ p1_ p2_ b0_0_ o1_ x_13 x_14}
theorem EU {z} (H:Bs n p0_ p1_ p2_ b0_0_ o1_=some z):BG Tryz.prog 54 [.d (.int .i64 p0_),.d (.int .i64 p1_),.d (.int .i64 p2_),.ptr 0 0] [some (.box [.osl 1 1 b0_0_.1 b0_0_.2]),some (.arr 1 (o1_.map Ae))] 2 (.d (.bool z.2)) [some (.box [.osl 1 1 b0_0_.1 b0_0_.2]),some (.arr 1 (z.1.map Ae))]:=by
 refine fL 33 2 (Jch p0_ p1_ p2_ b0_0_ o1_) Tryz.func54 (sr (ck 1 (en (sq (sr (ck 5 (bx H λ x23 h70 H=>sE (λ hg=>E9 1 1 b0_0_.1 b0_0_.2 (GB (BA h70 hg))) (sE (g:=(!(decide (p1_<0)))) (λ hg=>L6 Ae 1 0 (ty 3) (Fa (BA h70 hg))) (gc 2 (!(decide (p1_<0))) (ck 2 (bx H λ x24 h71 H=>sE (λ hg=>E9 1 1 b0_0_.1 b0_0_.2 (GB (BA h71 hg))) (sE (g:=((!(decide (p1_<0)))&&(decide (x23>=0)))) (λ hg=>L6 Ae 1 0 (ty 3) (Fa (BA h71 hg))) (ck 2 (gc 2 ((!(decide (p1_<0)))&&(decide (x23>=0))) (pG (g:=(!(decide (p1_<0)))) (v:=.d (.bool ((decide (x23>=0))&&(decide (x24<=Au .i64 p1_ p2_))))) (λ hg=>Gz (c:=.gv (!(decide (p1_<0))) (.d (.bool (decide (x23>=0))))) (a:=.gv ((!(decide (p1_<0)))&&(decide (x23>=0))) (.d (.bool (decide (x24<=Au .i64 p1_ p2_))))) (b:=.d (.bool false)) rfl rfl rfl ((λ hh=>hh) hg) (λ ht=>by rw [(λ hh=>hh) hg,ht];rfl) trivial) (pO (en (cn H (λ H=>?_) (λ H=>?_)))))))))))))))))))
 ·exact sr (ck 1 (en (re (qr (by cases H;exact pL (rl (s':=W4 b0_0_ o1_ false) (sg [7])))))))
 ·exact sk (qz (sr (ck 5 (bx H λ x25 h72 H=>sp (E9 1 1 b0_0_.1 b0_0_.2 (GB h72)) (bx H λ l17 h73 H=>stP Ae 1 0 (b0_0_.1+Int.toNat p0_) (ty 3) (Fa h72) h73 (en (sr (ck 1 (en (re (by cases H;exact pL (rl (s':=W4 b0_0_ l17 true) (sg [7])))))))))))))
end
section
variable (p0_:(Nat×Nat)) (o0_:(List Int)) (x_15:(List Int)) (x_16:Int) (least_1:Int) (x_17:Int) (least_2:Int) (least_3:Int) (y12:Int) (column_1:(List Int)) (x_18:Int) (x_19:(List Int)) (column_2:(List Int))
def Jci:St:=⟨(0,.osl 0 1 p0_.1 p0_.2)::[],[some (.arr 1 (o0_.map Ae))]⟩
def Jcj:St:=⟨(2,.d (.int .i64 x_16))::[],[some (.arr 1 (x_15.map Ae))]⟩
def Jck:St:=⟨(0,.osl 0 1 p0_.1 p0_.2)::(3,.d (.int .i64 least_1))::(8,.osl 0 1 p0_.1 p0_.2)::(9,.d (.int .i64 ((p0_.2:Nat):Int)))::(10,.d (.int .i64 x_17))::[],[some (.arr 1 (o0_.map Ae))]⟩
def Jcl:St:=⟨(0,.osl 0 1 p0_.1 p0_.2)::(3,.d (.int .i64 least_2))::[],[some (.arr 1 (o0_.map Ae))]⟩
def Jcm:St:=⟨(0,.osl 0 1 p0_.1 p0_.2)::(3,.d (.int .i64 least_3))::(8,.osl 0 1 p0_.1 p0_.2)::(9,.d (.int .i64 ((p0_.2:Nat):Int)))::(10,.d (.int .i64 x_17))::[],[some (.arr 1 (o0_.map Ae))]⟩
def QX:Int->Ex->St->Prop:=xX 1 0 (λ (y:Int)=>Jcl p0_ o0_ y)
def K8:(Int×Int)->St:=(λ (x:(Int×Int))=>Jck p0_ o0_ x.1 x.2)
def Jcn:St:=⟨(0,.osl 0 1 p0_.1 p0_.2)::(3,.d (.int .i64 y12))::(27,.osl 0 1 p0_.1 p0_.2)::(28,.d (.int .i64 ((p0_.2:Nat):Int)))::(29,.d (.int .i64 x_18))::[],[some (.arr 1 (column_1.map Ae))]⟩
def Jco:St:=⟨(3,.d (.int .i64 y12))::[],[some (.arr 1 (x_19.map Ae))]⟩
def Jcp:St:=⟨(0,.osl 0 1 p0_.1 p0_.2)::(3,.d (.int .i64 y12))::(27,.osl 0 1 p0_.1 p0_.2)::(28,.d (.int .i64 ((p0_.2:Nat):Int)))::(29,.d (.int .i64 x_18))::[],[some (.arr 1 (column_2.map Ae))]⟩
def QY:(List Int)->Ex->St->Prop:=xX 1 2 (λ (y:(List Int))=>Jco y12 y)
def K9:((List Int)×Int)->St:=(λ (x:((List Int)×Int))=>Jcn p0_ y12 x.1 x.2)
variable {p0_ o0_ x_15 x_16 least_1 x_17 least_2 least_3 y12 column_1 x_18 x_19 column_2}
theorem P0 (x:(Int×Int)) (z:((Int×Int)⊕Int)) (H:CE n p0_ o0_ x.1 x.2=some z):WP (cxk 44 1) (Ax Tryz.f57) [1,1,0,1,0,0] (Av 1 (K8 p0_ o0_) (QX p0_ o0_) z) (K8 p0_ o0_ x):=by
 obtain ⟨least_1,x_17⟩:=x
 refine sr (ck 1 (en (sq (cn H (λ H=>?_) (λ H=>?_)))))
 ·refine sk (qz (sj (λ (x:Int)=>Jcm p0_ o0_ x_17 x) (λ (x:Int)=>C7 n x_17 x) z ?_ (λ hFRv_reduce_J1=>?_)))
  ·intro least_3 H
   exact rz (ck 2 (ae (by cases H;exact og (sg [0,3,8,9,10]))))
  refine bk 1 (sr (bx H λ x26 h74 H=>sp (E9 0 1 p0_.1 p0_.2 (GB h74)) (sp (L6 Ae 0 0 (ty 3) (Fa h74)) (ck 1 (en (sr (ck 4 (gc 2 (decide (x26>=0)) (ck 2 (gc 1 ((decide (x26>=0))&&!(decide (least_1<0))) (pG (g:=decide (x26>=0)) (v:=.d (.bool ((decide (least_1<0))||(decide (x26<least_1))))) (λ hg=>Gz (c:=.gv (decide (x26>=0)) (.d (.bool (decide (least_1<0))))) (a:=.d (.bool true)) (b:=.gv ((decide (x26>=0))&&!(decide (least_1<0))) (.d (.bool (decide (x26<least_1))))) rfl rfl rfl ((λ hh=>hh) hg) trivial (λ ht=>by rw [(λ hh=>hh) hg,ht];rfl)) (pA (en (cn H (λ H=>?_) (λ H=>?_)))))))))))))))
  ·exact rz (ck 2 (ae (qN (qs (sg [0,3,8,9,10]) (hFRv_reduce_J1 x26 H)))))
  ·exact sk (qN (qs (sg [0,3,8,9,10]) (hFRv_reduce_J1 least_1 H)))
 ·exact ex 0 (qx (by cases H;exact xo rfl (sg [0,3])))
theorem P1 (x:((List Int)×Int)) (z:(((List Int)×Int)⊕(List Int))) (H:CF n p0_ y12 x.1 x.2=some z):WP (cxk 44 1) (Ax Tryz.f57) [1,1,1,0,1,0,0] (Av 1 (K9 p0_ y12) (QY y12) z) (K9 p0_ y12 x):=by
 obtain ⟨column_1,x_18⟩:=x
 refine sr (ck 1 (en (sq (cn H (λ H=>?_) (λ H=>?_)))))
 ·refine sk (qz (sj (λ (x:(List Int))=>Jcp p0_ y12 x_18 x) (λ (x:(List Int))=>C8 n x_18 x) z ?_ (λ hFRv_reduce_J2=>?_)))
  ·intro column_2 H
   exact rz (ck 2 (ae (by cases H;exact og (sg [0,3,27,28,29]))))
  refine bk 3 (sr (ck 1 (bx H λ x27 h76 H=>sp (E9 0 1 p0_.1 p0_.2 (GB h76)) (sp (L6 Ae 0 0 (ty 3) (Fa h76)) (ck 2 (en (sr (ck 2 (en (cn H (λ H=>?_) (λ H=>?_)))))))))))
  ·exact rz (ck 5 (bx H λ x28 h77 H=>sp (E9 0 1 p0_.1 p0_.2 (GB h77)) (bx H λ l18 h78 H=>stP Ae 0 0 (p0_.1+Int.toNat x_18) (ty 3) (Fa h77) h78 (ae (qN (qs (sg [0,3,27,28,29]) (hFRv_reduce_J2 l18 H)))))))
  ·exact sk (qN (qs (sg [0,3,27,28,29]) (hFRv_reduce_J2 column_1 H)))
 ·exact ex 2 (qx (by cases H;exact xo rfl (sg [3])))
theorem Tw {z} (H:HY n p0_ o0_=some z):BG Tryz.prog 57 [.osl 0 1 p0_.1 p0_.2] [some (.arr 1 (o0_.map Ae))] 1 (.d (.int .i64 z.2)) [some (.arr 1 (z.1.map Ae))]:=by
 exact fL 44 1 (Jci p0_ o0_) Tryz.func57 (sr (ck 1 (en (sr (ck 1 (en (sq (sr (ck 3 (en (bk 0 (bx H λ y12 h75 H=>lX P0 h75 (sg [0,3,8,9,10]) rfl λ s hE11=>qH (qs (hE11) (sq (sr (ck 3 (en (bk 2 (bx H λ y13 h79 H=>lX P1 h79 (sg [0,3,27,28,29]) rfl λ s hE12=>qH (qs (hE12) (sr (ck 2 (en (re (by cases H;exact pL (rl (s':=Jcj y13 y12) (sg [2])))))))))))))))))))))))))))
end
section
variable (p0_:Int) (b0_0_:(List UInt8)) (b4_:AM) (o2_:(List (Nat×Nat))) (o3_:(List Int)) (o5_:(List Int)) (x_20:(List Int)) (x_21:Int) (x29:(Nat×Nat)) (column_3:(List Int)) (x_22:Int) (column_4:(List Int)) (column_5:(List Int)) (column_6:(List Int)) (x_23:Int) (column_7:(List Int)) (x33:(List N0)) (column_8:(List Int)) (x_24:Int) (column_9:(List Int)) (column_10:(List Int)) (column_11:(List Int)) (better_1:Bool) (column_12:(List Int)) (column_13:(List Int)) (better_2:Bool) (x_25:Int) (column_14:(List Int)) (better_3:Bool) (x35:(List N0)) (column_15:(List Int)) (better_4:Bool) (x_26:Int) (column_16:(List Int)) (better_5:Bool) (column_17:(List Int)) (better_6:Bool)
def Jcq:St:=⟨(0,.d (.int .i64 p0_))::(1,.ptr 0 0)::(2,.ptr 1 0)::[],[some (.box [.d (.str b0_0_),.osl 2 1 0 (o2_.length),.osl 3 1 0 (o3_.length)]),some (.box [.ptr 4 0]),some (.cut 5 1 o2_),some (.arr 1 (o3_.map Ae)),some (.box [.d (.sl (b4_.Arcs.map (eL Az))),.d (.sl (b4_.Accepts.map eB))]),some (.arr 1 (o5_.map Ae))]⟩
def Jcr:St:=⟨(4,.d (.int .i64 x_21))::[],[some (.box [.d (.str b0_0_),.osl 2 1 0 (o2_.length),.osl 3 1 0 (o3_.length)]),some (.box [.ptr 4 0]),some (.cut 5 1 o2_),some (.arr 1 (o3_.map Ae)),some (.box [.d (.sl (b4_.Arcs.map (eL Az))),.d (.sl (b4_.Accepts.map eB))]),some (.arr 1 (x_20.map Ae))]⟩
def Jcs:St:=⟨(0,.d (.int .i64 p0_))::(1,.ptr 0 0)::(2,.ptr 1 0)::(5,.ptr 6 0)::(23,.d (.int .i64 ((x29.2:Nat):Int)))::(24,.d (.int .i64 x_22))::[],[some (.box [.d (.str b0_0_),.osl 2 1 0 (o2_.length),.osl 3 1 0 (o3_.length)]),some (.box [.ptr 4 0]),some (.cut 5 1 o2_),some (.arr 1 (o3_.map Ae)),some (.box [.d (.sl (b4_.Arcs.map (eL Az))),.d (.sl (b4_.Accepts.map eB))]),some (.arr 1 (column_3.map Ae)),some (.box [.osl 5 1 x29.1 x29.2])]⟩
def Jct:St:=⟨(0,.d (.int .i64 p0_))::(1,.ptr 0 0)::(2,.ptr 1 0)::(5,.ptr 6 0)::[],[some (.box [.d (.str b0_0_),.osl 2 1 0 (o2_.length),.osl 3 1 0 (o3_.length)]),some (.box [.ptr 4 0]),some (.cut 5 1 o2_),some (.arr 1 (o3_.map Ae)),some (.box [.d (.sl (b4_.Arcs.map (eL Az))),.d (.sl (b4_.Accepts.map eB))]),some (.arr 1 (column_4.map Ae)),some (.box [.osl 5 1 x29.1 x29.2])]⟩
def Jcu:St:=⟨(0,.d (.int .i64 p0_))::(1,.ptr 0 0)::(2,.ptr 1 0)::(5,.ptr 6 0)::(23,.d (.int .i64 ((x29.2:Nat):Int)))::(24,.d (.int .i64 x_22))::[],[some (.box [.d (.str b0_0_),.osl 2 1 0 (o2_.length),.osl 3 1 0 (o3_.length)]),some (.box [.ptr 4 0]),some (.cut 5 1 o2_),some (.arr 1 (o3_.map Ae)),some (.box [.d (.sl (b4_.Arcs.map (eL Az))),.d (.sl (b4_.Accepts.map eB))]),some (.arr 1 (column_5.map Ae)),some (.box [.osl 5 1 x29.1 x29.2])]⟩
def Jf:(List Int)->Ex->St->Prop:=xX 6 0 (λ (y:(List Int))=>Jct p0_ b0_0_ b4_ o2_ o3_ x29 y)
def EV:((List Int)×Int)->St:=(λ (x:((List Int)×Int))=>Jcs p0_ b0_0_ b4_ o2_ o3_ x29 x.1 x.2)
def Jcv:St:=⟨(0,.d (.int .i64 p0_))::(1,.ptr 0 0)::(2,.ptr 1 0)::(5,.ptr 6 0)::(7,.clo 54 [.ptr 6 0])::(52,.d (.sl (b4_.Arcs.map (eL Az))))::(53,.d (.int .i64 ((b4_.Arcs.length:Nat):Int)))::(54,.d (.int .i64 x_23))::[],[some (.box [.d (.str b0_0_),.osl 2 1 0 (o2_.length),.osl 3 1 0 (o3_.length)]),some (.box [.ptr 4 0]),some (.cut 5 1 o2_),some (.arr 1 (o3_.map Ae)),some (.box [.d (.sl (b4_.Arcs.map (eL Az))),.d (.sl (b4_.Accepts.map eB))]),some (.arr 1 (column_6.map Ae)),some (.box [.osl 5 1 x29.1 x29.2])]⟩
def Jcw:St:=⟨(2,.ptr 1 0)::(5,.ptr 6 0)::(7,.clo 54 [.ptr 6 0])::[],[some (.box [.d (.str b0_0_),.osl 2 1 0 (o2_.length),.osl 3 1 0 (o3_.length)]),some (.box [.ptr 4 0]),some (.cut 5 1 o2_),some (.arr 1 (o3_.map Ae)),some (.box [.d (.sl (b4_.Arcs.map (eL Az))),.d (.sl (b4_.Accepts.map eB))]),some (.arr 1 (column_7.map Ae)),some (.box [.osl 5 1 x29.1 x29.2])]⟩
def Jcx:St:=⟨(0,.d (.int .i64 p0_))::(1,.ptr 0 0)::(2,.ptr 1 0)::(5,.ptr 6 0)::(7,.clo 54 [.ptr 6 0])::(8,.d (.int .i64 x_23))::(52,.d (.sl (b4_.Arcs.map (eL Az))))::(53,.d (.int .i64 ((b4_.Arcs.length:Nat):Int)))::(54,.d (.int .i64 x_23))::(59,.d (.sl (x33.map Az)))::(60,.d (.int .i64 ((x33.length:Nat):Int)))::(61,.d (.int .i64 x_24))::[],[some (.box [.d (.str b0_0_),.osl 2 1 0 (o2_.length),.osl 3 1 0 (o3_.length)]),some (.box [.ptr 4 0]),some (.cut 5 1 o2_),some (.arr 1 (o3_.map Ae)),some (.box [.d (.sl (b4_.Arcs.map (eL Az))),.d (.sl (b4_.Accepts.map eB))]),some (.arr 1 (column_8.map Ae)),some (.box [.osl 5 1 x29.1 x29.2])]⟩
def Jcy:St:=⟨(0,.d (.int .i64 p0_))::(1,.ptr 0 0)::(2,.ptr 1 0)::(5,.ptr 6 0)::(7,.clo 54 [.ptr 6 0])::(52,.d (.sl (b4_.Arcs.map (eL Az))))::(53,.d (.int .i64 ((b4_.Arcs.length:Nat):Int)))::(54,.d (.int .i64 x_23))::[],[some (.box [.d (.str b0_0_),.osl 2 1 0 (o2_.length),.osl 3 1 0 (o3_.length)]),some (.box [.ptr 4 0]),some (.cut 5 1 o2_),some (.arr 1 (o3_.map Ae)),some (.box [.d (.sl (b4_.Arcs.map (eL Az))),.d (.sl (b4_.Accepts.map eB))]),some (.arr 1 (column_9.map Ae)),some (.box [.osl 5 1 x29.1 x29.2])]⟩
def Z3:St:=⟨(0,.d (.int .i64 p0_))::(1,.ptr 0 0)::(2,.ptr 1 0)::(5,.ptr 6 0)::(7,.clo 54 [.ptr 6 0])::(8,.d (.int .i64 x_23))::(52,.d (.sl (b4_.Arcs.map (eL Az))))::(53,.d (.int .i64 ((b4_.Arcs.length:Nat):Int)))::(54,.d (.int .i64 x_23))::(59,.d (.sl (x33.map Az)))::(60,.d (.int .i64 ((x33.length:Nat):Int)))::(61,.d (.int .i64 x_24))::[],[some (.box [.d (.str b0_0_),.osl 2 1 0 (o2_.length),.osl 3 1 0 (o3_.length)]),some (.box [.ptr 4 0]),some (.cut 5 1 o2_),some (.arr 1 (o3_.map Ae)),some (.box [.d (.sl (b4_.Arcs.map (eL Az))),.d (.sl (b4_.Accepts.map eB))]),some (.arr 1 (column_10.map Ae)),some (.box [.osl 5 1 x29.1 x29.2])]⟩
def Jg:(List Int)->Ex->St->Prop:=xX 6 4 (λ (y:(List Int))=>Jcy p0_ b0_0_ b4_ o2_ o3_ x29 x_23 y)
def EW:((List Int)×Int)->St:=(λ (x:((List Int)×Int))=>Jcx p0_ b0_0_ b4_ o2_ o3_ x29 x_23 x33 x.1 x.2)
def Jh:(List Int)->Ex->St->Prop:=xX 6 2 (λ (y:(List Int))=>Jcw b0_0_ b4_ o2_ o3_ x29 y)
def EX:((List Int)×Int)->St:=(λ (x:((List Int)×Int))=>Jcv p0_ b0_0_ b4_ o2_ o3_ x29 x.1 x.2)
def Z4:St:=⟨(2,.ptr 1 0)::(5,.ptr 6 0)::(7,.clo 54 [.ptr 6 0])::(12,.d (.bool better_1))::[],[some (.box [.d (.str b0_0_),.osl 2 1 0 (o2_.length),.osl 3 1 0 (o3_.length)]),some (.box [.ptr 4 0]),some (.cut 5 1 o2_),some (.arr 1 (o3_.map Ae)),some (.box [.d (.sl (b4_.Arcs.map (eL Az))),.d (.sl (b4_.Accepts.map eB))]),some (.arr 1 (column_11.map Ae)),some (.box [.osl 5 1 x29.1 x29.2])]⟩
def Z5:St:=⟨(5,.ptr 6 0)::[],[some (.box [.d (.str b0_0_),.osl 2 1 0 (o2_.length),.osl 3 1 0 (o3_.length)]),some (.box [.ptr 4 0]),some (.cut 5 1 o2_),some (.arr 1 (o3_.map Ae)),some (.box [.d (.sl (b4_.Arcs.map (eL Az))),.d (.sl (b4_.Accepts.map eB))]),some (.arr 1 (column_12.map Ae)),some (.box [.osl 5 1 x29.1 x29.2])]⟩
def Z6:St:=⟨(2,.ptr 1 0)::(5,.ptr 6 0)::(7,.clo 54 [.ptr 6 0])::(12,.d (.bool better_2))::(97,.d (.sl (b4_.Arcs.map (eL Az))))::(98,.d (.int .i64 ((b4_.Arcs.length:Nat):Int)))::(99,.d (.int .i64 x_25))::[],[some (.box [.d (.str b0_0_),.osl 2 1 0 (o2_.length),.osl 3 1 0 (o3_.length)]),some (.box [.ptr 4 0]),some (.cut 5 1 o2_),some (.arr 1 (o3_.map Ae)),some (.box [.d (.sl (b4_.Arcs.map (eL Az))),.d (.sl (b4_.Accepts.map eB))]),some (.arr 1 (column_13.map Ae)),some (.box [.osl 5 1 x29.1 x29.2])]⟩
def Z7:St:=⟨(2,.ptr 1 0)::(5,.ptr 6 0)::(7,.clo 54 [.ptr 6 0])::(12,.d (.bool better_3))::[],[some (.box [.d (.str b0_0_),.osl 2 1 0 (o2_.length),.osl 3 1 0 (o3_.length)]),some (.box [.ptr 4 0]),some (.cut 5 1 o2_),some (.arr 1 (o3_.map Ae)),some (.box [.d (.sl (b4_.Arcs.map (eL Az))),.d (.sl (b4_.Accepts.map eB))]),some (.arr 1 (column_14.map Ae)),some (.box [.osl 5 1 x29.1 x29.2])]⟩
def Z8:St:=⟨(2,.ptr 1 0)::(5,.ptr 6 0)::(7,.clo 54 [.ptr 6 0])::(12,.d (.bool better_4))::(13,.d (.int .i64 x_25))::(97,.d (.sl (b4_.Arcs.map (eL Az))))::(98,.d (.int .i64 ((b4_.Arcs.length:Nat):Int)))::(99,.d (.int .i64 x_25))::(104,.d (.sl (x35.map Az)))::(105,.d (.int .i64 ((x35.length:Nat):Int)))::(106,.d (.int .i64 x_26))::[],[some (.box [.d (.str b0_0_),.osl 2 1 0 (o2_.length),.osl 3 1 0 (o3_.length)]),some (.box [.ptr 4 0]),some (.cut 5 1 o2_),some (.arr 1 (o3_.map Ae)),some (.box [.d (.sl (b4_.Arcs.map (eL Az))),.d (.sl (b4_.Accepts.map eB))]),some (.arr 1 (column_15.map Ae)),some (.box [.osl 5 1 x29.1 x29.2])]⟩
def Z9:St:=⟨(2,.ptr 1 0)::(5,.ptr 6 0)::(7,.clo 54 [.ptr 6 0])::(12,.d (.bool better_5))::(97,.d (.sl (b4_.Arcs.map (eL Az))))::(98,.d (.int .i64 ((b4_.Arcs.length:Nat):Int)))::(99,.d (.int .i64 x_25))::[],[some (.box [.d (.str b0_0_),.osl 2 1 0 (o2_.length),.osl 3 1 0 (o3_.length)]),some (.box [.ptr 4 0]),some (.cut 5 1 o2_),some (.arr 1 (o3_.map Ae)),some (.box [.d (.sl (b4_.Arcs.map (eL Az))),.d (.sl (b4_.Accepts.map eB))]),some (.arr 1 (column_16.map Ae)),some (.box [.osl 5 1 x29.1 x29.2])]⟩
def Jaa:St:=⟨(2,.ptr 1 0)::(5,.ptr 6 0)::(7,.clo 54 [.ptr 6 0])::(12,.d (.bool better_6))::(13,.d (.int .i64 x_25))::(97,.d (.sl (b4_.Arcs.map (eL Az))))::(98,.d (.int .i64 ((b4_.Arcs.length:Nat):Int)))::(99,.d (.int .i64 x_25))::(104,.d (.sl (x35.map Az)))::(105,.d (.int .i64 ((x35.length:Nat):Int)))::(106,.d (.int .i64 x_26))::[],[some (.box [.d (.str b0_0_),.osl 2 1 0 (o2_.length),.osl 3 1 0 (o3_.length)]),some (.box [.ptr 4 0]),some (.cut 5 1 o2_),some (.arr 1 (o3_.map Ae)),some (.box [.d (.sl (b4_.Arcs.map (eL Az))),.d (.sl (b4_.Accepts.map eB))]),some (.arr 1 (column_17.map Ae)),some (.box [.osl 5 1 x29.1 x29.2])]⟩
def Ji:((List Int)×Bool)->Ex->St->Prop:=xX 6 10 (λ (y:((List Int)×Bool))=>Z9 b0_0_ b4_ o2_ o3_ x29 x_25 y.1 y.2)
def EY:((List Int)×Bool×Int)->St:=(λ (x:((List Int)×Bool×Int))=>Z8 b0_0_ b4_ o2_ o3_ x29 x_25 x35 x.1 x.2.1 x.2.2)
def Jj:((List Int)×Bool)->Ex->St->Prop:=xX 6 8 (λ (y:((List Int)×Bool))=>Z7 b0_0_ b4_ o2_ o3_ x29 y.1 y.2)
def EZ:((List Int)×Bool×Int)->St:=(λ (x:((List Int)×Bool×Int))=>Z6 b0_0_ b4_ o2_ o3_ x29 x.1 x.2.1 x.2.2)
def Jk:(List Int)->Ex->St->Prop:=xX 6 6 (λ (y:(List Int))=>Z5 b0_0_ b4_ o2_ o3_ x29 y)
def E0:((List Int)×Bool)->St:=(λ (x:((List Int)×Bool))=>Z4 b0_0_ b4_ o2_ o3_ x29 x.1 x.2)
variable {p0_ b0_0_ b4_ o2_ o3_ o5_ x_20 x_21 x29 column_3 x_22 column_4 column_5 column_6 x_23 column_7 x33 column_8 x_24 column_9 column_10 column_11 better_1 column_12 column_13 better_2 x_25 column_14 better_3 x35 column_15 better_4 x_26 column_16 better_5 column_17 better_6}
theorem Ih (x:((List Int)×Int)) (z:(((List Int)×Int)⊕(List Int))) (H:Ba n p0_ b0_0_ b4_ o2_ o3_ x29 x.1 x.2=some z):WP (cxk 129 6) (Ax Tryz.f53) [1,1,0,1,0,0] (Av 6 (EV p0_ b0_0_ b4_ o2_ o3_ x29) (Jf p0_ b0_0_ b4_ o2_ o3_ x29) z) (EV p0_ b0_0_ b4_ o2_ o3_ x29 x):=by
 obtain ⟨column_3,x_22⟩:=x
 refine sr (ck 1 (en (sq (cn H (λ H=>?_) (λ H=>?_)))))
 ·refine sk (qz (sj (λ (x:(List Int))=>Jcu p0_ b0_0_ b4_ o2_ o3_ x29 x_22 x) (λ (x:(List Int))=>Bo n x_22 x) z ?_ (λ hFRv_graph_columns_1_J1=>?_)))
  ·intro column_5 H
   exact rz (ck 2 (ae (by cases H;exact og (sg [0,1,2,5,23,24]))))
  refine bk 1 (sr (ck 2 (en (sr (ck 2 (bx H λ x30 h81 H=>sp (E9 5 1 x29.1 x29.2 (GB h81)) (bx H λ l19 h82 H=>stP Ae 5 0 (x29.1+Int.toNat x_22) (ty 3) (Fa h81) h82 (en (sr (ck 7 (gc 3 (p0_==((b0_0_.length:Nat):Int)) (ck 1 (bx H λ x31 h83 H=>sE (λ hg=>Am eB (BA h83 hg)) (gc 1 (p0_==((b0_0_.length:Nat):Int)) (pA (en (cn H (λ H=>?_) (λ H=>?_))))))))))))))))))
  ·exact rz (ck 2 (bx H λ x32 h84 H=>sp (E9 5 1 x29.1 x29.2 (GB h84)) (bx H λ l20 h85 H=>stP Ae 5 0 (x29.1+Int.toNat x_22) (ty 3) (Fa h84) h85 (ae (qN (qs (sg [0,1,2,5,23,24]) (hFRv_graph_columns_1_J1 l20 H)))))))
  ·exact sk (qN (qs (sg [0,1,2,5,23,24]) (hFRv_graph_columns_1_J1 l19 H)))
 ·exact ex 0 (qx (by cases H;exact xo rfl (sg [0,1,2,5])))
theorem Ii (x:((List Int)×Int)) (z:(((List Int)×Int)⊕(List Int))) (H:Bb n p0_ b0_0_ b4_ o2_ o3_ x29 x_23 x33 x.1 x.2=some z):WP (cxk 129 6) (Ax Tryz.f53) [1,1,1,1,0,1,0,0,1,1,0,0,1,1,0,0] (Av 6 (EW p0_ b0_0_ b4_ o2_ o3_ x29 x_23 x33) (Jg p0_ b0_0_ b4_ o2_ o3_ x29 x_23) z) (EW p0_ b0_0_ b4_ o2_ o3_ x29 x_23 x33 x):=by
 obtain ⟨column_8,x_24⟩:=x
 refine sr (ck 1 (en (sq (cn H (λ H=>?_) (λ H=>?_)))))
 ·refine sk (qz (sj (λ (x:(List Int))=>Z3 p0_ b0_0_ b4_ o2_ o3_ x29 x_23 x33 x_24 x) (λ (x:(List Int))=>Bp n x_24 x) z ?_ (λ hFRv_graph_columns_1_J2=>?_)))
  ·intro column_10 H
   exact rz (ck 2 (ae (by cases H;exact og (sg [0,1,2,5,7,8,52,53,54,59,60,61]))))
  refine bk 5 (sr (bx H λ x34 h88 H=>sp (Am Az h88) (ck 3 (en (sr (ck 5 (gc 1 (!(x34.Print==[])) (ck 1 (bx H λ s2 h89 H=>sE (λ hg=>Hx (BA h89 hg)) (ck 1 (gc 1 (!(x34.Print==[])) (bx H λ r15 h90 H=>cG false (leZ) rfl (λ hg=>JO (BA h90 hg)) (Or.inl rfl) (BS (λ hh=>hh) (BS (λ hh=>hh) (D0))) rfl (pA (en (cn H (λ H=>?_) (λ H=>?_))))))))))))))))
  ·exact rx 10 (.refl _) (ck 10 (bx H λ r16 h91 H=>xs (xok _ _) (g:=true) rfl (D0) [2,3,5] (SC h91) rfl (ck 2 (mx 13 (bx H λ r17 h92 H=>xc (xok _ _) [6,5] (EU h92) (ax (qN (qs (sg [0,1,2,5,7,8,52,53,54,59,60,61]) (hFRv_graph_columns_1_J2 r17.1 H)))))))))
  ·exact sk (qN (qs (sg [0,1,2,5,7,8,52,53,54,59,60,61]) (hFRv_graph_columns_1_J2 column_8 H)))
 ·exact ex 4 (qx (by cases H;exact xo rfl (sg [0,1,2,5,7,52,53,54])))
theorem Ij (x:((List Int)×Int)) (z:(((List Int)×Int)⊕(List Int))) (H:Bc n p0_ b0_0_ b4_ o2_ o3_ x29 x.1 x.2=some z):WP (cxk 129 6) (Ax Tryz.f53) [1,1,1,1,0,1,0,0] (Av 6 (EX p0_ b0_0_ b4_ o2_ o3_ x29) (Jh b0_0_ b4_ o2_ o3_ x29) z) (EX p0_ b0_0_ b4_ o2_ o3_ x29 x):=by
 obtain ⟨column_6,x_23⟩:=x
 refine sr (ck 1 (en (sq (cn H (λ H=>?_) (λ H=>?_)))))
 ·exact sk (qz (sq (bk 3 (sr (ck 1 (bx H λ x33 h87 H=>sp (Am (eL Az) h87) (ck 3 (en (sr (ck 1 (sp (AC Az x33) (ck 1 (en (bk 4 (bx H λ y15 h93 H=>lX Ii h93 (sg [0,1,2,5,7,8,52,53,54,59,60,61]) rfl λ s hE14=>qH (qN (qs (hE14) (rz (ck 2 (ae (by cases H;exact og (sg [0,1,2,5,7,52,53,54]))))))))))))))))))))))
 ·exact ex 2 (qx (by cases H;exact xo rfl (sg [2,5,7])))
theorem Ik (x:((List Int)×Bool×Int)) (z:(((List Int)×Bool×Int)⊕((List Int)×Bool))) (H:Bd n b0_0_ b4_ o2_ o3_ x29 x_25 x35 x.1 x.2.1 x.2.2=some z):WP (cxk 129 6) (Ax Tryz.f53) [1,1,1,1,1,0,1,0,0,1,0,1,1,0,0,1,1,0,0,1,1,0,0] (Av 6 (EY b0_0_ b4_ o2_ o3_ x29 x_25 x35) (Ji b0_0_ b4_ o2_ o3_ x29 x_25) z) (EY b0_0_ b4_ o2_ o3_ x29 x_25 x35 x):=by
 obtain ⟨column_15,better_4,x_26⟩:=x
 refine sr (ck 1 (en (sq (cn H (λ H=>?_) (λ H=>?_)))))
 ·refine sk (qz (sj (λ (x:((List Int)×Bool))=>Jaa b0_0_ b4_ o2_ o3_ x29 x_25 x35 x_26 x.1 x.2) (λ (x:((List Int)×Bool))=>A6 n x_26 x.1 x.2) z ?_ (λ hFRv_graph_columns_1_J3=>?_)))
  ·rintro ⟨column_17,better_6⟩ H
   exact rz (ck 2 (ae (by cases H;exact og (sg [2,5,7,12,13,97,98,99,104,105,106]))))
  refine bk 11 (sr (bx H λ x36 h96 H=>sp (Am Az h96) (ck 3 (en (sq (rx 13 (.refl _) (ck 8 (gc 1 (x36.Print==[]) (bx H λ x37 h97 H=>sE (λ hg=>E9 5 1 x29.1 x29.2 (GB (BA h97 hg))) (sE (g:=(x36.Print==[])) (λ hg=>L6 Ae 5 0 (ty 3) (Fa (BA h97 hg))) (ck 1 (gc 1 (x36.Print==[]) (gsp (x36.Print==[]) H (λ hg H=>?_) (λ hg H=>?_))))))))))))))
  ·refine bx H λ r18 h98 H=>xs (xok _ _) hg (BS (λ hh=>hh) (BS (λ hh=>hh) (BS (λ hh=>hh) (BS (λ hh=>hh) (D0))))) [6,5] (EU h98) rfl (mx 14 (pA (ax (qz (cn H (λ H=>?_) (λ H=>?_))))))
   ·exact rz (ck 1 (ae (qN (qs (sg [2,5,7,12,13,97,98,99,104,105,106]) (hFRv_graph_columns_1_J3 (r18.1,true) H)))))
   ·exact sk (qN (qs (sg [2,5,7,12,13,97,98,99,104,105,106]) (hFRv_graph_columns_1_J3 (r18.1,better_4) H)))
  ·refine gsk hg (.d (.bool false)) (mx 14 (pA (ax (qz (cn H (λ H=>?_) (λ H=>?_))))))
   ·exact rz (ck 1 (ae (qN (qs (sg [2,5,7,12,13,97,98,99,104,105,106]) (hFRv_graph_columns_1_J3 (column_15,true) H)))))
   ·exact sk (qN (qs (sg [2,5,7,12,13,97,98,99,104,105,106]) (hFRv_graph_columns_1_J3 (column_15,better_4) H)))
 ·exact ex 10 (qx (by cases H;exact xo rfl (sg [2,5,7,12,97,98,99])))
theorem Il (x:((List Int)×Bool×Int)) (z:(((List Int)×Bool×Int)⊕((List Int)×Bool))) (H:Be n b0_0_ b4_ o2_ o3_ x29 x.1 x.2.1 x.2.2=some z):WP (cxk 129 6) (Ax Tryz.f53) [1,1,1,1,1,0,1,0,0,1,0,1,1,0,0] (Av 6 (EZ b0_0_ b4_ o2_ o3_ x29) (Jj b0_0_ b4_ o2_ o3_ x29) z) (EZ b0_0_ b4_ o2_ o3_ x29 x):=by
 obtain ⟨column_13,better_2,x_25⟩:=x
 refine sr (ck 1 (en (sq (cn H (λ H=>?_) (λ H=>?_)))))
 ·exact sk (qz (sq (bk 9 (sr (ck 1 (bx H λ x35 h95 H=>sp (Am (eL Az) h95) (ck 3 (en (sr (ck 1 (sp (AC Az x35) (ck 1 (en (bk 10 (bx H λ y17 h99 H=>lX Ik h99 (sg [2,5,7,12,13,97,98,99,104,105,106]) rfl λ s hE16=>qH (qN (qs (hE16) (rz (ck 2 (ae (by cases H;exact og (sg [2,5,7,12,97,98,99]))))))))))))))))))))))
 ·exact ex 8 (qx (by cases H;exact xo rfl (sg [2,5,7,12])))
theorem Im (x:((List Int)×Bool)) (z:(((List Int)×Bool)⊕(List Int))) (H:Bq n b0_0_ b4_ o2_ o3_ x29 x.1 x.2=some z):WP (cxk 129 6) (Ax Tryz.f53) [1,1,1,1,1,0,1,0,0] (Av 6 (E0 b0_0_ b4_ o2_ o3_ x29) (Jk b0_0_ b4_ o2_ o3_ x29) z) (E0 b0_0_ b4_ o2_ o3_ x29 x):=by
 obtain ⟨column_11,better_1⟩:=x
 refine sq (sr (ck 1 (en (cn H (λ H=>?_) (λ H=>?_)))))
 ·exact sk (qz (bk 7 (sr (ck 1 (en (sr (ck 4 (sp (AC (eL Az) b4_.Arcs) (ck 1 (en (bk 8 (bx H λ y18 h100 H=>lX Il h100 (sg [2,5,7,12,97,98,99]) rfl λ s hE17=>qH (qN (by cases H;exact og (tr (hE17) (sg [2,5,7,12]))))))))))))))))
 ·exact ex 6 (qx (by cases H;exact xo rfl (sg [5])))
theorem FY {z} (H:BI n p0_ b0_0_ b4_ o2_ o3_ o5_=some z):BG Tryz.prog 53 [.d (.int .i64 p0_),.ptr 0 0,.ptr 1 0] [some (.box [.d (.str b0_0_),.osl 2 1 0 (o2_.length),.osl 3 1 0 (o3_.length)]),some (.box [.ptr 4 0]),some (.cut 5 1 o2_),some (.arr 1 (o3_.map Ae)),some (.box [.d (.sl (b4_.Arcs.map (eL Az))),.d (.sl (b4_.Accepts.map eB))]),some (.arr 1 (o5_.map Ae))] 6 (.d (.int .i64 z.2)) [some (.box [.d (.str b0_0_),.osl 2 1 0 (o2_.length),.osl 3 1 0 (o3_.length)]),some (.box [.ptr 4 0]),some (.cut 5 1 o2_),some (.arr 1 (o3_.map Ae)),some (.box [.d (.sl (b4_.Arcs.map (eL Az))),.d (.sl (b4_.Accepts.map eB))]),some (.arr 1 (z.1.map Ae))]:=by
 exact fL 129 6 (Jcq p0_ b0_0_ b4_ o2_ o3_ o5_) Tryz.func53 (sr (ck 1 (en (sq (rg (OW (xs:=o2_) 2 5 1 (by kernel_rfl)) (ck 3 (bx H λ x29 h80 H=>sp (AA 2 1 h80) (sp (PP (t:=ty 35) 2 5 1 h80) (ck 2 (en (sq (sq (rg (Ny (xs:=o2_) 2 5 1 (by kernel_rfl)) (ck 3 (en (bk 0 (bx H λ y14 h86 H=>lX Ih h86 (sg [0,1,2,5,23,24]) rfl λ s hE13=>qH (qs (hE13) (sr (xm (xok _ _) (ck 1 (en (sq (sr (ck 4 (sp (AC (eL Az) b4_.Arcs) (ck 1 (en (bk 2 (bx H λ y16 h94 H=>lX Ij h94 (sg [0,1,2,5,7,52,53,54]) rfl λ s hE15=>qH (qs (hE15) (sq (sr (ck 1 (en (bk 6 (bx H λ y19 h101 H=>lX Im h101 (sg [2,5,7,12]) rfl λ s hE18=>qH (qs (hE18) (sr (ck 1 (bx H λ r19 h102 H=>lt [5] (Tw h102) (ck 1 (en (re (by cases H;exact pL (rl (s':=Jcr b0_0_ b4_ o2_ o3_ r19.1 r19.2) (sg [4])))))))))))))))))))))))))))))))))))))))))))))))
end
section
variable (p0_:Ad) (p1_:(List UInt8)) (r21:AM) (r22:((List (Nat×Nat))×(List Int)×(List Int))) (m_5:(List Int)) (x_27:(List Int)) (i_2:Int) (m_6:(List Int)) (x_28:(List Int))
def Jhs:St:=⟨(0,.agg [.d (.int .i64 p0_.Modes),.d (.int .u8 p0_.Accept),.d (.sl (p0_.Rules.map An))])::(1,.d (.str p1_))::[],[]⟩
def Jht:St:=⟨(4,.ptr 0 0)::(9,.ptr 1 0)::(10,.clo 53 [.ptr 2 0,.ptr 3 0])::(11,.d (.int .i64 i_2))::[],[some (.box [.d (.str []),.osl 4 1 0 (List.length ([]:List (List Int))),.osl 5 1 0 (List.length ([]:List Int))]),some (.box [.d (.str p1_),.osl 6 1 0 (r22.1.length),.osl 7 1 0 (m_5.length)]),some (.box [.d (.str p1_),.osl 6 1 0 (r22.1.length),.osl 7 1 0 (m_5.length)]),some (.box [.ptr 8 0]),some (.arr 1 (List.map (eL Ae) ([]:List (List Int)))),some (.arr 1 (List.map Ae ([]:List Int))),some (.cut 9 1 r22.1),some (.arr 1 (m_5.map Ae)),some (.box [.d (.sl (r21.Arcs.map (eL Az))),.d (.sl (r21.Accepts.map eB))]),some (.arr 1 (x_27.map Ae))]⟩
def Jhu:St:=⟨(4,.ptr 0 0)::(9,.ptr 1 0)::[],[some (.box [.d (.str []),.osl 2 1 0 (List.length ([]:List (List Int))),.osl 3 1 0 (List.length ([]:List Int))]),some (.box [.d (.str p1_),.osl 4 1 0 (r22.1.length),.osl 5 1 0 (m_6.length)]),some (.arr 1 (List.map (eL Ae) ([]:List (List Int)))),some (.arr 1 (List.map Ae ([]:List Int))),some (.cut 6 1 r22.1),some (.arr 1 (m_6.map Ae)),some (.arr 1 (x_28.map Ae))]⟩
def SD:((List Int)×(List Int))->Ex->St->Prop:=xX 0 0 (λ (y:((List Int)×(List Int)))=>Jhu p1_ r22 y.1 y.2)
def Md:((List Int)×(List Int)×Int)->St:=(λ (x:((List Int)×(List Int)×Int))=>Jht p1_ r21 r22 x.1 x.2.1 x.2.2)
variable {p0_ p1_ r21 r22 m_5 x_27 i_2 m_6 x_28}
theorem QZ (x:((List Int)×(List Int)×Int)) (z:(((List Int)×(List Int)×Int)⊕((List Int)×(List Int)))) (H:Hz n p1_ r21 r22 x.1 x.2.1 x.2.2=some z):WP (cxk 43 0) (Ax Tryz.f14) [1,1,1,1,1,0,1,0,0] (Av 0 (Md p1_ r21 r22) (SD p1_ r22) z) (Md p1_ r21 r22 x):=by
 obtain ⟨m_5,x_27,i_2⟩:=x
 refine sq (sr (ck 2 (en (cn H (λ H=>?_) (λ H=>?_)))))
 ·exact sk (qz (sq (bk 1 (rx 5 (.refl _) (ck 5 (bx H λ r24 h107 H=>xs (xok _ _) (g:=true) rfl (D0) [2,3,6,7,8,9] (FY h107) rfl (bx H λ x38 h108 H=>sp (AA 7 1 h108) (mx 7 (bx H λ l21 h109 H=>stA Ae 7 0 (ty 3) h108 h109 (ax (qN (qz (rg (tr (tr (sn 36 7 1 (Bh h109)) (snc 1 2 7 1 (Bh h109))) (snc 2 2 7 1 (Bh h109))) (ck 3 (ae (by cases H;exact og (sg [4,9,10,11])))))))))))))))))
 ·exact ex 0 (qx (by cases H;exact xo rfl (sg [4,9])))
theorem Ks {z} (H:HP n p0_ p1_=some z):AD Tryz.prog 14 [.agg (AK p0_),.d (.str p1_)] (.tup [.agg [.d (.str z.1.Text),.d (.sl (z.1.Costs.map (eL Ae))),.own 1 (z.1.Least.map Ae)],.d (.int .i64 z.2)]):=by
 refine fO 43 (Jhs p0_ p1_) Tryz.func14 (sr (ck 3 (en (sq (sr (ck 1 (bx H λ r20 h103 H=>ca true (IM h103) (ck 5 (en (sr (ck 2 (en (cn H (λ H=>?_) (λ H=>?_))))))))))))))
 ·exact sr (ck 4 (en (re (qr (by cases H;exact pr (rT (vs:=[.agg [.d (.str []),.d (.nil),.d (.nil)],.d (.int .i64 r20.2)]) [] (t1 (a1 (c1 vd (c1 vn (c1 vz (c0))))) (t1 (ad vd) (t0)))))))))
 ·exact sk (qz (sr (ck 1 (bx H λ r21 h104 H=>lt [] (K7 h104) (tb (f:=Dy (Cu [] 2 0)) [some (.box (AK p0_)),some (.box [.d (.str []),.d (.nil),.d (.nil)]),some (.box [.osl 3 1 0 (r21.Arcs.length),.osl 4 1 0 (r21.Accepts.length)]),some (.narr 1 (r21.Arcs.map (nL 3 Az))),some (.arr 1 (r21.Accepts.map eB))] (po1 (po1 (po1 (pn1 (nL 3 Az) r21.Arcs (po1 (Pl.z)))))) (ck 1 (en (sq (rg (tr (OS (encN:=(nL 3 Az)) (encD:=(eL Az)) (xss:=r21.Arcs) (sz:=1) 2 0 3 (by kernel_rfl) (by kernel_rfl) (λ _=>rfl) (λ _=>rfl)) (fzc (enc:=eB) (xs:=r21.Accepts) 2 1 4 1)) (ck 2 (bx H λ r22 h105 H=>lt [2] (Ho h105) (ck 2 (en (sr (ck 2 (bx H λ r23 h106 H=>lt [2,6,7,8] (Hb h106) (ck 1 (en (sq (sr (ck 3 (en (bk 0 (bx H λ y20 h110 H=>lX QZ h110 (tr (tr (BN 1 1 1 (by kernel_rfl)) (BN 1 2 1 (by kernel_rfl))) (sg [4,9,10,11])) rfl λ s hE19=>qH (qs (hE19) (sr (ck 3 (ae (bx H λ _ h111 H=>qs (tr (tr (OW (xs:=r22.1) 4 6 1 (by kernel_rfl)) (WX (enc:=Ae) (ys:=y20.2) (xs:=r22.1) 6 4 1 h111 (by kernel_rfl) (by kernel_rfl))) (Uq (sz:=1) (encN:=Je5 Ae) (encD:=(eL Ae)) (xss:=PO y20.2 r22.1) 0 1 4 WZ (by kernel_rfl) (by kernel_rfl) (λ _=>rfl) (λ _=>rfl))) (re (by cases H;exact pr (rT (vs:=[.agg [.d (.str p1_),.d (.sl (List.map (eL Ae) (PO y20.2 r22.1))),.osl 5 1 0 (y20.1.length)],.d (.int .i64 0)]) [5] (t1 (a1 (c1 vd (c1 vd (c1 vo (c0))))) (t1 (ad vd) (t0)))))))))))))))))))))))))))))))))))
end
section
variable (p1_:A0) (b0_:AM) (x_31:Bool) (x_32:Int)
def Jcz:St:=⟨(0,.ptr 0 0)::(1,.agg [.d (.str p1_.Text),.d (.sl (p1_.Costs.map (eL Ae))),.d (.sl (p1_.Least.map Ae))])::[],[some (.box [.osl 1 1 0 (b0_.Arcs.length),.osl 2 1 0 (b0_.Accepts.length)]),some (.narr 1 (b0_.Arcs.map (nL 3 Az))),some (.arr 1 (b0_.Accepts.map eB))]⟩
def SE:St:=⟨(4,.d (.bool x_31))::[],[some (.box [.osl 1 1 0 (b0_.Arcs.length),.osl 2 1 0 (b0_.Accepts.length)]),some (.narr 1 (b0_.Arcs.map (nL 3 Az))),some (.arr 1 (b0_.Accepts.map eB))]⟩
def JcA:St:=⟨(0,.ptr 0 0)::(26,.d (.sl (p1_.Costs.map (eL Ae))))::(27,.d (.int .i64 ((p1_.Costs.length:Nat):Int)))::(28,.d (.int .i64 x_32))::[],[some (.box [.osl 1 1 0 (b0_.Arcs.length),.osl 2 1 0 (b0_.Accepts.length)]),some (.narr 1 (b0_.Arcs.map (nL 3 Az))),some (.arr 1 (b0_.Accepts.map eB))]⟩
def JcB:St:=⟨[],[some (.box [.osl 1 1 0 (b0_.Arcs.length),.osl 2 1 0 (b0_.Accepts.length)]),some (.narr 1 (b0_.Arcs.map (nL 3 Az))),some (.arr 1 (b0_.Accepts.map eB))]⟩
def Ng:(Unit⊕Bool)->Ex->St->Prop:=xS (xX 3 0 (λ (_:Unit)=>JcB b0_)) (xL 3 ty Tryz.f27 (λ (y:Bool)=>.d (.bool y)) (λ (_:Bool)=>[some (.box [.osl 1 1 0 (b0_.Arcs.length),.osl 2 1 0 (b0_.Accepts.length)]),some (.narr 1 (b0_.Arcs.map (nL 3 Az))),some (.arr 1 (b0_.Accepts.map eB))]))
def Hp:Int->St:=(λ (x:Int)=>JcA p1_ b0_ x)
variable {p1_ b0_ x_31 x_32}
theorem Hc (x:Int) (z:(Int⊕(Unit⊕Bool))) (H:BY n p1_ b0_ x=some z):WP (cxk 41 3) (Ax Tryz.f27) [1,1,0,1,0,0] (Av 3 (Hp p1_ b0_) (Ng b0_) z) (Hp p1_ b0_ x):=by
 revert H
 generalize x=x_32
 intro H
 refine sr (ck 1 (en (sq (cn H (λ H=>?_) (λ H=>?_)))))
 ·refine sk (qz (sq (bk 1 (sr (bx H λ x48 h125 H=>sp (Am (eL Ae) h125) (ck 2 (en (sr (ck 1 (sp (AC Ae x48) (ck 6 (en (cn H (λ H=>?_) (λ H=>?_))))))))))))))
  ·exact sr (ck 1 (en (re (qR (qr (by cases H;exact lo rfl (rl (s':=SE b0_ false) (gP [4] [0,1,2] (po1 (pn1 (nL 3 Az) b0_.Arcs (po1 (Pl.z))))))))))))
  ·exact sk (qN (qz (rz (ck 2 (ae (by cases H;exact og (gP [0,26,27,28] [0,1,2] (po1 (pn1 (nL 3 Az) b0_.Arcs (po1 (Pl.z)))))))))))
 ·exact ex 0 (qx (by cases H;exact xo rfl (gP [] [0,1,2] (po1 (pn1 (nL 3 Az) b0_.Arcs (po1 (Pl.z)))))))
theorem Pa {z} (H:Dr n p1_ b0_=some z):BG Tryz.prog 27 [.ptr 0 0,.agg (CS p1_)] [some (.box [.osl 1 1 0 (b0_.Arcs.length),.osl 2 1 0 (b0_.Accepts.length)]),some (.narr 1 (b0_.Arcs.map (nL 3 Az))),some (.arr 1 (b0_.Accepts.map eB))] 3 (.d (.bool z)) [some (.box [.osl 1 1 0 (b0_.Arcs.length),.osl 2 1 0 (b0_.Accepts.length)]),some (.narr 1 (b0_.Arcs.map (nL 3 Az))),some (.arr 1 (b0_.Accepts.map eB))]:=by
 refine fL 41 3 (Jcz p1_ b0_) Tryz.func27 (sr (ck 2 (en (sq (sr (ck 2 (sp (AC (eL Ae) p1_.Costs) (ck 7 (gc 1 (!(((p1_.Costs.length:Nat):Int) != (Au .i64 ((p1_.Text.length:Nat):Int) 1))) (sE (g:=(!(((p1_.Costs.length:Nat):Int) != (Au .i64 ((p1_.Text.length:Nat):Int) 1)))) (λ hg=>AC Ae p1_.Least) (ck 1 (gc 4 (!(((p1_.Costs.length:Nat):Int) != (Au .i64 ((p1_.Text.length:Nat):Int) 1))) (pO (en (cn H (λ H=>?_) (λ H=>?_))))))))))))))))
 ·exact sr (ck 1 (en (re (qr (by cases H;exact pL (rl (s':=SE b0_ false) (gP [4] [0,1,2] (po1 (pn1 (nL 3 Az) b0_.Arcs (po1 (Pl.z)))))))))))
 ·refine sk (qz (sq (sr (ck 2 (sp (AC (eL Ae) p1_.Costs) (ck 1 (en (bk 0 (bx H λ y30 h126 H=>?_)))))))))
  rcases y30 with y31|y32
  ·exact lX Hc h126 (gP [0,26,27,28] [0,1,2] (po1 (pn1 (nL 3 Az) b0_.Arcs (po1 (Pl.z))))) rfl λ s hE26=>qH (qs (hE26) (sr (ck 1 (en (re (by cases H;exact pL (rl (s':=SE b0_ true) (gP [4] [0,1,2] (po1 (pn1 (nL 3 Az) b0_.Arcs (po1 (Pl.z))))))))))))
  ·exact lL Hc h126 (gP [0,26,27,28] [0,1,2] (po1 (pn1 (nL 3 Az) b0_.Arcs (po1 (Pl.z))))) rfl λ s hE27=>qR (qr (by cases H;exact pL hE27))
end
section
variable (p0_:(List Int)) (p1_:(Nat×Nat)) (o0_:(List Int)) (x_33:Bool) (x_34:Int)
def JcC:St:=⟨(0,.d (.sl (p0_.map Ae)))::(1,.osl 0 1 p1_.1 p1_.2)::[],[some (.arr 1 (o0_.map Ae))]⟩
def SF:St:=⟨(4,.d (.bool x_33))::[],[some (.arr 1 (o0_.map Ae))]⟩
def JcD:St:=⟨(0,.d (.sl (p0_.map Ae)))::(1,.osl 0 1 p1_.1 p1_.2)::(12,.d (.int .i64 ((p0_.length:Nat):Int)))::(13,.d (.int .i64 x_34))::[],[some (.arr 1 (o0_.map Ae))]⟩
def JcE:St:=⟨[],[some (.arr 1 (o0_.map Ae))]⟩
def JP:(Unit⊕Bool)->Ex->St->Prop:=xS (xX 1 0 (λ (_:Unit)=>JcE o0_)) (xL 1 ty Tryz.f58 (λ (y:Bool)=>.d (.bool y)) (λ (_:Bool)=>[some (.arr 1 (o0_.map Ae))]))
def FI:Int->St:=(λ (x:Int)=>JcD p0_ p1_ o0_ x)
variable {p0_ p1_ o0_ x_33 x_34}
theorem E1 (x:Int) (z:(Int⊕(Unit⊕Bool))) (H:Bt n p0_ p1_ o0_ x=some z):WP (cxk 26 1) (Ax Tryz.f58) [1,1,0,1,0,0] (Av 1 (FI p0_ p1_ o0_) (JP o0_) z) (FI p0_ p1_ o0_ x):=by
 revert H
 generalize x=x_34
 intro H
 refine sr (ck 1 (en (sq (cn H (λ H=>?_) (λ H=>?_)))))
 ·refine sk (qz (sq (bk 1 (sr (ck 2 (en (sr (ck 2 (bx H λ x49 h127 H=>sp (Am Ae h127) (ck 3 (bx H λ x50 h128 H=>sp (E9 0 1 p1_.1 p1_.2 (GB h128)) (sp (L6 Ae 0 0 (ty 3) (Fa h128)) (ck 1 (en (cn H (λ H=>?_) (λ H=>?_))))))))))))))))
  ·exact sr (ck 1 (en (re (qR (qr (by cases H;exact lo rfl (rl (s':=SF o0_ false) (sg [4]))))))))
  ·exact sk (qN (qz (rz (ck 2 (ae (by cases H;exact og (sg [0,1,12,13])))))))
 ·exact ex 0 (qx (by cases H;exact xo rfl (sg [])))
theorem Lv {z} (H:B9 n p0_ p1_ o0_=some z):BG Tryz.prog 58 [.d (.sl (p0_.map Ae)),.osl 0 1 p1_.1 p1_.2] [some (.arr 1 (o0_.map Ae))] 1 (.d (.bool z)) [some (.arr 1 (o0_.map Ae))]:=by
 refine fL 26 1 (JcC p0_ p1_ o0_) Tryz.func58 (sr (ck 1 (en (sq (sr (ck 1 (sp (AC Ae p0_) (ck 3 (en (cn H (λ H=>?_) (λ H=>?_)))))))))))
 ·exact sr (ck 1 (en (re (qr (by cases H;exact pL (rl (s':=SF o0_ false) (sg [4])))))))
 ·refine sk (qz (sq (sr (ck 1 (sp (AC Ae p0_) (ck 1 (en (bk 0 (bx H λ y33 h129 H=>?_)))))))))
  rcases y33 with y34|y35
  ·exact lX E1 h129 (sg [0,1,12,13]) rfl λ s hE28=>qH (qs (hE28) (sr (ck 1 (en (re (by cases H;exact pL (rl (s':=SF o0_ true) (sg [4]))))))))
  ·exact lL E1 h129 (sg [0,1,12,13]) rfl λ s hE29=>qR (qr (by cases H;exact pL hE29))
end
section
variable (p0_:A0) (p1_0_:(List UInt8)) (p2_:Int) (o0_:(List (Nat×Nat))) (o1_:(List Int)) (o2_:(List Int)) (x_35:Int) (x_36:Bool) (shift_4:Int) (known_3:Bool) (j_2:Int) (shift_5:Int) (shift_6:Int) (known_4:Bool)
def JcF:St:=⟨(0,.agg [.d (.str p0_.Text),.d (.sl (p0_.Costs.map (eL Ae))),.d (.sl (p0_.Least.map Ae))])::(1,.agg [.d (.str p1_0_),.osl 0 1 0 (o0_.length),.osl 1 1 0 (o1_.length)])::(2,.d (.int .i64 p2_))::[],[some (.cut 2 1 o0_),some (.arr 1 (o1_.map Ae)),some (.arr 1 (o2_.map Ae))]⟩
def SG:St:=⟨(6,.d (.int .i64 x_35))::(7,.d (.bool x_36))::[],[some (.cut 2 1 o0_),some (.arr 1 (o1_.map Ae)),some (.arr 1 (o2_.map Ae))]⟩
def JcG:St:=⟨(2,.d (.int .i64 p2_))::(3,.ptr 3 0)::(4,.ptr 4 0)::(8,.d (.int .i64 shift_4))::(9,.d (.bool known_3))::(10,.d (.int .i64 j_2))::[],[some (.cut 2 1 o0_),some (.arr 1 (o1_.map Ae)),some (.arr 1 (o2_.map Ae)),some (.box (CS p0_)),some (.box [.d (.str p1_0_),.osl 0 1 0 (o0_.length),.osl 1 1 0 (o1_.length)])]⟩
def JcH:St:=⟨(8,.d (.int .i64 shift_5))::[],[some (.cut 2 1 o0_),some (.arr 1 (o1_.map Ae)),some (.arr 1 (o2_.map Ae))]⟩
def JcI:St:=⟨(2,.d (.int .i64 p2_))::(3,.ptr 3 0)::(4,.ptr 4 0)::(8,.d (.int .i64 shift_6))::(9,.d (.bool known_4))::(10,.d (.int .i64 j_2))::[],[some (.cut 2 1 o0_),some (.arr 1 (o1_.map Ae)),some (.arr 1 (o2_.map Ae)),some (.box (CS p0_)),some (.box [.d (.str p1_0_),.osl 0 1 0 (o0_.length),.osl 1 1 0 (o1_.length)])]⟩
def Pb:(Int⊕(Int×Bool))->Ex->St->Prop:=xS (xX 3 0 (λ (y:Int)=>JcH o0_ o1_ o2_ y)) (xL 3 ty Tryz.f30 (λ (y:(Int×Bool))=>.tup [.d (.int .i64 y.1),.d (.bool y.2)]) (λ (_:(Int×Bool))=>[some (.cut 2 1 o0_),some (.arr 1 (o1_.map Ae)),some (.arr 1 (o2_.map Ae))]))
def IR:(Int×Bool×Int)->St:=(λ (x:(Int×Bool×Int))=>JcG p0_ p1_0_ p2_ o0_ o1_ o2_ x.1 x.2.1 x.2.2)
variable {p0_ p1_0_ p2_ o0_ o1_ o2_ x_35 x_36 shift_4 known_3 j_2 shift_5 shift_6 known_4}
theorem H3 (x:(Int×Bool×Int)) (z:((Int×Bool×Int)⊕(Int⊕(Int×Bool)))) (H:Cs n p0_ p1_0_ p2_ o0_ o1_ o2_ x.1 x.2.1 x.2.2=some z):WP (cxk 64 3) (Ax Tryz.f30) [1,1,0,1,0,0] (Av 3 (IR p0_ p1_0_ p2_ o0_ o1_ o2_) (Pb o0_ o1_ o2_) z) (IR p0_ p1_0_ p2_ o0_ o1_ o2_ x):=by
 obtain ⟨shift_4,known_3,j_2⟩:=x
 refine sq (sr (ck 4 (en (cn H (λ H=>?_) (λ H=>?_)))))
 ·refine sk (qz (sj (λ (x:(Int×Bool))=>JcI p0_ p1_0_ p2_ o0_ o1_ o2_ j_2 x.1 x.2) (λ (x:(Int×Bool))=>Cr n j_2 x.1 x.2) z ?_ (λ hFRv_settledx_J1=>?_)))
  ·rintro ⟨shift_6,known_4⟩ H
   exact rz (ck 3 (ae (by cases H;exact og (sg [2,3,4,8,9,10]))))
  refine bk 1 (sq (sq (rx 10 (OW (xs:=o0_) 0 2 1 (by kernel_rfl)) (ck 3 (bx H λ x51 h130 H=>sp (Am (eL Ae) h130) (ck 4 (bx H λ x52 h131 H=>sp (AA 0 1 h131) (sp (PP (t:=ty 35) 0 2 1 h131) (bx H λ r26 h132 H=>xs (xok _ _) (g:=true) rfl (D0) [2] (Lv h132) rfl (mx 11 (ck 1 (ax (qz (cn H (λ H=>?_) (λ H=>?_)))))))))))))))
  ·exact sq (rg (Ny (xs:=o0_) 0 2 1 (by kernel_rfl)) (ck 2 (en (re (qr (qR (qr (by cases H;exact lo rfl (rl (s':=SG o0_ o1_ o2_ 0 false) (sg [6,7]))))))))))
  ·refine sk (qz (sq (sq (rg (Ny (xs:=o0_) 0 2 1 (by kernel_rfl)) (ck 3 (bx H λ x53 h133 H=>sp (Am Ae h133) (ck 4 (gc 1 (!(decide (x53<0))) (ck 1 (bx H λ x54 h134 H=>sE (λ hg=>AA 1 1 (BA h134 hg)) (sE (g:=(!(decide (x53<0)))) (λ hg=>CL Ae 1 0 (ty 3) (BA h134 hg)) (gc 1 (!(decide (x53<0))) (pO (en (cn H (λ H=>?_) (λ H=>?_))))))))))))))))
   ·exact ex 1 (qx (qH (qs (sg [2,3,4,8,9,10]) (hFRv_settledx_J1 (shift_4,known_3) H))))
   ·refine sk (qz (sr (ck 3 (bx H λ x55 h135 H=>sp (AA 1 1 h135) (sp (CL Ae 1 0 (ty 3) h135) (ck 3 (bx H λ x56 h136 H=>sp (Am Ae h136) (ck 3 (en (sq (sr (ck 4 (gc 1 known_3 (pA (en (cn H (λ H=>?_) (λ H=>?_)))))))))))))))))
    ·exact sr (ck 2 (en (re (qr (qR (qr (by cases H;exact lo rfl (rl (s':=SG o0_ o1_ o2_ 0 false) (sg [6,7])))))))))
    ·exact sk (qz (rz (ck 3 (ae (qN (qs (sg [2,3,4,8,9,10]) (hFRv_settledx_J1 ((CI .i64 x55 x56),true) H)))))))
 ·exact ex 0 (qx (by cases H;exact xo rfl (sg [8])))
theorem Q0 {z} (H:Et n p0_ p1_0_ p2_ o0_ o1_ o2_=some z):BG Tryz.prog 30 [.agg (CS p0_),.agg [.d (.str p1_0_),.osl 0 1 0 (o0_.length),.osl 1 1 0 (o1_.length)],.d (.int .i64 p2_)] [some (.cut 2 1 o0_),some (.arr 1 (o1_.map Ae)),some (.arr 1 (o2_.map Ae))] 3 (.tup [.d (.int .i64 z.1),.d (.bool z.2)]) [some (.cut 2 1 o0_),some (.arr 1 (o1_.map Ae)),some (.arr 1 (o2_.map Ae))]:=by
 refine fL 64 3 (JcF p0_ p1_0_ p2_ o0_ o1_ o2_) Tryz.func30 (sr (ck 4 (en (sr (ck 2 (en (sq (sr (ck 2 (en (bk 0 (bx H λ y36 h137 H=>?_))))))))))))
 rcases y36 with y37|y38
 ·exact lX H3 h137 (sg [2,3,4,8,9,10]) rfl λ s hE30=>qH (qs (hE30) (sr (ck 3 (en (re (by cases H;exact pL (rl (s':=SG o0_ o1_ o2_ y37 true) (sg [6,7]))))))))
 ·exact lL H3 h137 (sg [2,3,4,8,9,10]) rfl λ s hE31=>qR (qr (by cases H;exact pL hE31))
end
section
variable (p0_:Ad) (p1_:A0) (p2_:BD) (s6:(List UInt8)) (r28:AM) (r30:((List (Nat×Nat))×(List Int)×(List Int))) (result_1:(List Int)) (x_37:(List Int)) (i_3:Int) (result_2:(List Int)) (x_38:(List Int)) (result_3:(List Int)) (x_39:(List Int)) (count_1:Int) (i_4:Int) (result_4:(List Int)) (x_40:(List Int)) (count_2:Int) (rest_1:Int) (shift_7:Int) (result_5:(List Int)) (x_41:(List Int)) (y40:((List Int)×(List Int)×Int×Int×Int)) (result_6:(List Int)) (x_42:(List Int)) (x_43:Int) (result_7:(List Int)) (x_44:(List Int)) (result_8:(List Int)) (x_45:(List Int))
def Jhv:St:=⟨(0,.agg [.d (.int .i64 p0_.Modes),.d (.int .u8 p0_.Accept),.d (.sl (p0_.Rules.map An))])::(1,.agg [.d (.str p1_.Text),.d (.sl (p1_.Costs.map (eL Ae))),.d (.sl (p1_.Least.map Ae))])::(2,.agg [.d (.int .i64 p2_.At),.d (.int .i64 p2_.Cut),.d (.str p2_.Put)])::[],[]⟩
def Jhw:St:=⟨(4,.ptr 0 0)::(5,.ptr 1 0)::(6,.ptr 2 0)::(10,.d (.str s6))::(13,.ptr 3 0)::(14,.ptr 4 0)::(15,.d (.int .i64 (Au .i64 p2_.At ((p2_.Put.length:Nat):Int))))::(16,.d (.int .i64 i_3))::[],[some (.box (CS p1_)),some (.box (EC p2_)),some (.box [.d (.str []),.osl 5 1 0 (List.length ([]:List (List Int))),.osl 6 1 0 (List.length ([]:List Int))]),some (.box [.d (.sl (r28.Arcs.map (eL Az))),.d (.sl (r28.Accepts.map eB))]),some (.box [.d (.str s6),.osl 7 1 0 (r30.1.length),.osl 8 1 0 (result_1.length)]),some (.arr 1 (List.map (eL Ae) ([]:List (List Int)))),some (.arr 1 (List.map Ae ([]:List Int))),some (.cut 9 1 r30.1),some (.arr 1 (result_1.map Ae)),some (.arr 1 (x_37.map Ae))]⟩
def Jhx:St:=⟨(4,.ptr 0 0)::(5,.ptr 1 0)::(6,.ptr 2 0)::(13,.ptr 3 0)::(14,.ptr 4 0)::(15,.d (.int .i64 (Au .i64 p2_.At ((p2_.Put.length:Nat):Int))))::[],[some (.box (CS p1_)),some (.box (EC p2_)),some (.box [.d (.str []),.osl 5 1 0 (List.length ([]:List (List Int))),.osl 6 1 0 (List.length ([]:List Int))]),some (.box [.d (.sl (r28.Arcs.map (eL Az))),.d (.sl (r28.Accepts.map eB))]),some (.box [.d (.str s6),.osl 7 1 0 (r30.1.length),.osl 8 1 0 (result_2.length)]),some (.arr 1 (List.map (eL Ae) ([]:List (List Int)))),some (.arr 1 (List.map Ae ([]:List Int))),some (.cut 9 1 r30.1),some (.arr 1 (result_2.map Ae)),some (.arr 1 (x_38.map Ae))]⟩
def Q1:((List Int)×(List Int))->Ex->St->Prop:=xX 0 0 (λ (y:((List Int)×(List Int)))=>Jhx p1_ p2_ s6 r28 r30 y.1 y.2)
def La:((List Int)×(List Int)×Int)->St:=(λ (x:((List Int)×(List Int)×Int))=>Jhw p1_ p2_ s6 r28 r30 x.1 x.2.1 x.2.2)
def Jhy:St:=⟨(4,.ptr 0 0)::(5,.ptr 1 0)::(6,.ptr 2 0)::(14,.ptr 3 0)::(18,.clo 53 [.ptr 4 0,.ptr 5 0])::(19,.d (.int .i64 count_1))::(20,.d (.int .i64 0))::(21,.d (.int .i64 0))::(22,.d (.int .i64 i_4))::[],[some (.box (CS p1_)),some (.box (EC p2_)),some (.box [.d (.str []),.osl 6 1 0 (List.length ([]:List (List Int))),.osl 7 1 0 (List.length ([]:List Int))]),some (.box [.d (.str s6),.osl 8 1 0 (r30.1.length),.osl 9 1 0 (result_3.length)]),some (.box [.d (.str s6),.osl 8 1 0 (r30.1.length),.osl 9 1 0 (result_3.length)]),some (.box [.ptr 10 0]),some (.arr 1 (List.map (eL Ae) ([]:List (List Int)))),some (.arr 1 (List.map Ae ([]:List Int))),some (.cut 11 1 r30.1),some (.arr 1 (result_3.map Ae)),some (.box [.d (.sl (r28.Arcs.map (eL Az))),.d (.sl (r28.Accepts.map eB))]),some (.arr 1 (x_39.map Ae))]⟩
def Jhz:St:=⟨(4,.ptr 0 0)::(6,.ptr 1 0)::(14,.ptr 2 0)::(19,.d (.int .i64 count_2))::(20,.d (.int .i64 rest_1))::(21,.d (.int .i64 shift_7))::[],[some (.box (CS p1_)),some (.box [.d (.str []),.osl 3 1 0 (List.length ([]:List (List Int))),.osl 4 1 0 (List.length ([]:List Int))]),some (.box [.d (.str s6),.osl 5 1 0 (r30.1.length),.osl 6 1 0 (result_4.length)]),some (.arr 1 (List.map (eL Ae) ([]:List (List Int)))),some (.arr 1 (List.map Ae ([]:List Int))),some (.cut 7 1 r30.1),some (.arr 1 (result_4.map Ae)),some (.arr 1 (x_40.map Ae))]⟩
def JhA:St:=⟨(4,.ptr 0 0)::(5,.ptr 1 0)::(6,.ptr 2 0)::(14,.ptr 3 0)::(18,.clo 53 [.ptr 4 0,.ptr 5 0])::(19,.d (.int .i64 (Au .i64 count_1 1)))::(20,.d (.int .i64 0))::(21,.d (.int .i64 0))::(22,.d (.int .i64 i_4))::[],[some (.box (CS p1_)),some (.box (EC p2_)),some (.box [.d (.str []),.osl 6 1 0 (List.length ([]:List (List Int))),.osl 7 1 0 (List.length ([]:List Int))]),some (.box [.d (.str s6),.osl 8 1 0 (r30.1.length),.osl 9 1 0 (result_5.length)]),some (.box [.d (.str s6),.osl 8 1 0 (r30.1.length),.osl 9 1 0 (result_5.length)]),some (.box [.ptr 10 0]),some (.arr 1 (List.map (eL Ae) ([]:List (List Int)))),some (.arr 1 (List.map Ae ([]:List Int))),some (.cut 11 1 r30.1),some (.arr 1 (result_5.map Ae)),some (.box [.d (.sl (r28.Arcs.map (eL Az))),.d (.sl (r28.Accepts.map eB))]),some (.arr 1 (x_41.map Ae))]⟩
def Q2:((List Int)×(List Int)×Int×Int×Int)->Ex->St->Prop:=xX 0 2 (λ (y:((List Int)×(List Int)×Int×Int×Int))=>Jhz p1_ s6 r30 y.1 y.2.1 y.2.2.1 y.2.2.2.1 y.2.2.2.2)
def Lc:((List Int)×(List Int)×Int×Int)->St:=(λ (x:((List Int)×(List Int)×Int×Int))=>Jhy p1_ p2_ s6 r28 r30 x.1 x.2.1 x.2.2.1 x.2.2.2)
def JhB:St:=⟨(4,.ptr 0 0)::(6,.ptr 1 0)::(14,.ptr 2 0)::(19,.d (.int .i64 y40.2.2.1))::(21,.d (.int .i64 y40.2.2.2.2))::(163,.d (.int .i64 y40.2.2.2.1))::(164,.d (.int .i64 x_43))::[],[some (.box (CS p1_)),some (.box [.d (.str []),.osl 3 1 0 (List.length ([]:List (List Int))),.osl 4 1 0 (List.length ([]:List Int))]),some (.box [.d (.str s6),.osl 5 1 0 (r30.1.length),.osl 6 1 0 (result_6.length)]),some (.arr 1 (List.map (eL Ae) ([]:List (List Int)))),some (.arr 1 (List.map Ae ([]:List Int))),some (.cut 7 1 r30.1),some (.arr 1 (result_6.map Ae)),some (.arr 1 (x_42.map Ae))]⟩
def JhC:St:=⟨(6,.ptr 0 0)::(14,.ptr 1 0)::(19,.d (.int .i64 y40.2.2.1))::[],[some (.box [.d (.str []),.osl 2 1 0 (List.length ([]:List (List Int))),.osl 3 1 0 (List.length ([]:List Int))]),some (.box [.d (.str s6),.osl 4 1 0 (r30.1.length),.osl 5 1 0 (result_7.length)]),some (.arr 1 (List.map (eL Ae) ([]:List (List Int)))),some (.arr 1 (List.map Ae ([]:List Int))),some (.cut 6 1 r30.1),some (.arr 1 (result_7.map Ae)),some (.arr 1 (x_44.map Ae))]⟩
def JhD:St:=⟨(4,.ptr 0 0)::(6,.ptr 1 0)::(14,.ptr 2 0)::(19,.d (.int .i64 y40.2.2.1))::(21,.d (.int .i64 y40.2.2.2.2))::(163,.d (.int .i64 y40.2.2.2.1))::(164,.d (.int .i64 x_43))::[],[some (.box (CS p1_)),some (.box [.d (.str []),.osl 3 1 0 (List.length ([]:List (List Int))),.osl 4 1 0 (List.length ([]:List Int))]),some (.box [.d (.str s6),.osl 5 1 0 (r30.1.length),.osl 6 1 0 (result_8.length)]),some (.arr 1 (List.map (eL Ae) ([]:List (List Int)))),some (.arr 1 (List.map Ae ([]:List Int))),some (.cut 7 1 r30.1),some (.arr 1 (result_8.map Ae)),some (.arr 1 (x_45.map Ae))]⟩
def Q3:((List Int)×(List Int))->Ex->St->Prop:=xX 0 4 (λ (y:((List Int)×(List Int)))=>JhC s6 r30 y40 y.1 y.2)
def Ld:((List Int)×(List Int)×Int)->St:=(λ (x:((List Int)×(List Int)×Int))=>JhB p1_ s6 r30 y40 x.1 x.2.1 x.2.2)
variable {p0_ p1_ p2_ s6 r28 r30 result_1 x_37 i_3 result_2 x_38 result_3 x_39 count_1 i_4 result_4 x_40 count_2 rest_1 shift_7 result_5 x_41 y40 result_6 x_42 x_43 result_7 x_44 result_8 x_45}
theorem P2 (x:((List Int)×(List Int)×Int)) (z:(((List Int)×(List Int)×Int)⊕((List Int)×(List Int)))) (H:CG n p1_ p2_ s6 r28 r30 x.1 x.2.1 x.2.2=some z):WP (cxk 204 0) (Ax Tryz.f11) [1,0,1,1,1,1,1,1,1,1,0,1,0,0] (Av 0 (La p1_ p2_ s6 r28 r30) (Q1 p1_ p2_ s6 r28 r30) z) (La p1_ p2_ s6 r28 r30 x):=by
 obtain ⟨result_1,x_37,i_3⟩:=x
 refine sq (sr (ck 4 (en (cn H (λ H=>?_) (λ H=>?_)))))
 ·exact sk (qz (sq (bk 1 (sr (ck 9 (en (sq (rx 11 (OW (xs:=r30.1) 7 9 1 (by kernel_rfl)) (ck 3 (bx H λ x57 h146 H=>sp (AA 7 1 h146) (sp (PP (t:=ty 35) 7 9 1 h146) (ck 3 (bx H λ x58 h147 H=>sp (Am (eL Ae) h147) (ck 1 (mx 10 (bx H λ l22 h148 H=>xpP (xok _ _) Ae 9 1 x57.1 x57.2 h148 JjU (λ _=>rfl) (ax (qz (rg (Ny (xs:=r30.1) 7 9 1 (by kernel_rfl)) (ck 6 (bx H λ x59 h149 H=>sp (Am Ae h149) (ck 1 (bx H λ x60 h150 H=>sp (AA 8 1 h150) (bx H λ l23 h151 H=>stA Ae 8 0 (ty 3) h150 h151 (ae (qN (qz (rg (tr (sn 122 8 1 (Bh h151)) (snc 4 2 8 1 (Bh h151))) (ck 3 (ae (by cases H;exact og (sg [4,5,6,10,13,14,15,16]))))))))))))))))))))))))))))))))
 ·exact ex 0 (qx (by cases H;exact xo rfl (sg [4,5,6,13,14,15])))
theorem P3 (x:((List Int)×(List Int)×Int×Int)) (z:(((List Int)×(List Int)×Int×Int)⊕((List Int)×(List Int)×Int×Int×Int))) (H:Da n p1_ p2_ s6 r28 r30 x.1 x.2.1 x.2.2.1 x.2.2.2=some z):WP (cxk 204 0) (Ax Tryz.f11) [1,0,1,1,1,1,1,1,1,1,1,1,1,1,0,1,0,0] (Av 0 (Lc p1_ p2_ s6 r28 r30) (Q2 p1_ s6 r30) z) (Lc p1_ p2_ s6 r28 r30 x):=by
 obtain ⟨result_3,x_39,count_1,i_4⟩:=x
 refine sq (sr (ck 2 (en (cn H (λ H=>?_) (λ H=>?_)))))
 ·refine sk (qz (sj (λ (x:((List Int)×(List Int)))=>JhA p1_ p2_ s6 r28 r30 count_1 i_4 x.1 x.2) (λ (x:((List Int)×(List Int)))=>C9 n count_1 i_4 x.1 x.2) z ?_ (λ hFRv_Change_J1=>?_)))
  ·rintro ⟨result_5,x_41⟩ H
   exact rz (ck 3 (ae (by cases H;exact og (sg [4,5,6,14,18,19,20,21,22]))))
  refine bk 3 (sq (rx 5 (.refl _) (ck 5 (bx H λ r32 h154 H=>xs (xok _ _) (g:=true) rfl (D0) [4,5,8,9,10,11] (FY h154) rfl (bx H λ x61 h155 H=>sp (AA 9 1 h155) (mx 7 (bx H λ l24 h156 H=>stA Ae 9 0 (ty 3) h155 h156 (ax (qz (sq (rg (tr (tr (sn 140 9 1 (Bh h156)) (snc 3 2 9 1 (Bh h156))) (snc 4 2 9 1 (Bh h156))) (ck 3 (en (sq (sr (ck 5 (en (cn H (λ H=>?_) (λ H=>?_)))))))))))))))))))
  ·exact ex 3 (qx (qH (qs (sg [4,5,6,14,18,19,20,21,22]) (hFRv_Change_J1 (l24,r32.1) H))))
  ·refine sk (qz (sr (ck 3 (bx H λ r33 h157 H=>lt [8,9,11] (Q0 h157) (ck 5 (en (sr (ck 1 (en (cn H (λ H=>?_) (λ H=>?_)))))))))))
   ·exact sr (ck 4 (en (ex 2 (qX rfl (qx (by cases H;exact xo rfl (sg [4,6,14,19,20,21])))))))
   ·exact sk (qN (qs (sg [4,5,6,14,18,19,20,21,22]) (hFRv_Change_J1 (l24,r32.1) H)))
 ·exact ex 2 (qx (by cases H;exact xo rfl (sg [4,6,14,19,20,21])))
theorem P4 (x:((List Int)×(List Int)×Int)) (z:(((List Int)×(List Int)×Int)⊕((List Int)×(List Int)))) (H:CH n p1_ s6 r30 y40 x.1 x.2.1 x.2.2=some z):WP (cxk 204 0) (Ax Tryz.f11) [1,0,1,1,1,1,1,1,1,1,1,1,1,1,1,0,1,0,0] (Av 0 (Ld p1_ s6 r30 y40) (Q3 s6 r30 y40) z) (Ld p1_ s6 r30 y40 x):=by
 obtain ⟨result_6,x_42,x_43⟩:=x
 refine sr (ck 1 (en (sq (cn H (λ H=>?_) (λ H=>?_)))))
 ·refine sk (qz (sj (λ (x:((List Int)×(List Int)))=>JhD p1_ s6 r30 y40 x_43 x.1 x.2) (λ (x:((List Int)×(List Int)))=>Db n x_43 x.1 x.2) z ?_ (λ hFRv_Change_J2=>?_)))
  ·rintro ⟨result_8,x_45⟩ H
   exact rz (ck 2 (ae (by cases H;exact og (sg [4,6,14,19,21,163,164]))))
  refine bk 5 (sr (ck 2 (en (sq (rx 11 (OW (xs:=r30.1) 5 7 1 (by kernel_rfl)) (ck 3 (bx H λ x62 h159 H=>sp (AA 5 1 h159) (sp (PP (t:=ty 35) 5 7 1 h159) (ck 3 (bx H λ x63 h160 H=>sp (Am (eL Ae) h160) (ck 1 (mx 10 (bx H λ l25 h161 H=>xpP (xok _ _) Ae 7 1 x62.1 x62.2 h161 JjU (λ _=>rfl) (ax (qz (sq (rg (Ny (xs:=r30.1) 5 7 1 (by kernel_rfl)) (ck 6 (bx H λ x64 h162 H=>sp (Am Ae h162) (ck 1 (bx H λ x65 h163 H=>sp (AA 6 1 h163) (bx H λ l26 h164 H=>stA Ae 6 0 (ty 3) h163 h164 (en (sq (rg (tr (sn 179 6 1 (Bh h164)) (snc 2 2 6 1 (Bh h164))) (ck 3 (bx H λ x66 h165 H=>sp (Am Ae h165) (ck 2 (en (cn H (λ H=>?_) (λ H=>?_)))))))))))))))))))))))))))))))
  ·exact rz (ck 3 (bx H λ x67 h166 H=>sp (AA 6 1 h166) (sp (CL Ae 6 0 (ty 3) h166) (ck 2 (bx H λ x68 h167 H=>sp (AA 6 1 h167) (bx H λ l27 h168 H=>stA Ae 6 0 (ty 3) h167 h168 (ae (qN (qs (tr (tr (tr (sn 179 6 1 (Bh h168)) (sn 194 6 1 (Bh h168))) (snc 2 2 6 1 (Bh h168))) (sg [4,6,14,19,21,163,164])) (hFRv_Change_J2 (l27,l25) H))))))))))
  ·exact sk (qN (qs (sg [4,6,14,19,21,163,164]) (hFRv_Change_J2 (l26,l25) H)))
 ·exact ex 4 (qx (by cases H;exact xo rfl (sg [6,14,19])))
theorem GT {z} (H:DE n p0_ p1_ p2_=some z):AD Tryz.prog 11 [.agg (AK p0_),.agg (CS p1_),.agg (EC p2_)] (.tup [.agg [.d (.str z.1.Text),.d (.sl (z.1.Costs.map (eL Ae))),.own 1 (z.1.Least.map Ae)],.d (.int .i64 z.2.1),.d (.int .i64 z.2.2)]):=by
 refine fO 204 (Jhv p0_ p1_ p2_) Tryz.func11 (sr (ck 6 (en (sc (sr (ck 4 (en (sq (sr (ck 5 (gc 2 (!(decide (p2_.At<0))) (pO (ck 2 (gc 1 (!((decide (p2_.At<0))||(decide (p2_.Cut<0)))) (ck 1 (gc 1 (!((decide (p2_.At<0))||(decide (p2_.Cut<0)))) (pO (ck 2 (gc 1 (!(((decide (p2_.At<0))||(decide (p2_.Cut<0)))||(decide (p2_.At>((p1_.Text.length:Nat):Int))))) (ck 2 (gc 3 (!(((decide (p2_.At<0))||(decide (p2_.Cut<0)))||(decide (p2_.At>((p1_.Text.length:Nat):Int))))) (pO (en (cn H (λ H=>?_) (λ H=>?_)))))))))))))))))))))))))
 ·exact sr (ck 4 (en (re (qr (by cases H;exact pr (rT (vs:=[.agg [.d (.str []),.d (.nil),.d (.nil)],.d (.int .i64 0),.d (.int .i64 1)]) [] (t1 (a1 (c1 vd (c1 vn (c1 vz (c0))))) (t1 (ad vd) (t1 (ad vd) (t0))))))))))
 ·refine sk (qz (sr (ck 4 (bx H λ s3 h138 H=>sp (Hx h138) (ck 2 (bx H λ s4 h139 H=>sp (PN h139) (ck 7 (bx H λ s5 h140 H=>sp (Hx h140) (bx H λ s6 h141 H=>sp (PN h141) (ck 1 (en (sq (sr (ck 1 (bx H λ r27 h142 H=>ca true (IM h142) (ck 5 (en (sr (ck 2 (en (cn H (λ H=>?_) (λ H=>?_))))))))))))))))))))))
  ·exact sr (ck 5 (en (re (qr (by cases H;exact pr (rT (vs:=[.agg [.d (.str []),.d (.nil),.d (.nil)],.d (.int .i64 0),.d (.int .i64 r27.2)]) [] (t1 (a1 (c1 vd (c1 vn (c1 vz (c0))))) (t1 (ad vd) (t1 (ad vd) (t0))))))))))
  ·refine sk (qz (sr (ck 1 (bx H λ r28 h143 H=>lt [] (K7 h143) (tb (f:=Dy (Cu [] 4 0)) [some (.box (AK p0_)),some (.box (CS p1_)),some (.box (EC p2_)),some (.box [.d (.str []),.d (.nil),.d (.nil)]),some (.box [.osl 5 1 0 (r28.Arcs.length),.osl 6 1 0 (r28.Accepts.length)]),some (.narr 1 (r28.Arcs.map (nL 3 Az))),some (.arr 1 (r28.Accepts.map eB))] (po1 (po1 (po1 (po1 (po1 (pn1 (nL 3 Az) r28.Arcs (po1 (Pl.z)))))))) (ck 1 (en (sq (sr (ck 2 (bx H λ r29 h144 H=>ltP [4,5,6] (Pa h144) (po1 (pn1 (nL 3 Az) r28.Arcs (po1 (Pl.z)))) (tb (f:=Dy (Cu [4,5,6] 7 3)) [some (.box (AK p0_)),some (.box (CS p1_)),some (.box (EC p2_)),some (.box [.d (.str []),.d (.nil),.d (.nil)]),some (.box [.osl 5 1 0 (r28.Arcs.length),.osl 6 1 0 (r28.Accepts.length)]),some (.narr 1 (r28.Arcs.map (nL 3 Az))),some (.arr 1 (r28.Accepts.map eB))] (po1 (po1 (po1 (po1 (po1 (pn1 (nL 3 Az) r28.Arcs (po1 (Pl.z)))))))) (ck 1 (en (cn H (λ H=>?_) (λ H=>?_))))))))))))))))
   ·exact sr (ck 4 (en (re (qr (by cases H;exact pr (rT (vs:=[.agg [.d (.str []),.d (.nil),.d (.nil)],.d (.int .i64 0),.d (.int .i64 1)]) [] (t1 (a1 (c1 vd (c1 vn (c1 vz (c0))))) (t1 (ad vd) (t1 (ad vd) (t0))))))))))
   ·exact sk (qz (sq (rg (tr (OS (encN:=(nL 3 Az)) (encD:=(eL Az)) (xss:=r28.Arcs) (sz:=1) 4 0 5 (by kernel_rfl) (by kernel_rfl) (λ _=>rfl) (λ _=>rfl)) (fzc (enc:=eB) (xs:=r28.Accepts) 4 1 6 1)) (ck 2 (bx H λ r30 h145 H=>lt [4] (Ho h145) (ck 2 (en (sr (ck 7 (en (sq (sr (ck 2 (en (bk 0 (bx H λ y39 h152 H=>lX P2 h152 (tr (tr (BN 3 1 1 (by kernel_rfl)) (BN 3 2 1 (by kernel_rfl))) (sg [4,5,6,10,13,14,15,16])) rfl λ s hE32=>qH (qs (hE32) (sr (ck 2 (bx H λ r31 h153 H=>lt [3,7,8,9] (Hb h153) (ck 1 (en (sr (ck 3 (en (sq (lbl (qz (sq (sr (ck 3 (en (bk 2 (bx H λ y40 h158 H=>lX P3 h158 (sg [4,5,6,14,18,19,20,21,22]) rfl λ s hE33=>qH (qs (hE33) (sq (sr (ck 2 (en (bk 4 (bx H λ y41 h169 H=>lX P4 h169 (sg [4,6,14,19,21,163,164]) rfl λ s hE34=>qH (qs (hE34) (sr (ck 5 (ae (bx H λ _ h170 H=>qs (tr (tr (OW (xs:=r30.1) 4 6 1 (by kernel_rfl)) (WX (enc:=Ae) (ys:=y41.2) (xs:=r30.1) 6 4 1 h170 (by kernel_rfl) (by kernel_rfl))) (Uq (sz:=1) (encN:=Je5 Ae) (encD:=(eL Ae)) (xss:=PO y41.2 r30.1) 0 1 4 WZ (by kernel_rfl) (by kernel_rfl) (λ _=>rfl) (λ _=>rfl))) (re (by cases H;exact pr (rT (vs:=[.agg [.d (.str s6),.d (.sl (List.map (eL Ae) (PO y41.2 r30.1))),.osl 5 1 0 (y41.1.length)],.d (.int .i64 y40.2.2.1),.d (.int .i64 0)]) [5] (t1 (a1 (c1 vd (c1 vd (c1 vo (c0))))) (t1 (ad vd) (t1 (ad vd) (t0)))))))))))))))))))))))))))))))))))))))))))))))))))))
end
section
variable (p0_:(List UInt8)) (x_46:Int)
def JhE:St:=⟨(0,.d (.str p0_))::[],[]⟩
def JhF:St:=⟨(0,.d (.str p0_))::(5,.d (.int .i64 ((p0_.length:Nat):Int)))::(6,.d (.int .i64 x_46))::[],[]⟩
def JhG:St:=⟨[],[]⟩
def Pc:(Unit⊕Bool)->Ex->St->Prop:=xS (xX 0 0 (λ (_:Unit)=>JhG)) (xR ty Tryz.f88 (λ (y:Bool)=>.d (.bool y)))
def IS:Int->St:=(λ (x:Int)=>JhF p0_ x)
variable {p0_ x_46}
theorem H4 (x:Int) (z:(Int⊕(Unit⊕Bool))) (H:Fb n p0_ x=some z):WP (cxk 15 0) (Ax Tryz.f88) [1,0,1,0,0] (Av 0 (IS p0_) (Pc) z) (IS p0_ x):=by
 revert H
 generalize x=x_46
 intro H
 refine sr (ck 1 (en (sq (cn H (λ H=>?_) (λ H=>?_)))))
 ·refine sk (qz (sq (bk 1 (sr (ck 2 (en (sr (ck 2 (bx H λ b4 h171 H=>sp (Hw h171) (bx H λ r34 h172 H=>ca false (HH h172) (ck 1 (en (cn H (λ H=>?_) (λ H=>?_))))))))))))))
  ·exact sr (ck 1 (en (re (qR (qr (by cases H;exact ro rfl rd))))))
  ·exact sk (qN (qz (rz (ck 2 (ae (by cases H;exact og (sg [0,5,6])))))))
 ·exact ex 0 (qx (by cases H;exact xo rfl (sg [])))
theorem Q4 {z} (H:HA n p0_=some z):AD Tryz.prog 88 [.d (.str p0_)] (.d (.bool z)):=by
 refine fO 15 (JhE p0_) Tryz.func88 (sr (ck 1 (en (sq (sr (ck 3 (en (bk 0 (bx H λ y42 h173 H=>?_)))))))))
 rcases y42 with y43|y44
 ·exact lX H4 h173 (sg [0,5,6]) rfl λ s hE35=>qH (qs (hE35) (sr (ck 1 (en (re (by cases H;exact pr rd))))))
 ·exact lR H4 h173 (sg [0,5,6]) rfl λ s hE36=>qR (qr (by cases H;exact pr hE36))
end
section
variable (p0_:Int)
def JhH:St:=⟨(0,.d (.int .u8 p0_))::[],[]⟩
variable {p0_}
theorem Vi {z} (H:MM n p0_=some z):AD Tryz.prog 89 [.d (.int .u8 p0_)] (.d (.bool z)):=by
 exact fO 5 (JhH p0_) Tryz.func89 (sr (ck 1 (en (sr (ck 3 (en (re (by cases H;exact pr rd))))))))
end
section
variable (p0_:Ay) (p1_:Int) (x_47:Int)
def JhI:St:=⟨(0,.agg [.d (.str p0_.Print),.d (.sl (p0_.Cells.map eU8)),.d (.int .u8 p0_.Left),.d (.int .u8 p0_.Right),.d (.int .i64 p0_.From),.d (.int .i64 p0_.To)])::(1,.d (.int .i64 p1_))::[],[]⟩
def JhJ:St:=⟨(92,.d (.sl (p0_.Cells.map eU8)))::(93,.d (.int .i64 ((p0_.Cells.length:Nat):Int)))::(94,.d (.int .i64 x_47))::[],[]⟩
def JhK:St:=⟨[],[]⟩
def SH:(Unit⊕Bool)->Ex->St->Prop:=xS (xX 0 0 (λ (_:Unit)=>JhK)) (xR ty Tryz.f83 (λ (y:Bool)=>.d (.bool y)))
def Me:Int->St:=(λ (x:Int)=>JhJ p0_ x)
variable {p0_ p1_ x_47}
theorem Lf (x:Int) (z:(Int⊕(Unit⊕Bool))) (H:HB n p0_ x=some z):WP (cxk 110 0) (Ax Tryz.f83) [1,1,1,1,1,1,0,1,0,0] (Av 0 (Me p0_) (SH) z) (Me p0_ x):=by
 revert H
 generalize x=x_47
 intro H
 refine sr (ck 1 (en (sq (cn H (λ H=>?_) (λ H=>?_)))))
 ·refine sk (qz (sq (bk 1 (sr (bx H λ x70 h177 H=>sp (Am eU8 h177) (ck 2 (en (sr (ck 1 (bx H λ r37 h178 H=>ca false (Vi h178) (ck 3 (gc 1 (!(!r37)) (pO (ck 2 (gc 1 (!((!r37)||(x70==63))) (pO (en (cn H (λ H=>?_) (λ H=>?_)))))))))))))))))))
  ·exact sr (ck 1 (en (re (qR (qr (by cases H;exact ro rfl rd))))))
  ·exact sk (qN (qz (rz (ck 2 (ae (by cases H;exact og (sg [92,93,94])))))))
 ·exact ex 0 (qx (by cases H;exact xo rfl (sg [])))
theorem Vj {z} (H:MN n p0_ p1_=some z):AD Tryz.prog 83 [.agg (L9 p0_),.d (.int .i64 p1_)] (.d (.bool z)):=by
 refine fO 110 (JhI p0_ p1_) Tryz.func83 (sr (ck 2 (en (sq (sr (ck 6 (gc 1 (!(decide (((p0_.Print.length:Nat):Int)>4))) (sE (g:=(!(decide (((p0_.Print.length:Nat):Int)>4)))) (λ hg=>AC eU8 p0_.Cells) (gc 1 (!(decide (((p0_.Print.length:Nat):Int)>4))) (pO (ck 2 (gc 1 (!((decide (((p0_.Print.length:Nat):Int)>4))||(decide (((p0_.Cells.length:Nat):Int)<1)))) (sE (g:=(!((decide (((p0_.Print.length:Nat):Int)>4))||(decide (((p0_.Cells.length:Nat):Int)<1))))) (λ hg=>AC eU8 p0_.Cells) (gc 1 (!((decide (((p0_.Print.length:Nat):Int)>4))||(decide (((p0_.Cells.length:Nat):Int)<1)))) (pO (en (cn H (λ H=>?_) (λ H=>?_))))))))))))))))))
 ·exact sr (ck 1 (en (re (qr (by cases H;exact pr rd)))))
 ·refine sk (qz (sq (sr (ck 2 (bx H λ r35 h174 H=>ca false (IM h174) (ck 5 (en (sr (ck 2 (en (cn H (λ H=>?_) (λ H=>?_))))))))))))
  ·exact sr (ck 1 (en (re (qr (by cases H;exact pr rd)))))
  ·refine sk (qz (sq (sr (ck 5 (gc 2 (!(decide (p0_.Left<1))) (pO (ck 2 (gc 2 (!((decide (p0_.Left<1))||(decide (p0_.Left>63)))) (pO (ck 2 (gc 2 (!(((decide (p0_.Left<1))||(decide (p0_.Left>63)))||(decide (p0_.Right<1)))) (pO (en (cn H (λ H=>?_) (λ H=>?_)))))))))))))))
   ·exact sr (ck 1 (en (re (qr (by cases H;exact pr rd)))))
   ·refine sk (qz (sq (sr (ck 5 (gc 1 (!(decide (p0_.From<0))) (ck 1 (gc 1 (!(decide (p0_.From<0))) (pO (ck 2 (gc 2 (!((decide (p0_.From<0))||(decide (p0_.From>=p1_)))) (pO (ck 2 (gc 1 (!(((decide (p0_.From<0))||(decide (p0_.From>=p1_)))||(decide (p0_.To<0)))) (ck 1 (gc 1 (!(((decide (p0_.From<0))||(decide (p0_.From>=p1_)))||(decide (p0_.To<0)))) (pO (en (cn H (λ H=>?_) (λ H=>?_)))))))))))))))))))
    ·exact sr (ck 1 (en (re (qr (by cases H;exact pr rd)))))
    ·refine sk (qz (sq (sr (ck 2 (bx H λ r36 h175 H=>ca false (Q4 h175) (en (cn H (λ H=>?_) (λ H=>?_))))))))
     ·exact sr (ck 6 (gc 1 (((p0_.Print.length:Nat):Int)==1) (sE (g:=(((p0_.Print.length:Nat):Int)==1)) (λ hg=>AC eU8 p0_.Cells) (gc 1 (((p0_.Print.length:Nat):Int)==1) (pA (ck 2 (gc 1 ((((p0_.Print.length:Nat):Int)==1)&&(((p0_.Cells.length:Nat):Int)==1)) (bx H λ x69 h176 H=>sE (λ hg=>Am eU8 (BA h176 hg)) (gc 2 ((((p0_.Print.length:Nat):Int)==1)&&(((p0_.Cells.length:Nat):Int)==1)) (pA (ck 1 (en (re (qr (by cases H;exact pr rd)))))))))))))))
     ·refine sk (qz (sq (sr (ck 2 (sp (AC eU8 p0_.Cells) (ck 1 (en (bk 0 (bx H λ y45 h179 H=>?_)))))))))
      rcases y45 with y46|y47
      ·exact lX Lf h179 (sg [92,93,94]) rfl λ s hE37=>qH (qs (hE37) (sr (ck 1 (en (re (by cases H;exact pr rd))))))
      ·exact lR Lf h179 (sg [92,93,94]) rfl λ s hE38=>qR (qr (by cases H;exact pr hE38))
end
section
variable (p0_:(List Int)) (p1_:(List Int)) (x_48:Int)
def JhL:St:=⟨(0,.d (.sl (p0_.map eU8)))::(1,.d (.sl (p1_.map eU8)))::[],[]⟩
def JhM:St:=⟨(0,.d (.sl (p0_.map eU8)))::(1,.d (.sl (p1_.map eU8)))::(12,.d (.int .i64 ((p0_.length:Nat):Int)))::(13,.d (.int .i64 x_48))::[],[]⟩
def JhN:St:=⟨[],[]⟩
def SI:(Unit⊕Bool)->Ex->St->Prop:=xS (xX 0 0 (λ (_:Unit)=>JhN)) (xR ty Tryz.f90 (λ (y:Bool)=>.d (.bool y)))
def Mf:Int->St:=(λ (x:Int)=>JhM p0_ p1_ x)
variable {p0_ p1_ x_48}
theorem Lg (x:Int) (z:(Int⊕(Unit⊕Bool))) (H:HC n p0_ p1_ x=some z):WP (cxk 26 0) (Ax Tryz.f90) [1,1,0,1,0,0] (Av 0 (Mf p0_ p1_) (SI) z) (Mf p0_ p1_ x):=by
 revert H
 generalize x=x_48
 intro H
 refine sr (ck 1 (en (sq (cn H (λ H=>?_) (λ H=>?_)))))
 ·refine sk (qz (sq (bk 1 (sr (ck 2 (en (sr (ck 2 (bx H λ x71 h180 H=>sp (Am eU8 h180) (ck 3 (bx H λ x72 h181 H=>sp (Am eU8 h181) (ck 2 (en (cn H (λ H=>?_) (λ H=>?_)))))))))))))))
  ·exact sr (ck 1 (en (re (qR (qr (by cases H;exact ro rfl rd))))))
  ·exact sk (qN (qz (rz (ck 2 (ae (by cases H;exact og (sg [0,1,12,13])))))))
 ·exact ex 0 (qx (by cases H;exact xo rfl (sg [])))
theorem Vk {z} (H:MO n p0_ p1_=some z):AD Tryz.prog 90 [.d (.sl (p0_.map eU8)),.d (.sl (p1_.map eU8))] (.d (.bool z)):=by
 refine fO 26 (JhL p0_ p1_) Tryz.func90 (sr (ck 1 (en (sq (sr (ck 1 (sp (AC eU8 p0_) (ck 1 (sp (AC eU8 p1_) (ck 1 (en (cn H (λ H=>?_) (λ H=>?_)))))))))))))
 ·exact sr (ck 1 (en (re (qr (by cases H;exact pr rd)))))
 ·refine sk (qz (sq (sr (ck 1 (sp (AC eU8 p0_) (ck 1 (en (bk 0 (bx H λ y48 h182 H=>?_)))))))))
  rcases y48 with y49|y50
  ·exact lX Lg h182 (sg [0,1,12,13]) rfl λ s hE39=>qH (qs (hE39) (sr (ck 1 (en (re (by cases H;exact pr rd))))))
  ·exact lR Lg h182 (sg [0,1,12,13]) rfl λ s hE40=>qR (qr (by cases H;exact pr hE40))
end
section
variable (p0_:Ay) (p1_:Ay)
def JhO:St:=⟨(0,.agg [.d (.str p0_.Print),.d (.sl (p0_.Cells.map eU8)),.d (.int .u8 p0_.Left),.d (.int .u8 p0_.Right),.d (.int .i64 p0_.From),.d (.int .i64 p0_.To)])::(1,.agg [.d (.str p1_.Print),.d (.sl (p1_.Cells.map eU8)),.d (.int .u8 p1_.Left),.d (.int .u8 p1_.Right),.d (.int .i64 p1_.From),.d (.int .i64 p1_.To)])::[],[]⟩
variable {p0_ p1_}
theorem Vl {z} (H:MP n p0_ p1_=some z):AD Tryz.prog 84 [.agg (L9 p0_),.agg (L9 p1_)] (.d (.bool z)):=by
 exact fO 45 (JhO p0_ p1_) Tryz.func84 (sr (ck 3 (en (sr (ck 7 (gc 1 (p0_.From==p1_.From) (ck 1 (gc 2 (p0_.From==p1_.From) (pA (ck 2 (gc 1 ((p0_.From==p1_.From)&&(p0_.To==p1_.To)) (ck 1 (gc 2 ((p0_.From==p1_.From)&&(p0_.To==p1_.To)) (pA (ck 2 (gc 1 (((p0_.From==p1_.From)&&(p0_.To==p1_.To))&&(p0_.Left==p1_.Left)) (ck 1 (gc 2 (((p0_.From==p1_.From)&&(p0_.To==p1_.To))&&(p0_.Left==p1_.Left)) (pA (ck 2 (gc 1 ((((p0_.From==p1_.From)&&(p0_.To==p1_.To))&&(p0_.Left==p1_.Left))&&(p0_.Right==p1_.Right)) (ck 1 (gc 2 ((((p0_.From==p1_.From)&&(p0_.To==p1_.To))&&(p0_.Left==p1_.Left))&&(p0_.Right==p1_.Right)) (pA (ck 2 (gc 1 (((((p0_.From==p1_.From)&&(p0_.To==p1_.To))&&(p0_.Left==p1_.Left))&&(p0_.Right==p1_.Right))&&(p0_.Print==p1_.Print)) (ck 1 (gc 1 (((((p0_.From==p1_.From)&&(p0_.To==p1_.To))&&(p0_.Left==p1_.Left))&&(p0_.Right==p1_.Right))&&(p0_.Print==p1_.Print)) (bx H λ r38 h183 H=>cG false (leZ) rfl (λ hg=>Vk (BA h183 hg)) (Or.inl rfl) (BS (λ hh=>hh) (BS (λ hh=>hh) (D0))) rfl (pA (ck 1 (en (re (by cases H;exact pr rd))))))))))))))))))))))))))))))))))
end
section
variable (p0_:Ad) (x_49:Int) (x73:Ay) (l28:(List Ay)) (x_50:Int)
def JhP:St:=⟨(0,.agg [.d (.int .i64 p0_.Modes),.d (.int .u8 p0_.Accept),.d (.sl (p0_.Rules.map An))])::[],[]⟩
def JhQ:St:=⟨(1,.ptr 0 0)::(39,.d (.sl (p0_.Rules.map An)))::(40,.d (.int .i64 ((p0_.Rules.length:Nat):Int)))::(41,.d (.int .i64 x_49))::[],[some (.box (AK p0_))]⟩
def JhR:St:=⟨[],[]⟩
def JhS:St:=⟨(1,.ptr 0 0)::(4,.d (.int .i64 x_49))::(5,.ptr 1 0)::(39,.d (.sl (p0_.Rules.map An)))::(40,.d (.int .i64 ((p0_.Rules.length:Nat):Int)))::(41,.d (.int .i64 x_49))::(55,.d (.sl (l28.map An)))::(56,.d (.int .i64 ((l28.length:Nat):Int)))::(57,.d (.int .i64 x_50))::[],[some (.box (AK p0_)),some (.box (L9 x73))]⟩
def JhT:St:=⟨(1,.ptr 0 0)::(39,.d (.sl (p0_.Rules.map An)))::(40,.d (.int .i64 ((p0_.Rules.length:Nat):Int)))::(41,.d (.int .i64 x_49))::[],[some (.box (AK p0_))]⟩
def SJ:(Unit⊕(Int×Int))->Ex->St->Prop:=xS (xX 0 2 (λ (_:Unit)=>JhT p0_ x_49)) (xR ty Tryz.f75 (λ (y:(Int×Int))=>.tup [.d (.int .i64 y.1),.d (.int .i64 y.2)]))
def Mg:Int->St:=(λ (x:Int)=>JhS p0_ x_49 x73 l28 x)
def SK:(Unit⊕(Int×Int))->Ex->St->Prop:=xS (xX 0 0 (λ (_:Unit)=>JhR)) (xR ty Tryz.f75 (λ (y:(Int×Int))=>.tup [.d (.int .i64 y.1),.d (.int .i64 y.2)]))
def Mh:Int->St:=(λ (x:Int)=>JhQ p0_ x)
variable {p0_ x_49 x73 l28 x_50}
theorem Lh (x:Int) (z:(Int⊕(Unit⊕(Int×Int)))) (H:HD n p0_ x_49 x73 l28 x=some z):WP (cxk 67 0) (Ax Tryz.f75) [1,1,1,1,0,1,0,0,1,1,0,0,1,1,1,0,0] (Av 0 (Mg p0_ x_49 x73 l28) (SJ p0_ x_49) z) (Mg p0_ x_49 x73 l28 x):=by
 revert H
 generalize x=x_50
 intro H
 refine sr (ck 1 (en (sq (cn H (λ H=>?_) (λ H=>?_)))))
 ·refine sk (qz (sq (bk 3 (sr (bx H λ x74 h188 H=>sp (Am An h188) (ck 3 (en (sr (ck 2 (bx H λ r40 h189 H=>ca false (Vl h189) (en (cn H (λ H=>?_) (λ H=>?_)))))))))))))
  ·exact sr (ck 3 (en (re (qR (qr (by cases H;exact ro rfl rdT))))))
  ·exact sk (qN (qz (rz (ck 2 (ae (by cases H;exact og (sg [1,4,5,39,40,41,55,56,57])))))))
 ·exact ex 2 (qx (by cases H;exact xo rfl (sg [1,39,40,41])))
theorem Li (x:Int) (z:(Int⊕(Unit⊕(Int×Int)))) (H:HE n p0_ x=some z):WP (cxk 67 0) (Ax Tryz.f75) [1,1,1,1,0,1,0,0] (Av 0 (Mh p0_) (SK) z) (Mh p0_ x):=by
 revert H
 generalize x=x_49
 intro H
 refine sr (ck 1 (en (sq (cn H (λ H=>?_) (λ H=>?_)))))
 ·refine sk (qz (sq (bk 1 (sr (ck 1 (bx H λ x73 h185 H=>sp (Am An h185) (ck 4 (en (sq (sr (ck 3 (bx H λ r39 h186 H=>ca false (Vj h186) (ck 1 (en (cn H (λ H=>?_) (λ H=>?_))))))))))))))))
  ·exact sr (ck 3 (en (re (qr (qR (qr (by cases H;exact ro rfl rdT)))))))
  ·refine sk (qz (sr (ck 3 (bx H λ l28 h187 H=>sp (JbE An 6 h187) (sp (AC An l28) (ck 1 (en (bk 2 (bx H λ y51 h190 H=>?_)))))))))
   rcases y51 with y52|y53
   ·exact lX Lh h190 (sg [1,4,5,39,40,41,55,56,57]) rfl λ s hE41=>qH (qN (qs (hE41) (rz (ck 2 (ae (by cases H;exact og (sg [1,39,40,41])))))))
   ·exact lR Lh h190 (sg [1,4,5,39,40,41,55,56,57]) rfl λ s hE42=>qR (qR (qr (by cases H;exact ro rfl hE42)))
 ·exact ex 0 (qx (by cases H;exact xo rfl (sg [])))
theorem Vm {z} (H:MQ n p0_=some z):AD Tryz.prog 75 [.agg (AK p0_)] (.tup [.d (.int .i64 z.1),.d (.int .i64 z.2)]):=by
 refine fO 67 (JhP p0_) Tryz.func75 (sr (ck 3 (en (sq (sr (ck 5 (gc 2 (!(decide (p0_.Modes<1))) (pO (en (cn H (λ H=>?_) (λ H=>?_)))))))))))
 ·exact sr (ck 2 (en (re (qr (by cases H;exact pr rdT)))))
 ·refine sk (qz (sq (sr (ck 5 (gc 2 (!(p0_.Accept==0)) (ck 1 (gc 1 (!(p0_.Accept==0)) (bx H λ gd4 h184 H=>soG (λ hg=>HV (BA h184 hg)) (BS (λ hh=>hh) (D0)) (gc 1 (!(p0_.Accept==0)) (pO (en (cn H (λ H=>?_) (λ H=>?_)))))))))))))
  ·exact sr (ck 2 (en (re (qr (by cases H;exact pr rdT)))))
  ·refine sk (qz (sq (sr (ck 2 (sp (AC An p0_.Rules) (ck 3 (gc 1 (!(decide (((p0_.Rules.length:Nat):Int)<1))) (sE (g:=(!(decide (((p0_.Rules.length:Nat):Int)<1)))) (λ hg=>AC An p0_.Rules) (gc 1 (!(decide (((p0_.Rules.length:Nat):Int)<1))) (pO (en (cn H (λ H=>?_) (λ H=>?_)))))))))))))
   ·exact sr (ck 2 (en (re (qr (by cases H;exact pr rdT)))))
   ·refine sk (qz (sq (sr (ck 2 (sp (AC An p0_.Rules) (ck 1 (en (bk 0 (bx H λ y54 h191 H=>?_)))))))))
    rcases y54 with y55|y56
    ·exact lX Li h191 (sg [1,39,40,41]) rfl λ s hE43=>qH (qs (hE43) (sr (ck 2 (en (re (by cases H;exact pr rdT))))))
    ·exact lR Li h191 (sg [1,39,40,41]) rfl λ s hE44=>qR (qr (by cases H;exact pr hE44))
end
section
variable (p0_:Ad)
def JhU:St:=⟨(0,.agg [.d (.int .i64 p0_.Modes),.d (.int .u8 p0_.Accept),.d (.sl (p0_.Rules.map An))])::[],[]⟩
variable {p0_}
theorem Vn {z} (H:MR n p0_=some z):AD Tryz.prog 60 [.agg (AK p0_)] (.d (.bool z)):=by
 exact fO 12 (JhU p0_) Tryz.func60 (sr (ck 2 (en (sr (ck 1 (bx H λ r41 h192 H=>ca false (Vm h192) (ck 5 (en (sr (ck 3 (en (re (by cases H;exact pr rd)))))))))))))
end
section
variable (p0_:Int)
def Je9:St:=⟨(0,.d (.int .i64 p0_))::[],[]⟩
variable {p0_}
theorem IT {z} (H:Ee n p0_=some z):AD Tryz.prog 108 [.d (.int .i64 p0_)] (.d (.bool z)):=by
 exact fO 6 (Je9 p0_) Tryz.func108 (sr (ck 1 (en (sr (ck 4 (en (re (by cases H;exact pr rd))))))))
end
section
variable (p0_:Int) (p1_:Int)
def JhV:St:=⟨(0,.d (.int .i64 p0_))::(1,.d (.int .i64 p1_))::[],[]⟩
variable {p0_ p1_}
theorem P5 {z} (H:GO n p0_ p1_=some z):AD Tryz.prog 97 [.d (.int .i64 p0_),.d (.int .i64 p1_)] (.d (.bool z)):=by
 exact fO 17 (JhV p0_ p1_) Tryz.func97 (sr (ck 1 (en (sr (ck 1 (bx H λ r43 h196 H=>ca false (IT h196) (ck 2 (bx H λ r44 h197 H=>cG false (leZ) rfl (λ hg=>IT (BA h197 hg)) (Or.inl rfl) (BS (λ hh=>hh) (D0)) rfl (gc 1 r43 (pA (ck 3 (gc 1 (!(r43&&(!r44))) (pO (ck 1 (en (re (by cases H;exact pr rd)))))))))))))))))
end
section
variable (p0_:Int)
def Jfa:St:=⟨(0,.d (.int .i64 p0_))::[],[]⟩
variable {p0_}
theorem JQ {z} (H:EQ n p0_=some z):AD Tryz.prog 102 [.d (.int .i64 p0_)] (.d (.bool z)):=by
 exact fO 6 (Jfa p0_) Tryz.func102 (sr (ck 1 (en (sr (ck 4 (en (re (by cases H;exact pr rd))))))))
end
section
variable (p0_:(List Int)) (p1_:Int) (i_5:Int) (j_3:Int) (i_6:Int)
def JhW:St:=⟨(0,.d (.sl (p0_.map Ae)))::(1,.d (.int .i64 p1_))::[],[]⟩
def JhX:St:=⟨(0,.d (.sl (p0_.map Ae)))::(1,.d (.int .i64 p1_))::(6,.d (.int .i64 ((p0_.length:Nat):Int)))::(7,.d (.int .i64 i_5))::(8,.d (.int .i64 j_3))::[],[]⟩
def JhY:St:=⟨(0,.d (.sl (p0_.map Ae)))::(1,.d (.int .i64 p1_))::(6,.d (.int .i64 ((p0_.length:Nat):Int)))::(7,.d (.int .i64 i_6))::[],[]⟩
def Hd:Int->Ex->St->Prop:=xX 0 0 (λ (y:Int)=>JhY p0_ p1_ y)
def DA:(Int×Int)->St:=(λ (x:(Int×Int))=>JhX p0_ p1_ x.1 x.2)
variable {p0_ p1_ i_5 j_3 i_6}
theorem GD (x:(Int×Int)) (z:((Int×Int)⊕Int)) (H:BT n p0_ p1_ x.1 x.2=some z):WP (cxk 54 0) (Ax Tryz.f87) [1,1,1,0,0,0] (Av 0 (DA p0_ p1_) (Hd p0_ p1_) z) (DA p0_ p1_ x):=by
 obtain ⟨i_5,j_3⟩:=x
 refine sq (sr (ck 3 (en (cn H (λ H=>?_) (λ H=>?_)))))
 ·refine sk (qz (bk 1 (sr (ck 7 (en (sr (ck 2 (bx H λ x76 h198 H=>sp (Am Ae h198) (ck 2 (bx H λ r45 h199 H=>ca false (P5 h199) (en (cn H (λ H=>?_) (λ H=>?_)))))))))))))
  ·exact rz (ck 3 (ae (qN (by cases H;exact og (sg [0,1,6,7,8])))))
  ·exact rz (ck 2 (ae (qN (by cases H;exact og (sg [0,1,6,7,8])))))
 ·exact ex 0 (qx (by cases H;exact xo rfl (sg [0,1,6,7])))
theorem HI {z} (H:Cd n p0_ p1_=some z):AD Tryz.prog 87 [.d (.sl (p0_.map Ae)),.d (.int .i64 p1_)] (.tup [.d (.int .i64 z.1),.d (.bool z.2)]):=by
 exact fO 54 (JhW p0_ p1_) Tryz.func87 (sr (ck 2 (en (sr (ck 1 (sp (AC Ae p0_) (ck 1 (en (sr (ck 3 (en (sq (bk 0 (bx H λ y57 h200 H=>lX GD h200 (sg [0,1,6,7,8]) rfl λ s hE45=>qH (qs (hE45) (sr (ck 7 (bx H λ x77 h201 H=>sE (λ hg=>Am Ae (BA h201 hg)) (gc 1 (decide (y57<((p0_.length:Nat):Int))) (ck 1 (gc 2 (decide (y57<((p0_.length:Nat):Int))) (ck 2 (bx H λ x78 h202 H=>sE (λ hg=>Am Ae (BA h202 hg)) (gc 1 ((decide (y57<((p0_.length:Nat):Int)))&&!(x77==p1_)) (bx H λ r46 h203 H=>cG false (leZ) rfl (λ hg=>JQ (BA h203 hg)) (Or.inl rfl) (BS (λ hh=>hh) (D0)) rfl (gc 1 ((decide (y57<((p0_.length:Nat):Int)))&&!(x77==p1_)) (ck 1 (bx H λ r47 h204 H=>cG false (leZ) rfl (λ hg=>JQ (BA h204 hg)) (Or.inl rfl) (BS (λ hh=>hh) (D0)) rfl (pG (g:=((decide (y57<((p0_.length:Nat):Int)))&&!(x77==p1_))) (v:=.d (.bool (r46&&r47))) (λ hg=>Gz (c:=.gv ((decide (y57<((p0_.length:Nat):Int)))&&!(x77==p1_)) (.d (.bool r46))) (a:=.gv (((decide (y57<((p0_.length:Nat):Int)))&&!(x77==p1_))&&r46) (.d (.bool r47))) (b:=.d (.bool false)) rfl rfl rfl ((λ hh=>hh) hg) (λ ht=>by rw [(λ hh=>hh) hg,ht];rfl) trivial) (pG (g:=decide (y57<((p0_.length:Nat):Int))) (v:=.d (.bool ((x77==p1_)||(r46&&r47)))) (λ hg=>Gz (c:=.gv (decide (y57<((p0_.length:Nat):Int))) (.d (.bool (x77==p1_)))) (a:=.d (.bool true)) (b:=.gv ((decide (y57<((p0_.length:Nat):Int)))&&!(x77==p1_)) (.d (.bool (r46&&r47)))) rfl rfl rfl ((λ hh=>hh) hg) trivial (λ ht=>by rw [(λ hh=>hh) hg,ht];rfl)) (pA (ck 2 (en (re (by cases H;exact pr rdT)))))))))))))))))))))))))))))))))))
end
section
variable (p0_:AE) (p1_:Int)
def JhZ:St:=⟨(0,.dptr (L8 p0_) 0)::(1,.d (.int .i64 p1_))::[],[]⟩
variable {p0_ p1_}
theorem Fj {z} (H:CW n p0_ p1_=some z):AD Tryz.prog 80 [.dptr (L8 p0_) 0,.d (.int .i64 p1_)] (.d (.int .i64 z)):=by
 refine fO 25 (JhZ p0_ p1_) Tryz.func80 (sr (ck 1 (en (sr (ck 5 (bx H λ r48 h205 H=>ca false (HI h205) (ck 5 (en (sq (sr (ck 2 (en (cn H (λ H=>?_) (λ H=>?_))))))))))))))
 ·exact sr (ck 1 (en (re (qr (by cases H;exact pr rd)))))
 ·exact sk (qz (sr (ck 5 (bx H λ x79 h206 H=>sp (Am Ae h206) (ck 2 (en (re (by cases H;exact pr rd))))))))
end
section
variable (p0_:Ad) (p1_:(List UInt8)) (x_52:Af) (r52:(List Ab)) (l31:(List AE)) (number_8:(List (Ab×Int))) (x_53:Int) (number_9:(List (Ab×Int))) (y62:(List (Ab×Int))) (w_1:Af) (x_54:Int) (w_2:Af) (x86:Ab) (w_3:Af) (x_55:Int) (w_4:Af) (w_5:Af)
def JcJ:St:=⟨(0,.agg [.d (.int .i64 p0_.Modes),.d (.int .u8 p0_.Accept),.d (.sl (p0_.Rules.map An))])::(1,.d (.str p1_))::[],[]⟩
def JcK:St:=⟨(4,.ptr 0 0)::[],[some (.box (Al x_52 (.osl 1 2 0 (x_52.Columns.length)))),some (.narr 2 (x_52.Columns.map Ac))]⟩
def JcL:St:=⟨(2,.ptr 0 0)::(5,.ptr 1 0)::(6,.mp 2)::(33,.d (.sl (r52.map Aj)))::(34,.d (.int .i64 ((r52.length:Nat):Int)))::(35,.d (.int .i64 x_53))::[],[some (.box (AK p0_)),some (.box [.d (.int .i64 p0_.Modes),.d (.int .u8 p0_.Accept),.d (.sl (p0_.Rules.map An)),.d (.str p1_),.d (.sl (r52.map Aj)),.osl 3 1 0 (List.length ([]:List (List A8))),.osl 4 2 0 (l31.length),.d (.int .i64 0)]),some (.map true false (Er Aj Ae number_8)),some (.arr 1 (List.map (eL Ai) ([]:List (List A8)))),some (.narr 2 (l31.map Ac))]⟩
def JcM:St:=⟨(2,.ptr 0 0)::(5,.ptr 1 0)::(6,.mp 2)::[],[some (.box (AK p0_)),some (.box [.d (.int .i64 p0_.Modes),.d (.int .u8 p0_.Accept),.d (.sl (p0_.Rules.map An)),.d (.str p1_),.d (.sl (r52.map Aj)),.osl 3 1 0 (List.length ([]:List (List A8))),.osl 4 2 0 (l31.length),.d (.int .i64 0)]),some (.map true false (Er Aj Ae number_9)),some (.arr 1 (List.map (eL Ai) ([]:List (List A8)))),some (.narr 2 (l31.map Ac))]⟩
def N7:(List (Ab×Int))->Ex->St->Prop:=xX 0 0 (λ (y:(List (Ab×Int)))=>JcM p0_ p1_ r52 l31 y)
def H5:((List (Ab×Int))×Int)->St:=(λ (x:((List (Ab×Int))×Int))=>JcL p0_ p1_ r52 l31 x.1 x.2)
def JcN:St:=⟨(2,.ptr 0 0)::(5,.ptr 1 0)::(6,.mp 2)::(56,.d (.sl (r52.map Aj)))::(57,.d (.int .i64 ((r52.length:Nat):Int)))::(58,.d (.int .i64 x_54))::[],[some (.box (AK p0_)),some (.box (Ha w_1 (.osl 3 1 0 (w_1.Arcs.length)) (.osl 4 2 0 (w_1.Columns.length)))),some (.map true false (Er Aj Ae y62)),some (.narr 1 (w_1.Arcs.map (nL 2 Ai))),some (.narr 2 (w_1.Columns.map Ac))]⟩
def JcO:St:=⟨(5,.ptr 0 0)::[],[some (.box (Ha w_2 (.osl 1 1 0 (w_2.Arcs.length)) (.osl 2 2 0 (w_2.Columns.length)))),some (.narr 1 (w_2.Arcs.map (nL 2 Ai))),some (.narr 2 (w_2.Columns.map Ac))]⟩
def JcP:St:=⟨(2,.ptr 0 0)::(5,.ptr 1 0)::(6,.mp 2)::(9,.d (.int .i64 x_54))::(10,.ptr 3 0)::(56,.d (.sl (r52.map Aj)))::(57,.d (.int .i64 ((r52.length:Nat):Int)))::(58,.d (.int .i64 x_54))::(65,.d (.int .i64 ((p0_.Rules.length:Nat):Int)))::(66,.d (.int .i64 x_55))::[],[some (.box (AK p0_)),some (.box (Ha w_3 (.osl 4 1 0 (w_3.Arcs.length)) (.osl 5 2 0 (w_3.Columns.length)))),some (.map true false (Er Aj Ae y62)),some (.box (Je x86)),some (.narr 1 (w_3.Arcs.map (nL 2 Ai))),some (.narr 2 (w_3.Columns.map Ac))]⟩
def JcQ:St:=⟨(2,.ptr 0 0)::(5,.ptr 1 0)::(6,.mp 2)::(56,.d (.sl (r52.map Aj)))::(57,.d (.int .i64 ((r52.length:Nat):Int)))::(58,.d (.int .i64 x_54))::[],[some (.box (AK p0_)),some (.box (Ha w_4 (.osl 3 1 0 (w_4.Arcs.length)) (.osl 4 2 0 (w_4.Columns.length)))),some (.map true false (Er Aj Ae y62)),some (.narr 1 (w_4.Arcs.map (nL 2 Ai))),some (.narr 2 (w_4.Columns.map Ac))]⟩
def JcR:St:=⟨(2,.ptr 0 0)::(5,.ptr 1 0)::(6,.mp 2)::(9,.d (.int .i64 x_54))::(10,.ptr 3 0)::(56,.d (.sl (r52.map Aj)))::(57,.d (.int .i64 ((r52.length:Nat):Int)))::(58,.d (.int .i64 x_54))::(65,.d (.int .i64 ((p0_.Rules.length:Nat):Int)))::(66,.d (.int .i64 x_55))::[],[some (.box (AK p0_)),some (.box (Ha w_5 (.osl 4 1 0 (w_5.Arcs.length)) (.osl 5 2 0 (w_5.Columns.length)))),some (.map true false (Er Aj Ae y62)),some (.box (Je x86)),some (.narr 1 (w_5.Arcs.map (nL 2 Ai))),some (.narr 2 (w_5.Columns.map Ac))]⟩
def N8:Af->Ex->St->Prop:=xX 0 4 (λ (y:Af)=>JcQ p0_ r52 y62 x_54 y)
def H6:(Af×Int)->St:=(λ (x:(Af×Int))=>JcP p0_ r52 y62 x_54 x86 x.1 x.2)
def N9:Af->Ex->St->Prop:=xX 0 2 (λ (y:Af)=>JcO y)
def H7:(Af×Int)->St:=(λ (x:(Af×Int))=>JcN p0_ r52 y62 x.1 x.2)
variable {p0_ p1_ x_52 r52 l31 number_8 x_53 number_9 y62 w_1 x_54 w_2 x86 w_3 x_55 w_4 w_5}
theorem Nh (x:((List (Ab×Int))×Int)) (z:(((List (Ab×Int))×Int)⊕(List (Ab×Int)))) (H:Eu n p0_ p1_ r52 l31 x.1 x.2=some z):WP (cxk 100 0) (Ax Tryz.f61) [1,1,1,0,1,0,0] (Av 0 (H5 p0_ p1_ r52 l31) (N7 p0_ p1_ r52 l31) z) (H5 p0_ p1_ r52 l31 x):=by
 obtain ⟨number_8,x_53⟩:=x
 refine sr (ck 1 (en (sq (cn H (λ H=>?_) (λ H=>?_)))))
 ·exact sk (qz (sq (bk 1 (sr (ck 1 (bx H λ x85 h221 H=>sp (Am Aj h221) (ck 4 (en (rz (ck 3 (sp (Ro (enc:=Ae) (encK:=Aj) (k:=2) (e1:=λ x=>.int .i64 x) (m:=number_8) (l:=[.d (.int .i64 x85.Mode),.d (.int .i64 x85.Last),.d (.int .u8 x85.Need)]) (key:=x85) (y:=x_53) (v:=.d (.int .i64 x_53)) (vz:=[.int .i64 0]) SA) (ae (qN (qz (rz (ck 2 (ae (by cases H;exact og (gP [2,5,6,33,34,35] [0,1,2,3,4] (po1 (po1 (po1 (po1 (pn1 Ac l31 (Pl.z)))))))))))))))))))))))))
 ·exact ex 0 (qx (by cases H;exact xo rfl (gP [2,5,6] [0,1,2,3,4] (po1 (po1 (po1 (po1 (pn1 Ac l31 (Pl.z)))))))))
theorem Ni (x:(Af×Int)) (z:((Af×Int)⊕Af)) (H:Ew n p0_ r52 y62 x_54 x86 x.1 x.2=some z):WP (cxk 100 0) (Ax Tryz.f61) [1,1,1,1,1,0,1,0,0,1,1,0,0,1,1,0,0] (Av 0 (H6 p0_ r52 y62 x_54 x86) (N8 p0_ r52 y62 x_54) z) (H6 p0_ r52 y62 x_54 x86 x):=by
 obtain ⟨w_3,x_55⟩:=x
 refine sr (ck 1 (en (sq (cn H (λ H=>?_) (λ H=>?_)))))
 ·refine sk (qz (sj (λ (x:Af)=>JcR p0_ r52 y62 x_54 x86 x_55 x) (λ (x:Af)=>Ds n x_55 x) z ?_ (λ hFTr_newWriter_J1=>?_)))
  ·intro w_5 H
   exact rz (ck 2 (ae (by cases H;exact og (gP [2,5,6,9,10,56,57,58,65,66] [0,1,2,3,4,5] (po1 (po1 (po1 (po1 (pn1 (nL 2 Ai) w_5.Arcs (pn1 Ac w_5.Columns (Pl.z)))))))))))
  refine bk 5 (sr (ck 2 (en (sr (ck 3 (bx H λ r53 h225 H=>ca false (Mb h225) (ck 6 (en (sr (ck 1 (en (cn H (λ H=>?_) (λ H=>?_)))))))))))))
  ·exact bx H λ x87 h226 H=>rg (tr (so1 (encN:=(nL 2 Ai)) 4 1 h226) (sno (encN:=(nL 2 Ai)) (enc:=Ai) h226 [.own 2 (x87.map Ai)] x87 1 4 0 2)) (ck 10 (sp (AA 4 1 h226) (sp (Ci (encN:=(nL 2 Ai)) (row:=[.osl 7 2 0 (x87.length)]) (k:=4) (sz:=1) (off:=0) (t:=ty 141) (v:=.osl 7 2 0 (x87.length)) h226) (ck 3 (sp (Sw (enc:=Ae) (encK:=Aj) (k:=2) (e1:=λ x=>.int .i64 x) (m:=y62) (l:=[.d (.int .i64 r53.1.Mode),.d (.int .i64 r53.1.Last),.d (.int .u8 r53.1.Need)]) (key:=r53.1) (z:=0) (vz:=[.int .i64 0]) SA false) (ck 2 (bx H λ l33 h227 H=>sp (B6 Ai 7 2 h227) (sp (AA 4 1 h226) (sp (L4 (encN:=(nL 2 Ai)) (row:=[.osl 7 2 0 (x87.length)]) (row':=[.osl 9 2 0 (l33.length)]) (k:=4) (sz:=1) (off:=0) (t:=ty 141) (v:=.osl 9 2 0 (l33.length)) h226) (ae (qN (qs (tr (tr (tr (tr (tr (sni (encN:=(nL 2 Ai)) (xs:=w_3.Arcs) (n:=x_54) (enc:=Ai) [.osl 9 2 0 (l33.length)] l33 1 4 0 9 2) (scl (encN:=(nL 2 Ai)) (xss:=w_3.Arcs) x_54 [.own 2 (l33.map Ai)] 1 4 l33)) (sn 80 4 1 (lsS w_3.Arcs x_54.toNat l33))) (sn 85 4 1 (lsS w_3.Arcs x_54.toNat l33))) (snc 1 5 4 1 (lsS w_3.Arcs x_54.toNat l33))) (gP [2,5,6,9,10,56,57,58,65,66] [0,1,2,3,4,5] (po1 (po1 (po1 (po1 (pn1 (nL 2 Ai) (List.set w_3.Arcs x_54.toNat l33) (pn1 Ac w_3.Columns (Pl.z))))))))) (hFTr_newWriter_J1 ({ T:=w_3.T,S:=w_3.S,States:=w_3.States,Arcs:=List.set w_3.Arcs x_54.toNat l33,Columns:=w_3.Columns,Last:=w_3.Last }:Af) H)))))))))))))
  ·exact sk (qN (qs (gP [2,5,6,9,10,56,57,58,65,66] [0,1,2,3,4,5] (po1 (po1 (po1 (po1 (pn1 (nL 2 Ai) w_3.Arcs (pn1 Ac w_3.Columns (Pl.z)))))))) (hFTr_newWriter_J1 w_3 H)))
 ·exact ex 4 (qx (by cases H;exact xo rfl (gP [2,5,6,56,57,58] [0,1,2,4,5] (po1 (po1 (po1 (pn1 (nL 2 Ai) w_3.Arcs (pn1 Ac w_3.Columns (Pl.z)))))))))
theorem Nj (x:(Af×Int)) (z:((Af×Int)⊕Af)) (H:Ey n p0_ r52 y62 x.1 x.2=some z):WP (cxk 100 0) (Ax Tryz.f61) [1,1,1,1,1,0,1,0,0] (Av 0 (H7 p0_ r52 y62) (N9) z) (H7 p0_ r52 y62 x):=by
 obtain ⟨w_1,x_54⟩:=x
 refine sr (ck 1 (en (sq (cn H (λ H=>?_) (λ H=>?_)))))
 ·exact sk (qz (sq (bk 3 (sr (ck 1 (bx H λ x86 h224 H=>sp (Am Aj h224) (ck 4 (en (sr (ck 2 (sp (AC An p0_.Rules) (ck 1 (en (bk 4 (bx H λ y63 h228 H=>lX Ni h228 (gP [2,5,6,9,10,56,57,58,65,66] [0,1,2,5,3,4] (po1 (po1 (po1 (po1 (pn1 (nL 2 Ai) w_1.Arcs (pn1 Ac w_1.Columns (Pl.z)))))))) rfl λ s hE50=>qH (qN (qs (hE50) (rz (ck 2 (ae (by cases H;exact og (gP [2,5,6,56,57,58] [0,1,2,3,4] (po1 (po1 (po1 (pn1 (nL 2 Ai) y63.Arcs (pn1 Ac y63.Columns (Pl.z))))))))))))))))))))))))))))
 ·exact ex 2 (qx (by cases H;exact xo rfl (gP [5] [1,3,4] (po1 (pn1 (nL 2 Ai) w_1.Arcs (pn1 Ac w_1.Columns (Pl.z)))))))
theorem P6 {z} (H:GP n p0_ p1_=some z):BG Tryz.prog 61 [.agg (AK p0_),.d (.str p1_)] [] 0 (.ptr 0 0) [some (.box (Al z (.osl 1 2 0 (z.Columns.length)))),some (.narr 2 (z.Columns.map Ac))]:=by
 exact fL 100 0 (JcJ p0_ p1_) Tryz.func61 (sr (ck 2 (en (sr (ck 3 (bx H λ r52 h219 H=>ca false (NB h219) (ck 3 (bx H λ l31 h220 H=>sp (Sy 2 (ez:=[.nil,.nil]) h220) (ck 3 (en (sq (rg (tr (tr (Vc (encN:=Ac) (sz:=2) (z:=[.nil,.nil]) (n:=(Au .i64 ((p1_.length:Nat):Int) 1)) 1 (ML h220) (by kernel_rfl) (by kernel_rfl)) (sn 21 1 2 (GM h220))) (snc 2 6 1 2 (GM h220))) (ck 4 (sp (AC Aj r52) (ck 2 (en (sq (sr (ck 4 (sp (AC Aj r52) (ck 1 (en (bk 0 (bx H λ y62 h222 H=>lX Nh h222 (tr (BN 2 5 1 (by kernel_rfl)) (gP [2,5,6,33,34,35] [0,2,3,4,1] (po1 (po1 (po1 (po1 (pn1 Ac l31 (Pl.z)))))))) rfl λ s hE49=>qH (qs (hE49) (sr (ck 5 (sp (AC Aj r52) (bx H λ l32 h223 H=>sp (Sy 1 (ez:=[.nil]) h223) (ck 3 (en (sq (sq (rg (tr (tr (Vc (encN:=(nL 2 Ai)) (sz:=1) (z:=[.nil]) (n:=((r52.length:Nat):Int)) 5 (ML h223) (by kernel_rfl) (by kernel_rfl)) (sn 50 5 1 (GM h223))) (snc 1 5 5 1 (GM h223))) (ck 4 (sp (AC Aj r52) (ck 1 (en (bk 2 (bx H λ y64 h229 H=>lX Nj h229 (gP [2,5,6,56,57,58] [0,1,2,5,4] (po1 (po1 (po1 (pn1 (nL 2 Ai) l32 (pn1 Ac l31 (Pl.z))))))) rfl λ s hE51=>qH (qs (hE51) (sr (ck 2 (en (re (by cases H;exact pL (rl (s':=JcK z) (tr (OS (encN:=(nL 2 Ai)) (encD:=(eL Ai)) (xss:=z.Arcs) (sz:=1) 0 5 1 (by kernel_rfl) (by kernel_rfl) (λ _=>rfl) (λ _=>rfl)) (gP [4] [0,2] (po1 (pn1 Ac z.Columns (Pl.z))))))))))))))))))))))))))))))))))))))))))))))))))))
end
section
variable (p0_:Int) (p1_:Int) (b2_:Af) (o0_:(List (List Bool))) (x_56:Af) (x_57:(List (List Bool)))
def JcS:St:=⟨(0,.d (.int .i64 p0_))::(1,.d (.int .i64 p1_))::(2,.eptr 0 1 0 0)::(3,.ptr 1 0)::[],[some (.narr 1 (o0_.map (nL 1 eB))),some (.box [.ptr 2 0]),some (.box (Al b2_ (.osl 3 2 0 (b2_.Columns.length)))),some (.narr 2 (b2_.Columns.map Ac))]⟩
def W5:St:=⟨[],[some (.narr 1 (x_57.map (nL 1 eB))),some (.box [.ptr 2 0]),some (.box (Al x_56 (.osl 3 2 0 (x_56.Columns.length)))),some (.narr 2 (x_56.Columns.map Ac))]⟩
variable {p0_ p1_ b2_ o0_ x_56 x_57}
theorem Gd {z} (H:CN n p0_ p1_ b2_ o0_=some z):BG Tryz.prog 76 [.d (.int .i64 p0_),.d (.int .i64 p1_),.eptr 0 1 0 0,.ptr 1 0] [some (.narr 1 (o0_.map (nL 1 eB))),some (.box [.ptr 2 0]),some (.box (Al b2_ (.osl 3 2 0 (b2_.Columns.length)))),some (.narr 2 (b2_.Columns.map Ac))] 4 (.tup []) [some (.narr 1 (z.2.map (nL 1 eB))),some (.box [.ptr 2 0]),some (.box (Al z.1 (.osl 3 2 0 (z.1.Columns.length)))),some (.narr 2 (z.1.Columns.map Ac))]:=by
 refine fL 37 4 (JcS p0_ p1_ b2_ o0_) Tryz.func76 (sq (bx H λ x88 h230 H=>rg (tr (so1 (encN:=(nL 1 eB)) 0 1 h230) (sno (encN:=(nL 1 eB)) (enc:=eB) h230 [.own 1 (x88.map eB)] x88 1 0 0 1)) (ck 2 (bx H λ gd5 h231 H=>sp (Vd 0 1 0 5 (j:=0) h231) (sp (Ci (encN:=(nL 1 eB)) (row:=[.osl 4 1 0 (x88.length)]) (k:=0) (sz:=1) (off:=0) (t:=ty 113) (v:=.osl 4 1 0 (x88.length)) h230) (ck 1 (en (sr (ck 2 (bx H λ x89 h232 H=>sp (AA 4 1 h232) (sp (CL eB 4 0 (ty 4) h232) (ck 1 (en (cn H (λ H=>?_) (λ H=>?_)))))))))))))))
 ·exact sr (ck 2 (bx H λ x90 h233 H=>sp (AA 4 1 h233) (bx H λ l34 h234 H=>stA eB 4 0 (ty 4) h233 h234 (en (bx H λ x91 h235 H=>rg (tr (tr (tr (tr (tr (tr (tr (tr (sn 10 4 1 (Bh h234)) (sn 6 4 1 (Bh h234))) (sn 11 4 1 (Bh h234))) (sn 16 4 1 (Bh h234))) (snr (encN:=(nL 1 eB)) (xs:=o0_) (n:=A9 p0_ 5) [.osl 4 1 0 (x88.length)] 1 0 0 4 1 (Bh h234))) (sni (encN:=(nL 1 eB)) (xs:=o0_) (n:=A9 p0_ 5) (enc:=eB) [.osl 4 1 0 (l34.length)] l34 1 0 0 4 1)) (scl (encN:=(nL 1 eB)) (xss:=o0_) (A9 p0_ 5) [.own 1 (l34.map eB)] 1 0 l34)) (so1 (encN:=Ac) 3 2 h235)) (sno (encN:=Ac) (enc:=Ae) h235 [.own 1 (x91.States.map Ae),.own 1 (x91.Costs.map Ae)] x91.States 2 3 0 1)) (ck 10 (sp (AA 3 2 h235) (ck 1 (sp (Ci (encN:=Ac) (row:=[.osl 5 1 0 (x91.States.length),.own 1 (x91.Costs.map Ae)]) (k:=3) (sz:=2) (off:=0) (t:=ty 35) (v:=.osl 5 1 0 (x91.States.length)) h235) (ck 2 (bx H λ l35 h236 H=>sp (B6 Ae 5 1 h236) (sp (AA 3 2 h235) (ck 1 (sp (L4 (encN:=Ac) (row:=[.osl 5 1 0 (x91.States.length),.own 1 (x91.Costs.map Ae)]) (row':=[.osl 7 1 0 (l35.length),.own 1 (x91.Costs.map Ae)]) (k:=3) (sz:=2) (off:=0) (t:=ty 35) (v:=.osl 7 1 0 (l35.length)) h235) (ae (by cases H;exact pL' (rl (s':=W5 ({ T:=b2_.T,S:=b2_.S,States:=b2_.States,Arcs:=b2_.Arcs,Columns:=List.set b2_.Columns p0_.toNat ({ States:=l35,Costs:=x91.Costs }:AE),Last:=b2_.Last }:Af) (List.set o0_ (Int.toNat (A9 p0_ 5)) l34)) (tr (tr (tr (tr (tr (sni (encN:=Ac) (xs:=b2_.Columns) (n:=p0_) (enc:=Ae) [.osl 7 1 0 (l35.length),.own 1 (x91.Costs.map Ae)] l35 2 3 0 7 1) (scl (encN:=Ac) (xss:=b2_.Columns) p0_ [.own 1 (l35.map Ae),.own 1 (x91.Costs.map Ae)] 2 3 ({ States:=l35,Costs:=x91.Costs }:AE))) (sn 22 3 2 (lsS b2_.Columns p0_.toNat ({ States:=l35,Costs:=x91.Costs }:AE)))) (sn 27 3 2 (lsS b2_.Columns p0_.toNat ({ States:=l35,Costs:=x91.Costs }:AE)))) (snc 2 6 3 2 (lsS b2_.Columns p0_.toNat ({ States:=l35,Costs:=x91.Costs }:AE)))) (gP [] [0,1,2,3] (pn1 (nL 1 eB) (List.set o0_ (Int.toNat (A9 p0_ 5)) l34) (po1 (po1 (pn1 Ac (List.set b2_.Columns p0_.toNat ({ States:=l35,Costs:=x91.Costs }:AE)) (Pl.z))))))))))))))))))))))))
 ·exact sk (by cases H;exact pL' (rl (s':=W5 b2_ (List.set o0_ (Int.toNat (A9 p0_ 5)) x88)) (tr (tr (sni (encN:=(nL 1 eB)) (xs:=o0_) (n:=A9 p0_ 5) (enc:=eB) [.osl 4 1 0 (x88.length)] x88 1 0 0 4 1) (scl (encN:=(nL 1 eB)) (xss:=o0_) (A9 p0_ 5) [.own 1 (x88.map eB)] 1 0 x88)) (gP [] [0,1,2,3] (pn1 (nL 1 eB) (List.set o0_ (Int.toNat (A9 p0_ 5)) x88) (po1 (po1 (pn1 Ac b2_.Columns (Pl.z)))))))))
end
section
variable (p1_:Int) (p2_:Int) (b0_:Af) (x_58:Int) (x_59:Bool)
def JcT:St:=⟨(0,.ptr 0 0)::(1,.d (.int .i64 p1_))::(2,.d (.int .i64 p2_))::[],[some (.box (Al b0_ (.osl 1 2 0 (b0_.Columns.length)))),some (.narr 2 (b0_.Columns.map Ac))]⟩
def JcU:St:=⟨(6,.d (.int .i64 x_58))::(7,.d (.bool x_59))::[],[some (.box (Al b0_ (.osl 1 2 0 (b0_.Columns.length)))),some (.narr 2 (b0_.Columns.map Ac))]⟩
variable {p1_ p2_ b0_ x_58 x_59}
theorem D1 {z} (H:Ca n p1_ p2_ b0_=some z):BG Tryz.prog 77 [.ptr 0 0,.d (.int .i64 p1_),.d (.int .i64 p2_)] [some (.box (Al b0_ (.osl 1 2 0 (b0_.Columns.length)))),some (.narr 2 (b0_.Columns.map Ac))] 2 (.tup [.d (.int .i64 z.1),.d (.bool z.2)]) [some (.box (Al b0_ (.osl 1 2 0 (b0_.Columns.length)))),some (.narr 2 (b0_.Columns.map Ac))]:=by
 exact fL 30 2 (JcT p1_ p2_ b0_) Tryz.func77 (sr (ck 2 (en (sr (ck 6 (bx H λ x92 h237 H=>sp (Am An h237) (ck 3 (en (sr (ck 9 (bx H λ s8 h238 H=>sp (Hx h238) (ck 1 (bx H λ r54 h239 H=>ca true (JO h239) (ck 2 (en (re (by cases H;exact pL (rl (s':=JcU b0_ (Au .i64 p1_ ((x92.Print.length:Nat):Int)) r54) (gP [6,7] [0,1] (po1 (pn1 Ac b0_.Columns (Pl.z))))))))))))))))))))))
end
theorem JcV {n:Nat} {o0_:List Int} {z:List Int} (H:Y9 n o0_=some z):BG Tryz.prog 78 [.osl 0 1 0 (o0_.length)] [some (.arr 1 (o0_.map Ae))] 1 (.tup []) [some (.arr 1 (z.map Ae))]:=Z2 Tryz.laysSort ⟨_,_,Tryz.func78,rfl,rfl⟩ H
section
variable (b0_:Af) (x_60:Af) (known_5:(List (List Bool))) (x_61:Int) (known_6:(List (List Bool))) (r55:(Af×(List (List Bool)))) (w_6:Af) (known_7:(List (List Bool))) (x_62:Int) (x_63:Af) (class_1:Int) (w_7:Af) (known_8:(List (List Bool))) (i_7:Int) (w_8:Af) (known_9:(List (List Bool))) (x96:Int) (w_9:Af) (x97:(List A8)) (w_10:Af) (known_10:(List (List Bool))) (x_64:Int) (w_11:Af) (known_11:(List (List Bool))) (w_12:Af) (known_12:(List (List Bool)))
def JcW:St:=⟨(0,.ptr 0 0)::[],[some (.box (Al b0_ (.osl 1 2 0 (b0_.Columns.length)))),some (.narr 2 (b0_.Columns.map Ac))]⟩
def JcX:St:=⟨[],[some (.box (Al x_60 (.osl 1 2 0 (x_60.Columns.length)))),some (.narr 2 (x_60.Columns.map Ac))]⟩
def JcY:St:=⟨(1,.ptr 2 0)::(2,.eptr 3 1 0 0)::(13,.d (.int .i64 x_61))::[],[some (.box (Al b0_ (.osl 1 2 0 (b0_.Columns.length)))),some (.narr 2 (b0_.Columns.map Ac)),some (.box [.ptr 0 0]),some (.narr 1 (known_5.map (nL 1 eB)))]⟩
def JcZ:St:=⟨(1,.ptr 2 0)::(2,.eptr 3 1 0 0)::[],[some (.box (Al b0_ (.osl 1 2 0 (b0_.Columns.length)))),some (.narr 2 (b0_.Columns.map Ac)),some (.box [.ptr 0 0]),some (.narr 1 (known_6.map (nL 1 eB)))]⟩
def Lw:(List (List Bool))->Ex->St->Prop:=xX 2 0 (λ (y:(List (List Bool)))=>JcZ b0_ y)
def Ge:((List (List Bool))×Int)->St:=(λ (x:((List (List Bool))×Int))=>JcY b0_ x.1 x.2)
def Jc0:St:=⟨(1,.ptr 2 0)::(2,.eptr 3 1 0 0)::(4,.clo 76 [.eptr 3 1 0 0,.ptr 2 0])::(32,.d (.int .i64 ((r55.1.Columns.length:Nat):Int)))::(33,.d (.int .i64 x_62))::[],[some (.box (Al w_6 (.osl 1 2 0 (w_6.Columns.length)))),some (.narr 2 (w_6.Columns.map Ac)),some (.box [.ptr 0 0]),some (.narr 1 (known_7.map (nL 1 eB)))]⟩
def Jc1:St:=⟨[],[some (.box (Al x_63 (.osl 1 2 0 (x_63.Columns.length)))),some (.narr 2 (x_63.Columns.map Ac))]⟩
def Jc2:St:=⟨(1,.ptr 2 0)::(2,.eptr 3 1 0 0)::(4,.clo 76 [.eptr 3 1 0 0,.ptr 2 0])::(5,.d (.int .i64 x_62))::(6,.d (.int .i64 class_1))::(32,.d (.int .i64 ((r55.1.Columns.length:Nat):Int)))::(33,.d (.int .i64 x_62))::[],[some (.box (Al w_6 (.osl 1 2 0 (w_6.Columns.length)))),some (.narr 2 (w_6.Columns.map Ac)),some (.box [.ptr 0 0]),some (.narr 1 (known_7.map (nL 1 eB)))]⟩
def Jc3:St:=⟨(1,.ptr 2 0)::(2,.eptr 3 1 0 0)::(4,.clo 76 [.eptr 3 1 0 0,.ptr 2 0])::(5,.d (.int .i64 x_62))::(6,.d (.int .i64 class_1))::(7,.d (.int .i64 i_7))::(32,.d (.int .i64 ((r55.1.Columns.length:Nat):Int)))::(33,.d (.int .i64 x_62))::[],[some (.box (Al w_7 (.osl 1 2 0 (w_7.Columns.length)))),some (.narr 2 (w_7.Columns.map Ac)),some (.box [.ptr 0 0]),some (.narr 1 (known_8.map (nL 1 eB)))]⟩
def Jc4:St:=⟨(1,.ptr 2 0)::(2,.eptr 3 1 0 0)::(4,.clo 76 [.eptr 3 1 0 0,.ptr 2 0])::(5,.d (.int .i64 x_62))::(32,.d (.int .i64 ((r55.1.Columns.length:Nat):Int)))::(33,.d (.int .i64 x_62))::[],[some (.box (Al w_8 (.osl 1 2 0 (w_8.Columns.length)))),some (.narr 2 (w_8.Columns.map Ac)),some (.box [.ptr 0 0]),some (.narr 1 (known_9.map (nL 1 eB)))]⟩
def Jab:St:=⟨(1,.ptr 2 0)::(2,.eptr 3 1 0 0)::(4,.clo 76 [.eptr 3 1 0 0,.ptr 2 0])::(5,.d (.int .i64 x_62))::(6,.d (.int .i64 class_1))::(7,.d (.int .i64 i_7))::(8,.d (.int .i64 x96))::(32,.d (.int .i64 ((r55.1.Columns.length:Nat):Int)))::(33,.d (.int .i64 x_62))::[],[some (.box (Al w_9 (.osl 1 2 0 (w_9.Columns.length)))),some (.narr 2 (w_9.Columns.map Ac)),some (.box [.ptr 0 0]),some (.narr 1 (known_8.map (nL 1 eB)))]⟩
def Jac:St:=⟨(1,.ptr 2 0)::(2,.eptr 3 1 0 0)::(4,.clo 76 [.eptr 3 1 0 0,.ptr 2 0])::(5,.d (.int .i64 x_62))::(6,.d (.int .i64 class_1))::(7,.d (.int .i64 i_7))::(32,.d (.int .i64 ((r55.1.Columns.length:Nat):Int)))::(33,.d (.int .i64 x_62))::(96,.d (.sl (x97.map Ai)))::(97,.d (.int .i64 ((x97.length:Nat):Int)))::(98,.d (.int .i64 x_64))::[],[some (.box (Al w_10 (.osl 1 2 0 (w_10.Columns.length)))),some (.narr 2 (w_10.Columns.map Ac)),some (.box [.ptr 0 0]),some (.narr 1 (known_10.map (nL 1 eB)))]⟩
def Jad:St:=⟨(1,.ptr 2 0)::(2,.eptr 3 1 0 0)::(4,.clo 76 [.eptr 3 1 0 0,.ptr 2 0])::(5,.d (.int .i64 x_62))::(6,.d (.int .i64 class_1))::(7,.d (.int .i64 i_7))::(32,.d (.int .i64 ((r55.1.Columns.length:Nat):Int)))::(33,.d (.int .i64 x_62))::[],[some (.box (Al w_11 (.osl 1 2 0 (w_11.Columns.length)))),some (.narr 2 (w_11.Columns.map Ac)),some (.box [.ptr 0 0]),some (.narr 1 (known_11.map (nL 1 eB)))]⟩
def Jae:St:=⟨(1,.ptr 2 0)::(2,.eptr 3 1 0 0)::(4,.clo 76 [.eptr 3 1 0 0,.ptr 2 0])::(5,.d (.int .i64 x_62))::(6,.d (.int .i64 class_1))::(7,.d (.int .i64 i_7))::(32,.d (.int .i64 ((r55.1.Columns.length:Nat):Int)))::(33,.d (.int .i64 x_62))::(96,.d (.sl (x97.map Ai)))::(97,.d (.int .i64 ((x97.length:Nat):Int)))::(98,.d (.int .i64 x_64))::[],[some (.box (Al w_12 (.osl 1 2 0 (w_12.Columns.length)))),some (.narr 2 (w_12.Columns.map Ac)),some (.box [.ptr 0 0]),some (.narr 1 (known_12.map (nL 1 eB)))]⟩
def Lx:(Af×(List (List Bool)))->Ex->St->Prop:=xX 2 6 (λ (y:(Af×(List (List Bool))))=>Jad r55 x_62 class_1 i_7 y.1 y.2)
def Gf:(Af×(List (List Bool))×Int)->St:=(λ (x:(Af×(List (List Bool))×Int))=>Jac r55 x_62 class_1 i_7 x97 x.1 x.2.1 x.2.2)
def Ly:(Af×(List (List Bool)))->Ex->St->Prop:=xX 2 4 (λ (y:(Af×(List (List Bool))))=>Jc4 r55 x_62 y.1 y.2)
def Gg:(Af×(List (List Bool))×Int)->St:=(λ (x:(Af×(List (List Bool))×Int))=>Jc3 r55 x_62 class_1 x.1 x.2.1 x.2.2)
def Lz:Af->Ex->St->Prop:=xX 2 2 (λ (y:Af)=>Jc1 y)
def Gh:(Af×(List (List Bool))×Int)->St:=(λ (x:(Af×(List (List Bool))×Int))=>Jc0 r55 x.1 x.2.1 x.2.2)
variable {b0_ x_60 known_5 x_61 known_6 r55 w_6 known_7 x_62 x_63 class_1 w_7 known_8 i_7 w_8 known_9 x96 w_9 x97 w_10 known_10 x_64 w_11 known_11 w_12 known_12}
theorem Kt (x:((List (List Bool))×Int)) (z:(((List (List Bool))×Int)⊕(List (List Bool)))) (H:Df n b0_ x.1 x.2=some z):WP (cxk 131 2) (Ax Tryz.f62) [1,1,0,1,0,0] (Av 2 (Ge b0_) (Lw b0_) z) (Ge b0_ x):=by
 obtain ⟨known_5,x_61⟩:=x
 refine sr (ck 1 (en (sq (cn H (λ H=>?_) (λ H=>?_)))))
 ·exact sk (qz (sq (bk 1 (sr (ck 2 (en (bx H λ x93 h240 H=>rg (so1 (encN:=(nL 1 eB)) 3 1 h240) (ck 5 (sp (AC Aj b0_.States) (bx H λ l36 h241 H=>sp (Uo eB 1 h241) (bx H λ gd6 h242 H=>sp (Vd 3 1 0 5 (j:=0) h242) (sp (L4 (encN:=(nL 1 eB)) (row:=[.own 1 (x93.map eB)]) (row':=[.osl 4 1 0 (l36.length)]) (k:=3) (sz:=1) (off:=0) (t:=ty 113) (v:=.osl 4 1 0 (l36.length)) h240) (ae (qN (qz (rg (tr (sni (encN:=(nL 1 eB)) (xs:=known_5) (n:=x_61) (enc:=eB) [.osl 4 1 0 (l36.length)] l36 1 3 0 4 1) (scl (encN:=(nL 1 eB)) (xss:=known_5) x_61 [.own 1 (l36.map eB)] 1 3 l36)) (ck 2 (ae (by cases H;exact og (gP [1,2,13] [0,1,2,3] (po1 (pn1 Ac b0_.Columns (po1 (pn1 (nL 1 eB) (List.set known_5 x_61.toNat l36) (Pl.z)))))))))))))))))))))))))
 ·exact ex 0 (qx (by cases H;exact xo rfl (gP [1,2] [0,1,2,3] (po1 (pn1 Ac b0_.Columns (po1 (pn1 (nL 1 eB) known_5 (Pl.z))))))))
theorem Ku (x:(Af×(List (List Bool))×Int)) (z:((Af×(List (List Bool))×Int)⊕(Af×(List (List Bool))))) (H:Dg n r55 x_62 class_1 i_7 x97 x.1 x.2.1 x.2.2=some z):WP (cxk 131 2) (Ax Tryz.f62) [1,1,1,1,1,1,0,0,1,1,0,0,1,1,1,0,1,0,0,1,0,0,1,1,1,0,0] (Av 2 (Gf r55 x_62 class_1 i_7 x97) (Lx r55 x_62 class_1 i_7) z) (Gf r55 x_62 class_1 i_7 x97 x):=by
 obtain ⟨w_10,known_10,x_64⟩:=x
 refine sr (ck 1 (en (sq (cn H (λ H=>?_) (λ H=>?_)))))
 ·refine sk (qz (sj (λ (x:(Af×(List (List Bool))))=>Jae r55 x_62 class_1 i_7 x97 x_64 x.1 x.2) (λ (x:(Af×(List (List Bool))))=>Cv n x_64 x.1 x.2) z ?_ (λ hFTr_writer_reach_J3=>?_)))
  ·rintro ⟨w_12,known_12⟩ H
   exact rz (ck 2 (ae (by cases H;exact og (gP [1,2,4,5,6,7,32,33,96,97,98] [0,1,2,3] (po1 (pn1 Ac w_12.Columns (po1 (pn1 (nL 1 eB) known_12 (Pl.z)))))))))
  refine bk 7 (sr (bx H λ x98 h249 H=>sp (Am Ai h249) (ck 3 (en (sr (ck 4 (bx H λ r56 h250 H=>ltP [0,1] (D1 h250) (po1 (pn1 Ac w_10.Columns (Pl.z))) (tb (f:=Dy (Cu [0,1] 5 2)) [some (.box (Al w_10 (.osl 1 2 0 (w_10.Columns.length)))),some (.narr 2 (w_10.Columns.map Ac)),some (.box [.ptr 0 0]),some (.narr 1 (known_10.map (nL 1 eB))),some (.box [.d (.int .i64 x98.Rule),.d (.int .i64 x98.To)])] (po1 (pn1 Ac w_10.Columns (po1 (po1 (po1 (Pl.z)))))) (ck 5 (en (sr (ck 1 (en (cn H (λ H=>?_) (λ H=>?_)))))))))))))))
  ·exact rz (ck 4 (bx H λ r57 h251 H=>xcP (xok _ _) [3,2,0,1] (Gd h251) (pn1 (nL 1 eB) known_10 (po1 (po1 (pn1 Ac w_10.Columns (Pl.z))))) (tb (f:=Dy (Cu [3,2,0,1] 5 4)) [some (.box (Al r57.1 (.osl 1 2 0 (r57.1.Columns.length)))),some (.narr 2 (r57.1.Columns.map Ac)),some (.box [.ptr 0 0]),some (.narr 1 (r57.2.map (nL 1 eB))),some (.box [.d (.int .i64 x98.Rule),.d (.int .i64 x98.To)])] (po1 (pn1 Ac r57.1.Columns (po1 (pn1 (nL 1 eB) r57.2 (po1 (Pl.z)))))) (ae (qN (qs (gP [1,2,4,5,6,7,32,33,96,97,98] [0,1,2,3] (po1 (pn1 Ac r57.1.Columns (po1 (pn1 (nL 1 eB) r57.2 (Pl.z)))))) (hFTr_writer_reach_J3 (r57.1,r57.2) H)))))))
  ·exact sk (qN (qs (gP [1,2,4,5,6,7,32,33,96,97,98] [0,1,2,3] (po1 (pn1 Ac w_10.Columns (po1 (pn1 (nL 1 eB) known_10 (Pl.z)))))) (hFTr_writer_reach_J3 (w_10,known_10) H)))
 ·exact ex 6 (qx (by cases H;exact xo rfl (gP [1,2,4,5,6,7,32,33] [0,1,2,3] (po1 (pn1 Ac w_10.Columns (po1 (pn1 (nL 1 eB) known_10 (Pl.z))))))))
theorem Kv (x:(Af×(List (List Bool))×Int)) (z:((Af×(List (List Bool))×Int)⊕(Af×(List (List Bool))))) (H:Dh n r55 x_62 class_1 x.1 x.2.1 x.2.2=some z):WP (cxk 131 2) (Ax Tryz.f62) [1,1,1,1,1,1,0,0,1,1,0,0,1,1,1,0,1,0,0] (Av 2 (Gg r55 x_62 class_1) (Ly r55 x_62) z) (Gg r55 x_62 class_1 x):=by
 obtain ⟨w_7,known_8,i_7⟩:=x
 refine sq (sq (bx H λ x94 h245 H=>rg (tr (so1 (encN:=Ac) 1 2 h245) (sno (encN:=Ac) (enc:=Ae) h245 [.own 1 (x94.States.map Ae),.own 1 (x94.Costs.map Ae)] x94.States 2 1 0 1)) (ck 6 (sp (AA 1 2 h245) (ck 1 (sp (Ci (encN:=Ac) (row:=[.osl 4 1 0 (x94.States.length),.own 1 (x94.Costs.map Ae)]) (k:=1) (sz:=2) (off:=0) (t:=ty 35) (v:=.osl 4 1 0 (x94.States.length)) h245) (ck 2 (en (cn H (λ H=>?_) (λ H=>?_))))))))))
 ·refine sk (qz (sq (bk 5 (sq (bx H λ x95 h246 H=>rg (tr (tr (tr (tr (tr (sni (encN:=Ac) (xs:=w_7.Columns) (n:=x_62) (enc:=Ae) [.osl 4 1 0 (x94.States.length),.own 1 (x94.Costs.map Ae)] x94.States 2 1 0 4 1) (scl (encN:=Ac) (xss:=w_7.Columns) x_62 [.own 1 (x94.States.map Ae),.own 1 (x94.Costs.map Ae)] 2 1 x94)) (sn 54 1 2 (lsS w_7.Columns x_62.toNat x94))) (snc 0 6 1 2 (lsS w_7.Columns x_62.toNat x94))) (so1 (encN:=Ac) 1 2 h246)) (sno (encN:=Ac) (enc:=Ae) h246 [.own 1 (x95.States.map Ae),.own 1 (x95.Costs.map Ae)] x95.States 2 1 0 1)) (ck 5 (sp (AA 1 2 h246) (ck 1 (sp (Ci (encN:=Ac) (row:=[.osl 5 1 0 (x95.States.length),.own 1 (x95.Costs.map Ae)]) (k:=1) (sz:=2) (off:=0) (t:=ty 35) (v:=.osl 5 1 0 (x95.States.length)) h246) (ck 1 (bx H λ x96 h247 H=>sp (AA 5 1 h247) (sp (CL Ae 5 0 (ty 3) h247) (ck 1 (en (sj (λ (x:Af)=>Jab r55 x_62 class_1 known_8 i_7 x96 x) (λ (x:Af)=>Cw n r55 x_62 class_1 known_8 i_7 x96 x) z ?_ (λ hFTr_writer_reach_J2=>?_))))))))))))))))
  ·intro w_9 H
   exact sr (ck 5 (bx H λ x97 h248 H=>sp (Am (eL Ai) h248) (ck 1 (sp (AC Ai x97) (ck 1 (en (bk 6 (bx H λ y66 h252 H=>lX Ku h252 (gP [1,2,4,5,6,7,32,33,96,97,98] [0,1,2,3] (po1 (pn1 Ac w_9.Columns (po1 (pn1 (nL 1 eB) known_8 (Pl.z)))))) rfl λ s hE53=>qH (qN (qs (hE53) (rz (ck 3 (ae (by cases H;exact og (gP [1,2,4,5,6,7,32,33] [0,1,2,3] (po1 (pn1 Ac y66.1.Columns (po1 (pn1 (nL 1 eB) y66.2 (Pl.z))))))))))))))))))))
  refine sq (rg (tr (tr (tr (tr (sni (encN:=Ac) (xs:=List.set w_7.Columns x_62.toNat x94) (n:=x_62) (enc:=Ae) [.osl 5 1 0 (x95.States.length),.own 1 (x95.Costs.map Ae)] x95.States 2 1 0 5 1) (scl (encN:=Ac) (xss:=List.set w_7.Columns x_62.toNat x94) x_62 [.own 1 (x95.States.map Ae),.own 1 (x95.Costs.map Ae)] 2 1 x95)) (sn 54 1 2 (lsS (List.set w_7.Columns x_62.toNat x94) x_62.toNat x95))) (sn 66 1 2 (lsS (List.set w_7.Columns x_62.toNat x94) x_62.toNat x95))) (snc 0 6 1 2 (lsS (List.set w_7.Columns x_62.toNat x94) x_62.toNat x95))) (ck 5 (bx H λ x99 h253 H=>sp (Am Aj h253) (ck 3 (bx H λ gd7 h254 H=>so (HV h254) (ck 2 (en (cn H (λ H=>?_) (λ H=>?_)))))))))
  ·exact rz (ck 5 (ae (qs (gP [1,2,4,5,6,7,8,32,33] [0,1,2,3] (po1 (pn1 Ac (List.set (List.set w_7.Columns x_62.toNat x94) x_62.toNat x95) (po1 (pn1 (nL 1 eB) known_8 (Pl.z)))))) (hFTr_writer_reach_J2 ({ T:=w_7.T,S:=w_7.S,States:=w_7.States,Arcs:=w_7.Arcs,Columns:=List.set (List.set w_7.Columns x_62.toNat x94) x_62.toNat x95,Last:=x_62 }:Af) H))))
  ·exact sk (qs (gP [1,2,4,5,6,7,8,32,33] [0,1,2,3] (po1 (pn1 Ac (List.set (List.set w_7.Columns x_62.toNat x94) x_62.toNat x95) (po1 (pn1 (nL 1 eB) known_8 (Pl.z)))))) (hFTr_writer_reach_J2 ({ T:=w_7.T,S:=w_7.S,States:=w_7.States,Arcs:=w_7.Arcs,Columns:=List.set (List.set w_7.Columns x_62.toNat x94) x_62.toNat x95,Last:=w_7.Last }:Af) H))
 ·exact ex 4 (qx (by cases H;exact xo rfl (tr (tr (tr (tr (sni (encN:=Ac) (xs:=w_7.Columns) (n:=x_62) (enc:=Ae) [.osl 4 1 0 (x94.States.length),.own 1 (x94.Costs.map Ae)] x94.States 2 1 0 4 1) (scl (encN:=Ac) (xss:=w_7.Columns) x_62 [.own 1 (x94.States.map Ae),.own 1 (x94.Costs.map Ae)] 2 1 x94)) (sn 54 1 2 (lsS w_7.Columns x_62.toNat x94))) (snc 0 6 1 2 (lsS w_7.Columns x_62.toNat x94))) (gP [1,2,4,5,32,33] [0,1,2,3] (po1 (pn1 Ac (List.set w_7.Columns x_62.toNat x94) (po1 (pn1 (nL 1 eB) known_8 (Pl.z)))))))))
theorem Kw (x:(Af×(List (List Bool))×Int)) (z:((Af×(List (List Bool))×Int)⊕Af)) (H:Di n r55 x.1 x.2.1 x.2.2=some z):WP (cxk 131 2) (Ax Tryz.f62) [1,1,1,1,1,1,0,0] (Av 2 (Gh r55) (Lz) z) (Gh r55 x):=by
 obtain ⟨w_6,known_7,x_62⟩:=x
 refine sr (ck 1 (en (sq (cn H (λ H=>?_) (λ H=>?_)))))
 ·refine sk (qz (sq (bk 3 (sr (ck 2 (en (sr (ck 1 (en (sj (λ (x:Int)=>Jc2 r55 w_6 known_7 x_62 x) (λ (x:Int)=>Cy n r55 w_6 known_7 x_62 x) z ?_ (λ hFTr_writer_reach_J1=>?_)))))))))))
  ·intro class_1 H
   exact sq (sr (ck 1 (en (bk 4 (bx H λ y67 h255 H=>lX Kv h255 (gP [1,2,4,5,6,7,32,33] [0,1,2,3] (po1 (pn1 Ac w_6.Columns (po1 (pn1 (nL 1 eB) known_7 (Pl.z)))))) rfl λ s hE54=>qH (qs (hE54) (sq (bx H λ x100 h256 H=>rg (tr (so1 (encN:=Ac) 1 2 h256) (sno (encN:=Ac) (enc:=Ae) h256 [.own 1 (x100.States.map Ae),.own 1 (x100.Costs.map Ae)] x100.States 2 1 0 1)) (ck 5 (sp (AA 1 2 h256) (ck 1 (sp (Ci (encN:=Ac) (row:=[.osl 4 1 0 (x100.States.length),.own 1 (x100.Costs.map Ae)]) (k:=1) (sz:=2) (off:=0) (t:=ty 35) (v:=.osl 4 1 0 (x100.States.length)) h256) (bx H λ r58 h257 H=>lt [4] (JcV h257) (bx H λ _ h258 H=>en (bx H λ x101 h259 H=>rg (tr (tr (tr (tr (tr (tr (tr (sn 124 4 1 (Up h258)) (snr (encN:=Ac) (xs:=y67.1.Columns) (n:=x_62) [.osl 4 1 0 (x100.States.length),.own 1 (x100.Costs.map Ae)] 2 1 0 4 1 (Up h258))) (sni (encN:=Ac) (xs:=y67.1.Columns) (n:=x_62) (enc:=Ae) [.osl 4 1 0 (r58.length),.own 1 (x100.Costs.map Ae)] r58 2 1 0 4 1)) (scl (encN:=Ac) (xss:=y67.1.Columns) x_62 [.own 1 (r58.map Ae),.own 1 (x100.Costs.map Ae)] 2 1 ({ States:=r58,Costs:=x100.Costs }:AE))) (sn 120 1 2 (lsS y67.1.Columns x_62.toNat ({ States:=r58,Costs:=x100.Costs }:AE)))) (snc 0 6 1 2 (lsS y67.1.Columns x_62.toNat ({ States:=r58,Costs:=x100.Costs }:AE)))) (so1 (encN:=(nL 1 eB)) 3 1 h259)) (sno (encN:=(nL 1 eB)) (enc:=eB) h259 [.own 1 (x101.map eB)] x101 1 3 0 1)) (ck 2 (bx H λ gd8 h260 H=>sp (Vd 3 1 0 5 (j:=0) h260) (sp (Ci (encN:=(nL 1 eB)) (row:=[.osl 5 1 0 (x101.length)]) (k:=3) (sz:=1) (off:=0) (t:=ty 113) (v:=.osl 5 1 0 (x101.length)) h259) (xz (xok _ _) (xs:=x101) eB (false:Bool) 5 1 (ae (qN (qz (rg (tr (tr (tr (sn 129 5 1 (lrS (x101.length) (false:Bool))) (snr (encN:=(nL 1 eB)) (xs:=y67.2) (n:=A9 x_62 5) [.osl 5 1 0 (x101.length)] 1 3 0 5 1 (lrS (x101.length) (false:Bool)))) (sni (encN:=(nL 1 eB)) (xs:=y67.2) (n:=A9 x_62 5) (enc:=eB) [.osl 5 1 0 (List.length (List.replicate (x101.length) (false:Bool)))] (List.replicate (x101.length) (false:Bool)) 1 3 0 5 1)) (scl (encN:=(nL 1 eB)) (xss:=y67.2) (A9 x_62 5) [.own 1 (List.map eB (List.replicate (x101.length) (false:Bool)))] 1 3 (List.replicate (x101.length) (false:Bool)))) (ck 2 (ae (by cases H;exact og (gP [1,2,4,32,33] [0,1,2,3] (po1 (pn1 Ac (List.set y67.1.Columns x_62.toNat ({ States:=r58,Costs:=x100.Costs }:AE)) (po1 (pn1 (nL 1 eB) (List.set y67.2 (Int.toNat (A9 x_62 5)) (List.replicate (x101.length) (false:Bool))) (Pl.z))))))))))))))))))))))))))))))))
  refine sr (ck 7 (en (cn H (λ H=>?_) (λ H=>?_))))
  ·exact rz (ck 5 (bx H λ b5 h261 H=>sp (Hw h261) (bx H λ r59 h262 H=>ca false (HH h262) (ck 1 (ae (qs (gP [1,2,4,5,6,32,33] [0,1,2,3] (po1 (pn1 Ac w_6.Columns (po1 (pn1 (nL 1 eB) known_7 (Pl.z)))))) (hFTr_writer_reach_J1 r59 H)))))))
  ·exact sk (qs (gP [1,2,4,5,6,32,33] [0,1,2,3] (po1 (pn1 Ac w_6.Columns (po1 (pn1 (nL 1 eB) known_7 (Pl.z)))))) (hFTr_writer_reach_J1 0 H))
 ·exact ex 2 (qx (by cases H;exact xo rfl (gP [] [0,1] (po1 (pn1 Ac w_6.Columns (Pl.z))))))
theorem Nk {z} (H:Ez n b0_=some z):BG Tryz.prog 62 [.ptr 0 0] [some (.box (Al b0_ (.osl 1 2 0 (b0_.Columns.length)))),some (.narr 2 (b0_.Columns.map Ac))] 2 (.tup []) [some (.box (Al z (.osl 1 2 0 (z.Columns.length)))),some (.narr 2 (z.Columns.map Ac))]:=by
 exact fL 131 2 (JcW b0_) Tryz.func62 (sr (ck 1 (en (sr (ck 1 (en (sq (sq (rg (tr (tr (JeT 3 [.nil,.nil,.nil,.nil,.nil] (by kernel_rfl)) (Jbz (sz:=1) (es:=[[.nil],[.nil],[.nil],[.nil],[.nil]]) 3 (List.map (nL 1 eB) ([[],[],[],[],[]]:List (List Bool))) (by kernel_rfl) (by kernel_rfl))) (JjN 2 3 1 (by kernel_rfl))) (ck 1 (en (bk 0 (bx H λ y65 h243 H=>lX Kt h243 (gP [1,2,13] [0,1,2,3] (po1 (pn1 Ac b0_.Columns (po1 (pn1 (nL 1 eB) ([[],[],[],[],[]]:List (List Bool)) (Pl.z)))))) rfl λ s hE52=>qH (qs (hE52) (sr (xm (xok _ _) (ck 1 (en (sr (ck 1 (bx H λ r55 h244 H=>xcP (xok _ _) [3,2,0,1] (Gd h244) (pn1 (nL 1 eB) y65 (po1 (po1 (pn1 Ac b0_.Columns (Pl.z))))) (tb (f:=Dy (Cu [3,2,0,1] 4 4)) [some (.box (Al r55.1 (.osl 1 2 0 (r55.1.Columns.length)))),some (.narr 2 (r55.1.Columns.map Ac)),some (.box [.ptr 0 0]),some (.narr 1 (r55.2.map (nL 1 eB)))] (po1 (pn1 Ac r55.1.Columns (po1 (pn1 (nL 1 eB) r55.2 (Pl.z))))) (en (sr (ck 6 (en (bk 2 (bx H λ y68 h263 H=>lX Kw h263 (gP [1,2,4,32,33] [0,1,2,3] (po1 (pn1 Ac r55.1.Columns (po1 (pn1 (nL 1 eB) r55.2 (Pl.z)))))) rfl λ s hE55=>qH (by cases H;exact pL' (rl (s':=JcX z) (tr (hE55) (gP [] [0,1] (po1 (pn1 Ac z.Columns (Pl.z)))))))))))))))))))))))))))))))))))
end
section
variable (p0_:Int) (p1_:Bool) (b1_0_:Int) (b2_0_:Int) (b3_:Af) (x_65:Af) (x_66:Bool) (x104:(List A8)) (x_67:Af) (better_7:Bool) (x_68:Int) (x_69:Af) (better_8:Bool) (x_70:Af) (better_9:Bool)
def Jc5:St:=⟨(0,.d (.int .i64 p0_))::(1,.d (.bool p1_))::(2,.ptr 0 0)::(3,.ptr 1 0)::(4,.ptr 2 0)::[],[some (.box [.ptr 3 0]),some (.box [.eptr 4 2 (0+Int.toNat b1_0_) 0]),some (.box [.d (.int .i64 b2_0_)]),some (.box (Al b3_ (.osl 4 2 0 (b3_.Columns.length)))),some (.narr 2 (b3_.Columns.map Ac))]⟩
def Jc6:St:=⟨(7,.d (.bool x_66))::[],[some (.box [.ptr 3 0]),some (.box [.eptr 4 2 (0+Int.toNat b1_0_) 0]),some (.box [.d (.int .i64 b2_0_)]),some (.box (Al x_65 (.osl 4 2 0 (x_65.Columns.length)))),some (.narr 2 (x_65.Columns.map Ac))]⟩
def Jc7:St:=⟨(0,.d (.int .i64 p0_))::(1,.d (.bool p1_))::(2,.ptr 0 0)::(3,.ptr 1 0)::(4,.ptr 2 0)::(8,.d (.bool better_7))::(27,.d (.sl (x104.map Ai)))::(28,.d (.int .i64 ((x104.length:Nat):Int)))::(29,.d (.int .i64 x_68))::[],[some (.box [.ptr 3 0]),some (.box [.eptr 4 2 (0+Int.toNat b1_0_) 0]),some (.box [.d (.int .i64 b2_0_)]),some (.box (Al x_67 (.osl 4 2 0 (x_67.Columns.length)))),some (.narr 2 (x_67.Columns.map Ac))]⟩
def Jc8:St:=⟨(8,.d (.bool better_8))::[],[some (.box [.ptr 3 0]),some (.box [.eptr 4 2 (0+Int.toNat b1_0_) 0]),some (.box [.d (.int .i64 b2_0_)]),some (.box (Al x_69 (.osl 4 2 0 (x_69.Columns.length)))),some (.narr 2 (x_69.Columns.map Ac))]⟩
def Jc9:St:=⟨(0,.d (.int .i64 p0_))::(1,.d (.bool p1_))::(2,.ptr 0 0)::(3,.ptr 1 0)::(4,.ptr 2 0)::(8,.d (.bool better_9))::(27,.d (.sl (x104.map Ai)))::(28,.d (.int .i64 ((x104.length:Nat):Int)))::(29,.d (.int .i64 x_68))::[],[some (.box [.ptr 3 0]),some (.box [.eptr 4 2 (0+Int.toNat b1_0_) 0]),some (.box [.d (.int .i64 b2_0_)]),some (.box (Al x_70 (.osl 4 2 0 (x_70.Columns.length)))),some (.narr 2 (x_70.Columns.map Ac))]⟩
def JR:(Af×Bool)->Ex->St->Prop:=xX 5 0 (λ (y:(Af×Bool))=>Jc8 b1_0_ b2_0_ y.1 y.2)
def FJ:(Af×Bool×Int)->St:=(λ (x:(Af×Bool×Int))=>Jc7 p0_ p1_ b1_0_ b2_0_ x104 x.1 x.2.1 x.2.2)
variable {p0_ p1_ b1_0_ b2_0_ b3_ x_65 x_66 x104 x_67 better_7 x_68 x_69 better_8 x_70 better_9}
theorem Jl (x:(Af×Bool×Int)) (z:((Af×Bool×Int)⊕(Af×Bool))) (H:CQ n p0_ p1_ b1_0_ b2_0_ x104 x.1 x.2.1 x.2.2=some z):WP (cxk 104 5) (Ax Tryz.f79) [1,1,0,1,0,0] (Av 5 (FJ p0_ p1_ b1_0_ b2_0_ x104) (JR b1_0_ b2_0_) z) (FJ p0_ p1_ b1_0_ b2_0_ x104 x):=by
 obtain ⟨x_67,better_7,x_68⟩:=x
 refine sr (ck 1 (en (sq (cn H (λ H=>?_) (λ H=>?_)))))
 ·refine sk (qz (sj (λ (x:(Af×Bool))=>Jc9 p0_ p1_ b1_0_ b2_0_ x104 x_68 x.1 x.2) (λ (x:(Af×Bool))=>BK n x_68 x.1 x.2) z ?_ (λ hFTr_writer_price_1_J1=>?_)))
  ·rintro ⟨x_70,better_9⟩ H
   exact rz (ck 2 (ae (by cases H;exact og (gP [0,1,2,3,4,8,27,28,29] [0,1,2,3,4] (po1 (po1 (po1 (po1 (pn1 Ac x_70.Columns (Pl.z))))))))))
  refine bk 1 (sr (bx H λ x105 h267 H=>sp (Am Ai h267) (ck 3 (en (sr (ck 4 (bx H λ r60 h268 H=>ltP [3,4] (D1 h268) (po1 (pn1 Ac x_67.Columns (Pl.z))) (tb (f:=Dy (Cu [3,4] 6 2)) [some (.box [.ptr 3 0]),some (.box [.eptr 4 2 (0+Int.toNat b1_0_) 0]),some (.box [.d (.int .i64 b2_0_)]),some (.box (Al x_67 (.osl 4 2 0 (x_67.Columns.length)))),some (.narr 2 (x_67.Columns.map Ac)),some (.box [.d (.int .i64 x105.Rule),.d (.int .i64 x105.To)])] (po1 (po1 (po1 (po1 (pn1 Ac x_67.Columns (po1 (Pl.z))))))) (ck 5 (en (sq (sr (ck 5 (gc 1 (!(!r60.2)) (ck 1 (gc 1 (!(!r60.2)) (pO (en (cn H (λ H=>?_) (λ H=>?_))))))))))))))))))))
  ·exact ex 1 (qx (qH (qs (gP [0,1,2,3,4,8,27,28,29] [0,1,2,3,4] (po1 (po1 (po1 (po1 (pn1 Ac x_67.Columns (Pl.z))))))) (hFTr_writer_price_1_J1 (x_67,better_7) H))))
  ·refine sk (qz (sr (ck 5 (bx H λ x106 h269 H=>sp (AA 4 2 h269) (ck 2 (bx H λ r61 h270 H=>cb (ks:=[4]) (obl:=[(0+Int.toNat r60.1+1,List.length (x_67.Columns.map Ac)),(Ot (x_67.Columns.map Ac),0)]) false (leK (JgI (encN:=Ac) h269) (leK (Je2 λ _=>rfl) (leZ))) (Dz (JbH (encN:=Ac) (encD:=L8) h269 λ _=>rfl) (Dz rfl rfl)) (Fj h270) (Or.inr trivial) rfl (ck 1 (en (sr (ck 8 (bx H λ x107 h271 H=>sp (Am An h271) (ck 2 (sp (AC eU8 x107.Cells) (ck 2 (en (sq (bx H λ x108 h272 H=>rg (tr (so1 (encN:=Ac) 4 2 h272) (sno (encN:=Ac) (enc:=Ae) h272 [.own 1 (x108.States.map Ae),.own 1 (x108.Costs.map Ae)] x108.Costs 2 4 1 1)) (ck 4 (gc 2 (decide (r61>=0)) (sE (g:=decide (r61>=0)) (λ hg=>Ci (encN:=Ac) (row:=[.own 1 (x108.States.map Ae),.osl 6 1 0 (x108.Costs.length)]) (k:=4) (sz:=2) (off:=1) (t:=ty 35) (v:=.osl 6 1 0 (x108.Costs.length)) h272) (ck 1 (bx H λ x109 h273 H=>sE (λ hg=>AA 6 1 (BA h273 hg)) (sE (g:=decide (r61>=0)) (λ hg=>CL Ae 6 0 (ty 3) (BA h273 hg)) (gc 2 (decide (r61>=0)) (ck 2 (gc 2 ((decide (r61>=0))&&!(decide (x109<0))) (sE (g:=((decide (r61>=0))&&!(decide (x109<0)))) (λ hg=>Ci (encN:=Ac) (row:=[.own 1 (x108.States.map Ae),.osl 6 1 0 (x108.Costs.length)]) (k:=4) (sz:=2) (off:=1) (t:=ty 35) (v:=.osl 6 1 0 (x108.Costs.length)) h272) (ck 1 (bx H λ x110 h274 H=>sE (λ hg=>AA 6 1 (BA h274 hg)) (sE (g:=((decide (r61>=0))&&!(decide (x109<0)))) (λ hg=>CL Ae 6 0 (ty 3) (BA h274 hg)) (gc 1 ((decide (r61>=0))&&!(decide (x109<0))) (pG (g:=decide (r61>=0)) (v:=.d (.bool ((decide (x109<0))||(decide (Au .i64 r61 ((x107.Cells.length:Nat):Int)<x110))))) (λ hg=>Gz (c:=.gv (decide (r61>=0)) (.d (.bool (decide (x109<0))))) (a:=.d (.bool true)) (b:=.gv ((decide (r61>=0))&&!(decide (x109<0))) (.d (.bool (decide (Au .i64 r61 ((x107.Cells.length:Nat):Int)<x110))))) rfl rfl rfl ((λ hh=>hh) hg) trivial (λ ht=>by rw [(λ hh=>hh) hg,ht];rfl)) (pA (en (cn H (λ H=>?_) (λ H=>?_))))))))))))))))))))))))))))))))))))
   ·exact sq (bx H λ x111 h275 H=>rg (tr (tr (tr (tr (tr (sni (encN:=Ac) (xs:=x_67.Columns) (n:=b1_0_) (enc:=Ae) [.own 1 (x108.States.map Ae),.osl 6 1 0 (x108.Costs.length)] x108.Costs 2 4 1 6 1) (scl (encN:=Ac) (xss:=x_67.Columns) b1_0_ [.own 1 (x108.States.map Ae),.own 1 (x108.Costs.map Ae)] 2 4 x108)) (sn 53 4 2 (lsS x_67.Columns b1_0_.toNat x108))) (snc 3 6 4 2 (lsS x_67.Columns b1_0_.toNat x108))) (so1 (encN:=Ac) 4 2 h275)) (sno (encN:=Ac) (enc:=Ae) h275 [.own 1 (x111.States.map Ae),.own 1 (x111.Costs.map Ae)] x111.Costs 2 4 1 1)) (ck 3 (sp (Ci (encN:=Ac) (row:=[.own 1 (x111.States.map Ae),.osl 7 1 0 (x111.Costs.length)]) (k:=4) (sz:=2) (off:=1) (t:=ty 35) (v:=.osl 7 1 0 (x111.Costs.length)) h275) (ck 2 (bx H λ x112 h276 H=>sp (AA 7 1 h276) (bx H λ l37 h277 H=>stA Ae 7 0 (ty 3) h276 h277 (en (rg (tr (tr (tr (tr (tr (sn 98 7 1 (Bh h277)) (snr (encN:=Ac) (xs:=List.set x_67.Columns b1_0_.toNat x108) (n:=b1_0_) [.own 1 (x111.States.map Ae),.osl 7 1 0 (x111.Costs.length)] 2 4 1 7 1 (Bh h277))) (sni (encN:=Ac) (xs:=List.set x_67.Columns b1_0_.toNat x108) (n:=b1_0_) (enc:=Ae) [.own 1 (x111.States.map Ae),.osl 7 1 0 (l37.length)] l37 2 4 1 7 1)) (scl (encN:=Ac) (xss:=List.set x_67.Columns b1_0_.toNat x108) b1_0_ [.own 1 (x111.States.map Ae),.own 1 (l37.map Ae)] 2 4 ({ States:=x111.States,Costs:=l37 }:AE))) (sn 53 4 2 (lsS (List.set x_67.Columns b1_0_.toNat x108) b1_0_.toNat ({ States:=x111.States,Costs:=l37 }:AE)))) (snc 3 6 4 2 (lsS (List.set x_67.Columns b1_0_.toNat x108) b1_0_.toNat ({ States:=x111.States,Costs:=l37 }:AE)))) (ck 1 (ae (qN (qs (gP [0,1,2,3,4,8,27,28,29] [0,1,2,3,4] (po1 (po1 (po1 (po1 (pn1 Ac (List.set (List.set x_67.Columns b1_0_.toNat x108) b1_0_.toNat ({ States:=x111.States,Costs:=l37 }:AE)) (Pl.z))))))) (hFTr_writer_price_1_J1 (({ T:=x_67.T,S:=x_67.S,States:=x_67.States,Arcs:=x_67.Arcs,Columns:=List.set (List.set x_67.Columns b1_0_.toNat x108) b1_0_.toNat ({ States:=x111.States,Costs:=l37 }:AE),Last:=x_67.Last }:Af),true) H)))))))))))))
   ·exact sk (qN (qs (tr (tr (tr (tr (sni (encN:=Ac) (xs:=x_67.Columns) (n:=b1_0_) (enc:=Ae) [.own 1 (x108.States.map Ae),.osl 6 1 0 (x108.Costs.length)] x108.Costs 2 4 1 6 1) (scl (encN:=Ac) (xss:=x_67.Columns) b1_0_ [.own 1 (x108.States.map Ae),.own 1 (x108.Costs.map Ae)] 2 4 x108)) (sn 53 4 2 (lsS x_67.Columns b1_0_.toNat x108))) (snc 3 6 4 2 (lsS x_67.Columns b1_0_.toNat x108))) (gP [0,1,2,3,4,8,27,28,29] [0,1,2,3,4] (po1 (po1 (po1 (po1 (pn1 Ac (List.set x_67.Columns b1_0_.toNat x108) (Pl.z)))))))) (hFTr_writer_price_1_J1 (({ T:=x_67.T,S:=x_67.S,States:=x_67.States,Arcs:=x_67.Arcs,Columns:=List.set x_67.Columns b1_0_.toNat x108,Last:=x_67.Last }:Af),better_7) H)))
 ·exact ex 0 (qx (by cases H;exact xo rfl (gP [8] [0,1,2,3,4] (po1 (po1 (po1 (po1 (pn1 Ac x_67.Columns (Pl.z)))))))))
theorem Gi {z} (H:CO n p0_ p1_ b1_0_ b2_0_ b3_=some z):BG Tryz.prog 79 [.d (.int .i64 p0_),.d (.bool p1_),.ptr 0 0,.ptr 1 0,.ptr 2 0] [some (.box [.ptr 3 0]),some (.box [.eptr 4 2 (0+Int.toNat b1_0_) 0]),some (.box [.d (.int .i64 b2_0_)]),some (.box (Al b3_ (.osl 4 2 0 (b3_.Columns.length)))),some (.narr 2 (b3_.Columns.map Ac))] 5 (.d (.bool z.2)) [some (.box [.ptr 3 0]),some (.box [.eptr 4 2 (0+Int.toNat b1_0_) 0]),some (.box [.d (.int .i64 b2_0_)]),some (.box (Al z.1 (.osl 4 2 0 (z.1.Columns.length)))),some (.narr 2 (z.1.Columns.map Ac))]:=by
 exact fL 104 5 (Jc5 p0_ p1_ b1_0_ b2_0_ b3_) Tryz.func79 (sr (ck 1 (en (sr (ck 1 (en (sq (sq (bx H λ x102 h264 H=>rg (tr (so1 (encN:=Ac) 4 2 h264) (sno (encN:=Ac) (enc:=Ae) h264 [.own 1 (x102.States.map Ae),.own 1 (x102.Costs.map Ae)] x102.States 2 4 0 1)) (ck 7 (sp (Ci (encN:=Ac) (row:=[.osl 5 1 0 (x102.States.length),.own 1 (x102.Costs.map Ae)]) (k:=4) (sz:=2) (off:=0) (t:=ty 35) (v:=.osl 5 1 0 (x102.States.length)) h264) (ck 1 (bx H λ x103 h265 H=>sp (AA 5 1 h265) (sp (CL Ae 5 0 (ty 3) h265) (bx H λ x104 h266 H=>sp (Am (eL Ai) h266) (ck 1 (sp (AC Ai x104) (ck 1 (en (bk 0 (bx H λ y69 h278 H=>lX Jl h278 (tr (tr (tr (sni (encN:=Ac) (xs:=b3_.Columns) (n:=b1_0_) (enc:=Ae) [.osl 5 1 0 (x102.States.length),.own 1 (x102.Costs.map Ae)] x102.States 2 4 0 5 1) (scl (encN:=Ac) (xss:=b3_.Columns) b1_0_ [.own 1 (x102.States.map Ae),.own 1 (x102.Costs.map Ae)] 2 4 x102)) (snc 3 6 4 2 (lsS b3_.Columns b1_0_.toNat x102))) (gP [0,1,2,3,4,8,27,28,29] [0,1,2,3,4] (po1 (po1 (po1 (po1 (pn1 Ac (List.set b3_.Columns b1_0_.toNat x102) (Pl.z)))))))) rfl λ s hE56=>qH (qs (hE56) (sr (ck 2 (en (re (by cases H;exact pL (rl (s':=Jc6 b1_0_ b2_0_ y69.1 y69.2) (gP [7] [0,1,2,3,4] (po1 (po1 (po1 (po1 (pn1 Ac y69.1.Columns (Pl.z)))))))))))))))))))))))))))))))))))
end
section
variable (b0_:Af) (x_71:Af) (w_13:Af) (place_3:Int) (x_72:Af) (x114:AE) (l38:(List Int)) (x115:AE) (r_1:(List Int)) (x_73:Int) (w_14:Af) (r_2:(List Int)) (x121:AE) (w_15:Af) (x_74:Int) (w_16:Af) (w_17:Af) (w_18:Af) (x122:AE) (w_19:Af) (better_10:Bool) (x_75:Int) (w_20:Af) (better_11:Bool)
def Jda:St:=⟨(0,.ptr 0 0)::[],[some (.box (Al b0_ (.osl 1 2 0 (b0_.Columns.length)))),some (.narr 2 (b0_.Columns.map Ac))]⟩
def Jdb:St:=⟨[],[some (.box (Al x_71 (.osl 1 2 0 (x_71.Columns.length)))),some (.narr 2 (x_71.Columns.map Ac))]⟩
def Jdc:St:=⟨(1,.ptr 2 0)::(2,.ptr 3 0)::[],[some (.box (Al w_13 (.osl 1 2 0 (w_13.Columns.length)))),some (.narr 2 (w_13.Columns.map Ac)),some (.box [.ptr 0 0]),some (.box [.d (.int .i64 place_3)])]⟩
def Jdd:St:=⟨[],[some (.box (Al x_72 (.osl 1 2 0 (x_72.Columns.length)))),some (.narr 2 (x_72.Columns.map Ac))]⟩
def Jde:St:=⟨(1,.ptr 2 0)::(2,.ptr 3 0)::(3,.ptr 4 0)::(37,.osl 5 1 0 (x115.States.length))::(38,.d (.int .i64 ((x115.States.length:Nat):Int)))::(39,.d (.int .i64 x_73))::[],[some (.box (Al w_13 (.osl 1 2 0 (List.length (List.set w_13.Columns place_3.toNat ({ States:=x114.States,Costs:=l38 }:AE)))))),some (.narr 2 (List.set (List.map Ac (List.set w_13.Columns place_3.toNat ({ States:=x114.States,Costs:=l38 }:AE))) place_3.toNat [.osl 5 1 0 (x115.States.length),.own 1 (r_1.map Ae)])),some (.box [.ptr 0 0]),some (.box [.d (.int .i64 place_3)]),some (.box [.eptr 1 2 (0+Int.toNat place_3) 0]),some (.arr 1 (x115.States.map Ae))]⟩
def Jdf:St:=⟨(1,.ptr 2 0)::(2,.ptr 3 0)::(3,.ptr 4 0)::[],[some (.box (Al w_14 (.osl 1 2 0 (w_14.Columns.length)))),some (.narr 2 (w_14.Columns.map Ac)),some (.box [.ptr 0 0]),some (.box [.d (.int .i64 place_3)]),some (.box [.eptr 1 2 (0+Int.toNat place_3) 0])]⟩
def Jdg:St:=⟨(1,.ptr 2 0)::(2,.ptr 3 0)::(3,.ptr 4 0)::(37,.osl 5 1 0 (x115.States.length))::(38,.d (.int .i64 ((x115.States.length:Nat):Int)))::(39,.d (.int .i64 x_73))::[],[some (.box (Al w_13 (.osl 1 2 0 (List.length (List.set w_13.Columns place_3.toNat ({ States:=x114.States,Costs:=l38 }:AE)))))),some (.narr 2 (List.set (List.map Ac (List.set w_13.Columns place_3.toNat ({ States:=x114.States,Costs:=l38 }:AE))) place_3.toNat [.osl 5 1 0 (x115.States.length),.own 1 (r_2.map Ae)])),some (.box [.ptr 0 0]),some (.box [.d (.int .i64 place_3)]),some (.box [.eptr 1 2 (0+Int.toNat place_3) 0]),some (.arr 1 (x115.States.map Ae))]⟩
def LA:Af->Ex->St->Prop:=xX 2 2 (λ (y:Af)=>Jdf place_3 y)
def Gj:((List Int)×Int)->St:=(λ (x:((List Int)×Int))=>Jde w_13 place_3 x114 l38 x115 x.1 x.2)
def Jdh:St:=⟨(1,.ptr 2 0)::(2,.ptr 3 0)::(3,.ptr 4 0)::(6,.clo 79 [.ptr 2 0,.ptr 4 0,.ptr 3 0])::(83,.d (.int .i64 ((x121.States.length:Nat):Int)))::(84,.d (.int .i64 x_74))::[],[some (.box (Al w_15 (.osl 1 2 0 (w_15.Columns.length)))),some (.narr 2 (w_15.Columns.map Ac)),some (.box [.ptr 0 0]),some (.box [.d (.int .i64 place_3)]),some (.box [.eptr 1 2 (0+Int.toNat place_3) 0])]⟩
def Jdi:St:=⟨(1,.ptr 2 0)::(2,.ptr 3 0)::(3,.ptr 4 0)::(6,.clo 79 [.ptr 2 0,.ptr 4 0,.ptr 3 0])::[],[some (.box (Al w_16 (.osl 1 2 0 (w_16.Columns.length)))),some (.narr 2 (w_16.Columns.map Ac)),some (.box [.ptr 0 0]),some (.box [.d (.int .i64 place_3)]),some (.box [.eptr 1 2 (0+Int.toNat place_3) 0])]⟩
def LB:Af->Ex->St->Prop:=xX 2 4 (λ (y:Af)=>Jdi place_3 y)
def Gk:(Af×Int)->St:=(λ (x:(Af×Int))=>Jdh place_3 x121 x.1 x.2)
def Jaf:St:=⟨(1,.ptr 2 0)::(2,.ptr 3 0)::(3,.ptr 4 0)::(6,.clo 79 [.ptr 2 0,.ptr 4 0,.ptr 3 0])::[],[some (.box (Al w_17 (.osl 1 2 0 (w_17.Columns.length)))),some (.narr 2 (w_17.Columns.map Ac)),some (.box [.ptr 0 0]),some (.box [.d (.int .i64 place_3)]),some (.box [.eptr 1 2 (0+Int.toNat place_3) 0])]⟩
def Jag:St:=⟨(1,.ptr 2 0)::(2,.ptr 3 0)::[],[some (.box (Al w_18 (.osl 1 2 0 (w_18.Columns.length)))),some (.narr 2 (w_18.Columns.map Ac)),some (.box [.ptr 0 0]),some (.box [.d (.int .i64 place_3)])]⟩
def Jah:St:=⟨(1,.ptr 2 0)::(2,.ptr 3 0)::(3,.ptr 4 0)::(6,.clo 79 [.ptr 2 0,.ptr 4 0,.ptr 3 0])::(8,.d (.bool better_10))::(95,.d (.int .i64 ((x122.States.length:Nat):Int)))::(96,.d (.int .i64 x_75))::[],[some (.box (Al w_19 (.osl 1 2 0 (w_19.Columns.length)))),some (.narr 2 (w_19.Columns.map Ac)),some (.box [.ptr 0 0]),some (.box [.d (.int .i64 place_3)]),some (.box [.eptr 1 2 (0+Int.toNat place_3) 0])]⟩
def Jai:St:=⟨(1,.ptr 2 0)::(2,.ptr 3 0)::(3,.ptr 4 0)::(6,.clo 79 [.ptr 2 0,.ptr 4 0,.ptr 3 0])::(8,.d (.bool better_11))::[],[some (.box (Al w_20 (.osl 1 2 0 (w_20.Columns.length)))),some (.narr 2 (w_20.Columns.map Ac)),some (.box [.ptr 0 0]),some (.box [.d (.int .i64 place_3)]),some (.box [.eptr 1 2 (0+Int.toNat place_3) 0])]⟩
def LC:(Af×Bool)->Ex->St->Prop:=xX 2 8 (λ (y:(Af×Bool))=>Jai place_3 y.1 y.2)
def Gl:(Af×Bool×Int)->St:=(λ (x:(Af×Bool×Int))=>Jah place_3 x122 x.1 x.2.1 x.2.2)
def LD:Af->Ex->St->Prop:=xX 2 6 (λ (y:Af)=>Jag place_3 y)
def Gm:Af->St:=(λ (x:Af)=>Jaf place_3 x)
def LE:Af->Ex->St->Prop:=xX 2 0 (λ (y:Af)=>Jdd y)
def Gn:(Af×Int)->St:=(λ (x:(Af×Int))=>Jdc x.1 x.2)
variable {b0_ x_71 w_13 place_3 x_72 x114 l38 x115 r_1 x_73 w_14 r_2 x121 w_15 x_74 w_16 w_17 w_18 x122 w_19 better_10 x_75 w_20 better_11}
theorem Kx (x:((List Int)×Int)) (z:(((List Int)×Int)⊕Af)) (H:Dj n w_13 place_3 x114 l38 x115 x.1 x.2=some z):WP (cxk 109 2) (Ax Tryz.f63) [1,1,0,0,1,0,0,0,1,1,0,1,0,0] (Av 2 (Gj w_13 place_3 x114 l38 x115) (LA place_3) z) (Gj w_13 place_3 x114 l38 x115 x):=by
 obtain ⟨r_1,x_73⟩:=x
 refine sr (ck 1 (en (sq (cn H (λ H=>?_) (λ H=>?_)))))
 ·refine sk (qz (sj (λ (x:(List Int))=>Jdg w_13 place_3 x114 l38 x115 x_73 x) (λ (x:(List Int))=>Cz n x_73 x) z ?_ (λ hFTr_writer_price_J1=>?_)))
  ·intro r_2 H
   exact rz (ck 2 (ae (by cases H;exact og (gP [1,2,3,37,38,39] [0,1,2,3,4,5] (po1 (Pl.n _ (nrH (n:=Int.toNat place_3) (row:=[.osl 5 1 0 (x115.States.length),.own 1 (r_2.map Ae)]) (row':=[.osl 5 1 0 (x115.States.length),.own 1 (r_2.map Ae)]) (nrM (encN:=Ac) (xss:=List.set w_13.Columns place_3.toNat ({ States:=x114.States,Costs:=l38 }:AE)) λ _=>rfl) rfl) (po1 (po1 (po1 (po1 (Pl.z)))))))))))
  refine bk 3 (sr (ck 1 (bx H λ x116 h283 H=>sp (AA 5 1 h283) (sp (CL Ae 5 0 (ty 3) h283) (ck 2 (en (sq (bx H λ x117 h284 H=>rg (sno (encN:=Ac) (enc:=Ae) h284 [.osl 5 1 0 (x115.States.length),.own 1 (r_1.map Ae)] r_1 2 1 1 1) (ck 3 (sp (Ci (encN:=Ac) (row:=[.osl 5 1 0 (x115.States.length),.osl 6 1 0 (r_1.length)]) (k:=1) (sz:=2) (off:=1) (t:=ty 35) (v:=.osl 6 1 0 (r_1.length)) h284) (ck 1 (bx H λ x118 h285 H=>sp (AA 6 1 h285) (bx H λ l39 h286 H=>stA Ae 6 0 (ty 3) h285 h286 (en (sq (rg (tr (tr (sn 47 6 1 (Bh h286)) (snr (encN:=Ac) (xs:=List.set w_13.Columns place_3.toNat ({ States:=x114.States,Costs:=l38 }:AE)) (n:=place_3) [.osl 5 1 0 (x115.States.length),.osl 6 1 0 (r_1.length)] 2 1 1 6 1 (Bh h286))) (sni (encN:=Ac) (xs:=List.set w_13.Columns place_3.toNat ({ States:=x114.States,Costs:=l38 }:AE)) (n:=place_3) (enc:=Ae) [.osl 5 1 0 (x115.States.length),.osl 6 1 0 (l39.length)] l39 2 1 1 6 1)) (ck 9 (gc 3 (place_3==((w_13.S.length:Nat):Int)) (ck 1 (gc 3 (place_3==((w_13.S.length:Nat):Int)) (ck 1 (bx H λ x119 h287 H=>sE (λ hg=>Am Aj (BA h287 hg)) (gc 1 (place_3==((w_13.S.length:Nat):Int)) (bx H λ r62 h288 H=>cG false (leZ) rfl (λ hg=>Mc (BA h288 hg)) (Or.inl rfl) (BS (λ hh=>hh) (BS (λ hh=>hh) (D0))) rfl (pA (en (cn H (λ H=>?_) (λ H=>?_))))))))))))))))))))))))))))
  ·exact rg (sno (encN:=Ac) (enc:=Ae) h284 [.osl 5 1 0 (x115.States.length),.own 1 (l39.map Ae)] l39 2 1 1 1) (ck 3 (sp (Ci (encN:=Ac) (row:=[.osl 5 1 0 (x115.States.length),.osl 7 1 0 (l39.length)]) (k:=1) (sz:=2) (off:=1) (t:=ty 35) (v:=.osl 7 1 0 (l39.length)) h284) (ck 1 (bx H λ x120 h289 H=>sp (AA 7 1 h289) (bx H λ l40 h290 H=>stA Ae 7 0 (ty 3) h289 h290 (ae (qN (qs (tr (tr (tr (sn 74 7 1 (Bh h290)) (snr (encN:=Ac) (xs:=List.set w_13.Columns place_3.toNat ({ States:=x114.States,Costs:=l38 }:AE)) (n:=place_3) [.osl 5 1 0 (x115.States.length),.osl 7 1 0 (l39.length)] 2 1 1 7 1 (Bh h290))) (sni (encN:=Ac) (xs:=List.set w_13.Columns place_3.toNat ({ States:=x114.States,Costs:=l38 }:AE)) (n:=place_3) (enc:=Ae) [.osl 5 1 0 (x115.States.length),.osl 7 1 0 (l40.length)] l40 2 1 1 7 1)) (gP [1,2,3,37,38,39] [0,1,2,3,4,5] (po1 (Pl.n _ (nrH (n:=Int.toNat place_3) (row:=[.osl 5 1 0 (x115.States.length),.own 1 (l40.map Ae)]) (row':=[.osl 5 1 0 (x115.States.length),.own 1 (l40.map Ae)]) (nrM (encN:=Ac) (xss:=List.set w_13.Columns place_3.toNat ({ States:=x114.States,Costs:=l38 }:AE)) λ _=>rfl) rfl) (po1 (po1 (po1 (po1 (Pl.z))))))))) (hFTr_writer_price_J1 l40 H)))))))))
  ·exact sk (qN (qs (gP [1,2,3,37,38,39] [0,1,2,3,4,5] (po1 (Pl.n _ (nrH (n:=Int.toNat place_3) (row:=[.osl 5 1 0 (x115.States.length),.own 1 (l39.map Ae)]) (row':=[.osl 5 1 0 (x115.States.length),.own 1 (l39.map Ae)]) (nrM (encN:=Ac) (xss:=List.set w_13.Columns place_3.toNat ({ States:=x114.States,Costs:=l38 }:AE)) λ _=>rfl) rfl) (po1 (po1 (po1 (po1 (Pl.z)))))))) (hFTr_writer_price_J1 l39 H)))
 ·exact ex 2 (qx (by cases H;exact xo rfl (tr (tr (tr (sni (encN:=Ac) (xs:=List.set w_13.Columns place_3.toNat ({ States:=x114.States,Costs:=l38 }:AE)) (n:=place_3) (enc:=Ae) [.osl 5 1 0 (x115.States.length),.own 1 (r_1.map Ae)] x115.States 2 1 0 5 1) (scl (encN:=Ac) (xss:=List.set w_13.Columns place_3.toNat ({ States:=x114.States,Costs:=l38 }:AE)) place_3 [.own 1 (x115.States.map Ae),.own 1 (r_1.map Ae)] 2 1 ({ States:=x115.States,Costs:=r_1 }:AE))) (snc 0 6 1 2 (lsS (List.set w_13.Columns place_3.toNat ({ States:=x114.States,Costs:=l38 }:AE)) place_3.toNat ({ States:=x115.States,Costs:=r_1 }:AE)))) (gP [1,2,3] [0,1,2,3,4] (po1 (pn1 Ac (List.set (List.set w_13.Columns place_3.toNat ({ States:=x114.States,Costs:=l38 }:AE)) place_3.toNat ({ States:=x115.States,Costs:=r_1 }:AE)) (po1 (po1 (po1 (Pl.z))))))))))
theorem Ky (x:(Af×Int)) (z:((Af×Int)⊕Af)) (H:Dk n place_3 x121 x.1 x.2=some z):WP (cxk 109 2) (Ax Tryz.f63) [1,1,0,0,1,0,0,0,1,1,1,1,0,1,0,0] (Av 2 (Gk place_3 x121) (LB place_3) z) (Gk place_3 x121 x):=by
 obtain ⟨w_15,x_74⟩:=x
 refine sr (ck 1 (en (sq (cn H (λ H=>?_) (λ H=>?_)))))
 ·exact sk (qz (sq (bk 5 (sr (ck 2 (en (rz (ck 2 (bx H λ r63 h293 H=>xcP (xok _ _) [2,4,3,0,1] (Gi h293) (po1 (po1 (po1 (po1 (pn1 Ac w_15.Columns (Pl.z)))))) (tb (f:=Dy (Cu [2,4,3,0,1] 5 5)) [some (.box (Al r63.1 (.osl 1 2 0 (r63.1.Columns.length)))),some (.narr 2 (r63.1.Columns.map Ac)),some (.box [.ptr 0 0]),some (.box [.d (.int .i64 place_3)]),some (.box [.eptr 1 2 (0+Int.toNat place_3) 0])] (po1 (pn1 Ac r63.1.Columns (po1 (po1 (po1 (Pl.z)))))) (ae (qN (qz (rz (ck 2 (ae (by cases H;exact og (gP [1,2,3,6,83,84] [0,1,2,3,4] (po1 (pn1 Ac r63.1.Columns (po1 (po1 (po1 (Pl.z))))))))))))))))))))))))
 ·exact ex 4 (qx (by cases H;exact xo rfl (gP [1,2,3,6] [0,1,2,3,4] (po1 (pn1 Ac w_15.Columns (po1 (po1 (po1 (Pl.z)))))))))
theorem Kz (x:(Af×Bool×Int)) (z:((Af×Bool×Int)⊕(Af×Bool))) (H:Dl n place_3 x122 x.1 x.2.1 x.2.2=some z):WP (cxk 109 2) (Ax Tryz.f63) [1,1,0,0,1,0,0,0,1,1,1,1,1,1,0,0,0,1,0,1,0,0] (Av 2 (Gl place_3 x122) (LC place_3) z) (Gl place_3 x122 x):=by
 obtain ⟨w_19,better_10,x_75⟩:=x
 refine sr (ck 1 (en (sq (cn H (λ H=>?_) (λ H=>?_)))))
 ·exact sk (qz (sq (bk 9 (sr (ck 2 (en (rz (ck 2 (bx H λ r64 h296 H=>xcP (xok _ _) [2,4,3,0,1] (Gi h296) (po1 (po1 (po1 (po1 (pn1 Ac w_19.Columns (Pl.z)))))) (tb (f:=Dy (Cu [2,4,3,0,1] 5 5)) [some (.box (Al r64.1 (.osl 1 2 0 (r64.1.Columns.length)))),some (.narr 2 (r64.1.Columns.map Ac)),some (.box [.ptr 0 0]),some (.box [.d (.int .i64 place_3)]),some (.box [.eptr 1 2 (0+Int.toNat place_3) 0])] (po1 (pn1 Ac r64.1.Columns (po1 (po1 (po1 (Pl.z)))))) (ck 2 (pO (ck 1 (ae (qN (qz (rz (ck 2 (ae (by cases H;exact og (gP [1,2,3,6,8,95,96] [0,1,2,3,4] (po1 (pn1 Ac r64.1.Columns (po1 (po1 (po1 (Pl.z)))))))))))))))))))))))))))
 ·exact ex 8 (qx (by cases H;exact xo rfl (gP [1,2,3,6,8] [0,1,2,3,4] (po1 (pn1 Ac w_19.Columns (po1 (po1 (po1 (Pl.z)))))))))
theorem KA (x:Af) (z:(Af⊕Af)) (H:Dm n place_3 x=some z):WP (cxk 109 2) (Ax Tryz.f63) [1,1,0,0,1,0,0,0,1,1,1,1,1,1,0,0] (Av 2 (Gm place_3) (LD place_3) z) (Gm place_3 x):=by
 revert H
 generalize x=w_17
 intro H
 refine bk 7 (sr (ck 1 (en (sq (sq (bx H λ x122 h295 H=>rg (tr (so1 (encN:=Ac) 1 2 h295) (sno (encN:=Ac) (enc:=Ae) h295 [.own 1 (x122.States.map Ae),.own 1 (x122.Costs.map Ae)] x122.States 2 1 0 1)) (ck 3 (sp (Ci (encN:=Ac) (row:=[.osl 5 1 0 (x122.States.length),.own 1 (x122.Costs.map Ae)]) (k:=1) (sz:=2) (off:=0) (t:=ty 35) (v:=.osl 5 1 0 (x122.States.length)) h295) (ck 2 (en (bk 8 (bx H λ y72 h297 H=>lX Kz h297 (tr (tr (tr (sni (encN:=Ac) (xs:=w_17.Columns) (n:=place_3) (enc:=Ae) [.osl 5 1 0 (x122.States.length),.own 1 (x122.Costs.map Ae)] x122.States 2 1 0 5 1) (scl (encN:=Ac) (xss:=w_17.Columns) place_3 [.own 1 (x122.States.map Ae),.own 1 (x122.Costs.map Ae)] 2 1 x122)) (snc 0 6 1 2 (lsS w_17.Columns place_3.toNat x122))) (gP [1,2,3,6,8,95,96] [0,1,2,3,4] (po1 (pn1 Ac (List.set w_17.Columns place_3.toNat x122) (po1 (po1 (po1 (Pl.z)))))))) rfl λ s hE59=>qH (qs (hE59) (sr (ck 2 (en (cn H (λ H=>?_) (λ H=>?_))))))))))))))))))
 ·exact ex 6 (qX rfl (by cases H;exact xo rfl (gP [1,2] [0,1,2,3] (po1 (pn1 Ac y72.1.Columns (po1 (po1 (Pl.z))))))))
 ·exact sk (qN (by cases H;exact og (gP [1,2,3,6] [0,1,2,3,4] (po1 (pn1 Ac y72.1.Columns (po1 (po1 (po1 (Pl.z)))))))))
theorem KB (x:(Af×Int)) (z:((Af×Int)⊕Af)) (H:Dn n x.1 x.2=some z):WP (cxk 109 2) (Ax Tryz.f63) [1,1,0,0] (Av 2 (Gn) (LE) z) (Gn x):=by
 obtain ⟨w_13,place_3⟩:=x
 refine sq (sr (ck 2 (en (cn H (λ H=>?_) (λ H=>?_)))))
 ·exact sk (qz (sq (bk 1 (sc (sr (ck 5 (bx H λ x113 h279 H=>sp (AA 1 2 h279) (ck 2 (en (sq (bx H λ x114 h280 H=>rg (tr (so1 (encN:=Ac) 1 2 h280) (sno (encN:=Ac) (enc:=Ae) h280 [.own 1 (x114.States.map Ae),.own 1 (x114.Costs.map Ae)] x114.States 2 1 0 1)) (ck 4 (sp (Ci (encN:=Ac) (row:=[.osl 5 1 0 (x114.States.length),.own 1 (x114.Costs.map Ae)]) (k:=1) (sz:=2) (off:=0) (t:=ty 35) (v:=.osl 5 1 0 (x114.States.length)) h280) (ck 1 (bx H λ l38 h281 H=>sp (Uo Ae 1 h281) (ck 2 (sp (L4 (encN:=Ac) (row:=[.osl 5 1 0 (x114.States.length),.own 1 (x114.Costs.map Ae)]) (row':=[.osl 5 1 0 (x114.States.length),.osl 6 1 0 (l38.length)]) (k:=1) (sz:=2) (off:=1) (t:=ty 35) (v:=.osl 6 1 0 (l38.length)) h280) (en (sq (sq (bx H λ x115 h282 H=>rg (tr (tr (tr (tr (tr (tr (sni (encN:=Ac) (xs:=w_13.Columns) (n:=place_3) (enc:=Ae) [.osl 5 1 0 (x114.States.length),.osl 6 1 0 (l38.length)] x114.States 2 1 0 5 1) (sni (encN:=Ac) (xs:=w_13.Columns) (n:=place_3) (enc:=Ae) [.own 1 (x114.States.map Ae),.osl 6 1 0 (l38.length)] l38 2 1 1 6 1)) (scl (encN:=Ac) (xss:=w_13.Columns) place_3 [.own 1 (x114.States.map Ae),.own 1 (l38.map Ae)] 2 1 ({ States:=x114.States,Costs:=l38 }:AE))) (sn 22 1 2 (lsS w_13.Columns place_3.toNat ({ States:=x114.States,Costs:=l38 }:AE)))) (snc 0 6 1 2 (lsS w_13.Columns place_3.toNat ({ States:=x114.States,Costs:=l38 }:AE)))) (so1 (encN:=Ac) 1 2 h282)) (sno (encN:=Ac) (enc:=Ae) h282 [.own 1 (x115.States.map Ae),.own 1 (x115.Costs.map Ae)] x115.States 2 1 0 1)) (ck 3 (sp (Ci (encN:=Ac) (row:=[.osl 7 1 0 (x115.States.length),.own 1 (x115.Costs.map Ae)]) (k:=1) (sz:=2) (off:=0) (t:=ty 35) (v:=.osl 7 1 0 (x115.States.length)) h282) (ck 2 (en (bk 2 (bx H λ y70 h291 H=>lX Kx h291 (gP [1,2,3,37,38,39] [0,1,2,3,4,7] (po1 (Pl.n _ (nrH (n:=Int.toNat place_3) (row:=[.osl 7 1 0 (x115.States.length),.own 1 (x115.Costs.map Ae)]) (row':=[.osl 5 1 0 (x115.States.length),.own 1 (x115.Costs.map Ae)]) (nrM (encN:=Ac) (xss:=List.set w_13.Columns place_3.toNat ({ States:=x114.States,Costs:=l38 }:AE)) λ _=>rfl) rfl) (po1 (po1 (po1 (po1 (Pl.z)))))))) rfl λ s hE57=>qH (qs (hE57) (sr (xm (xok _ _) (ck 1 (en (sq (sq (bx H λ x121 h292 H=>rg (tr (so1 (encN:=Ac) 1 2 h292) (sno (encN:=Ac) (enc:=Ae) h292 [.own 1 (x121.States.map Ae),.own 1 (x121.Costs.map Ae)] x121.States 2 1 0 1)) (ck 3 (sp (Ci (encN:=Ac) (row:=[.osl 5 1 0 (x121.States.length),.own 1 (x121.Costs.map Ae)]) (k:=1) (sz:=2) (off:=0) (t:=ty 35) (v:=.osl 5 1 0 (x121.States.length)) h292) (ck 2 (en (bk 4 (bx H λ y71 h294 H=>lX Ky h294 (tr (tr (tr (sni (encN:=Ac) (xs:=y70.Columns) (n:=place_3) (enc:=Ae) [.osl 5 1 0 (x121.States.length),.own 1 (x121.Costs.map Ae)] x121.States 2 1 0 5 1) (scl (encN:=Ac) (xss:=y70.Columns) place_3 [.own 1 (x121.States.map Ae),.own 1 (x121.Costs.map Ae)] 2 1 x121)) (snc 0 6 1 2 (lsS y70.Columns place_3.toNat x121))) (gP [1,2,3,6,83,84] [0,1,2,3,4] (po1 (pn1 Ac (List.set y70.Columns place_3.toNat x121) (po1 (po1 (po1 (Pl.z)))))))) rfl λ s hE58=>qH (qs (hE58) (sq (lbl (qz (bk 6 (bx H λ y73 h298 H=>lX KA h298 (gP [1,2,3,6] [0,1,2,3,4] (po1 (pn1 Ac y71.Columns (po1 (po1 (po1 (Pl.z))))))) rfl λ s hE60=>qH (qN (qs (hE60) (sq (sr (ck 1 (en (rz (ck 2 (en (rz (ck 3 (ae (by cases H;exact og (gP [1,2] [0,1,2,4] (po1 (pn1 Ac y73.Columns (po1 (po1 (Pl.z))))))))))))))))))))))))))))))))))))))))))))))))))))))))))))))))))
 ·exact ex 0 (qx (by cases H;exact xo rfl (gP [] [0,1] (po1 (pn1 Ac w_13.Columns (Pl.z))))))
theorem Nl {z} (H:EA n b0_=some z):BG Tryz.prog 63 [.ptr 0 0] [some (.box (Al b0_ (.osl 1 2 0 (b0_.Columns.length)))),some (.narr 2 (b0_.Columns.map Ac))] 2 (.tup []) [some (.box (Al z (.osl 1 2 0 (z.Columns.length)))),some (.narr 2 (z.Columns.map Ac))]:=by
 exact fL 109 2 (Jda b0_) Tryz.func63 (sr (ck 1 (en (sr (ck 7 (en (bk 0 (bx H λ y74 h299 H=>lX KB h299 (gP [1,2] [0,1,2,3] (po1 (pn1 Ac b0_.Columns (po1 (po1 (Pl.z)))))) rfl λ s hE61=>qH (by cases H;exact pL' (rl (s':=Jdb z) (tr (hE61) (gP [] [0,1] (po1 (pn1 Ac z.Columns (Pl.z)))))))))))))))
end
section
variable (b0_:Af) (x_76:AT) (result_12:AT) (place_4:Int) (state_3:Int) (cost_3:Int) (result_13:AT) (x124:(List A8)) (x_77:Int) (result_14:AT) (place_5:Int) (state_4:Int) (cost_4:Int)
def Jdj:St:=⟨(0,.ptr 0 0)::[],[some (.box (Al b0_ (.osl 1 2 0 (b0_.Columns.length)))),some (.narr 2 (b0_.Columns.map Ac))]⟩
def Jdk:St:=⟨(2,.ptr 2 0)::[],[some (.box (Al b0_ (.osl 1 2 0 (b0_.Columns.length)))),some (.narr 2 (b0_.Columns.map Ac)),some (.box [.osl 3 1 0 (x_76.Cells.length),.osl 4 1 0 (x_76.Path.length)]),some (.arr 1 (x_76.Cells.map eU8)),some (.arr 1 (x_76.Path.map Ae))]⟩
def Jdl:St:=⟨(0,.ptr 0 0)::(2,.ptr 2 0)::(3,.ptr 3 0)::(4,.d (.int .i64 place_4))::(5,.d (.int .i64 state_3))::(6,.d (.int .i64 cost_3))::[],[some (.box (Al b0_ (.osl 1 2 0 (b0_.Columns.length)))),some (.narr 2 (b0_.Columns.map Ac)),some (.box [.osl 4 1 0 (List.length ([]:List Int)),.osl 5 1 0 (List.length ([]:List Int))]),some (.box [.osl 6 1 0 (result_12.Cells.length),.osl 7 1 0 (result_12.Path.length)]),some (.arr 1 (List.map eU8 ([]:List Int))),some (.arr 1 (List.map Ae ([]:List Int))),some (.arr 1 (result_12.Cells.map eU8)),some (.arr 1 (result_12.Path.map Ae))]⟩
def Jdm:St:=⟨(2,.ptr 2 0)::(3,.ptr 3 0)::[],[some (.box (Al b0_ (.osl 1 2 0 (b0_.Columns.length)))),some (.narr 2 (b0_.Columns.map Ac)),some (.box [.osl 4 1 0 (List.length ([]:List Int)),.osl 5 1 0 (List.length ([]:List Int))]),some (.box [.osl 6 1 0 (result_13.Cells.length),.osl 7 1 0 (result_13.Path.length)]),some (.arr 1 (List.map eU8 ([]:List Int))),some (.arr 1 (List.map Ae ([]:List Int))),some (.arr 1 (result_13.Cells.map eU8)),some (.arr 1 (result_13.Path.map Ae))]⟩
def Jdn:St:=⟨(0,.ptr 0 0)::(2,.ptr 2 0)::(3,.ptr 3 0)::(4,.d (.int .i64 place_4))::(6,.d (.int .i64 cost_3))::(27,.d (.sl (x124.map Ai)))::(28,.d (.int .i64 ((x124.length:Nat):Int)))::(29,.d (.int .i64 x_77))::[],[some (.box (Al b0_ (.osl 1 2 0 (b0_.Columns.length)))),some (.narr 2 (b0_.Columns.map Ac)),some (.box [.osl 4 1 0 (List.length ([]:List Int)),.osl 5 1 0 (List.length ([]:List Int))]),some (.box [.osl 6 1 0 (result_12.Cells.length),.osl 7 1 0 (result_12.Path.length)]),some (.arr 1 (List.map eU8 ([]:List Int))),some (.arr 1 (List.map Ae ([]:List Int))),some (.arr 1 (result_12.Cells.map eU8)),some (.arr 1 (result_12.Path.map Ae))]⟩
def Jdo:St:=⟨(0,.ptr 0 0)::(2,.ptr 2 0)::(3,.ptr 3 0)::(4,.d (.int .i64 place_5))::(5,.d (.int .i64 state_4))::(6,.d (.int .i64 cost_4))::[],[some (.box (Al b0_ (.osl 1 2 0 (b0_.Columns.length)))),some (.narr 2 (b0_.Columns.map Ac)),some (.box [.osl 4 1 0 (List.length ([]:List Int)),.osl 5 1 0 (List.length ([]:List Int))]),some (.box [.osl 6 1 0 (result_14.Cells.length),.osl 7 1 0 (result_14.Path.length)]),some (.arr 1 (List.map eU8 ([]:List Int))),some (.arr 1 (List.map Ae ([]:List Int))),some (.arr 1 (result_14.Cells.map eU8)),some (.arr 1 (result_14.Path.map Ae))]⟩
def Jdp:St:=⟨(2,.ptr 2 0)::(3,.ptr 3 0)::[],[some (.box (Al b0_ (.osl 1 2 0 (b0_.Columns.length)))),some (.narr 2 (b0_.Columns.map Ac)),some (.box [.osl 4 1 0 (List.length ([]:List Int)),.osl 5 1 0 (List.length ([]:List Int))]),some (.box [.osl 6 1 0 (result_12.Cells.length),.osl 7 1 0 (result_12.Path.length)]),some (.arr 1 (List.map eU8 ([]:List Int))),some (.arr 1 (List.map Ae ([]:List Int))),some (.arr 1 (result_12.Cells.map eU8)),some (.arr 1 (result_12.Path.map Ae))]⟩
def Jdq:St:=⟨(0,.ptr 0 0)::(2,.ptr 2 0)::(3,.ptr 3 0)::(4,.d (.int .i64 place_4))::(6,.d (.int .i64 cost_3))::(27,.d (.sl (x124.map Ai)))::(28,.d (.int .i64 ((x124.length:Nat):Int)))::(29,.d (.int .i64 x_77))::[],[some (.box (Al b0_ (.osl 1 2 0 (b0_.Columns.length)))),some (.narr 2 (b0_.Columns.map Ac)),some (.box [.osl 4 1 0 (List.length ([]:List Int)),.osl 5 1 0 (List.length ([]:List Int))]),some (.box [.osl 6 1 0 (result_12.Cells.length),.osl 7 1 0 (result_12.Path.length)]),some (.arr 1 (List.map eU8 ([]:List Int))),some (.arr 1 (List.map Ae ([]:List Int))),some (.arr 1 (result_12.Cells.map eU8)),some (.arr 1 (result_12.Path.map Ae))]⟩
def Jm:((AT×Int×Int×Int)⊕Unit)->Ex->St->Prop:=xS (xX 2 1 (λ (y:(AT×Int×Int×Int))=>Jdo b0_ y.1 y.2.1 y.2.2.1 y.2.2.2)) (xX 2 2 (λ (_:Unit)=>Jdp b0_ result_12))
def E2:Int->St:=(λ (x:Int)=>Jdn b0_ result_12 place_4 cost_3 x124 x)
def Jn:AT->Ex->St->Prop:=xX 2 0 (λ (y:AT)=>Jdm b0_ y)
def E3:(AT×Int×Int×Int)->St:=(λ (x:(AT×Int×Int×Int))=>Jdl b0_ x.1 x.2.1 x.2.2.1 x.2.2.2)
variable {b0_ x_76 result_12 place_4 state_3 cost_3 result_13 x124 x_77 result_14 place_5 state_4 cost_4}
theorem EF (x:Int) (z:(Int⊕((AT×Int×Int×Int)⊕Unit))) (H:CC n b0_ result_12 place_4 cost_3 x124 x=some z):WP (cxk 93 2) (Ax Tryz.f64) [1,0,1,1,1,0,1,0,0,1,0,0,1,0,0] (Av 2 (E2 b0_ result_12 place_4 cost_3 x124) (Jm b0_ result_12) z) (E2 b0_ result_12 place_4 cost_3 x124 x):=by
 revert H
 generalize x=x_77
 intro H
 refine sr (ck 1 (en (sq (cn H (λ H=>?_) (λ H=>?_)))))
 ·refine sk (qz (sj (λ (x:Unit)=>Jdq b0_ result_12 place_4 cost_3 x124 x_77) (λ (x:Unit)=>BZ n x_77) z ?_ (λ hFTr_writer_writingx_J1=>?_)))
  ·intro _ H
   exact rz (ck 2 (ae (by cases H;exact og (gP [0,2,3,4,6,27,28,29] [0,1,2,3,4,5,6,7] (po1 (pn1 Ac b0_.Columns (po1 (po1 (po1 (po1 (po1 (po1 (Pl.z)))))))))))))
  refine bk 3 (sr (bx H λ x125 h303 H=>sp (Am Ai h303) (ck 3 (en (sr (ck 4 (bx H λ r66 h304 H=>ltP [0,1] (D1 h304) (po1 (pn1 Ac b0_.Columns (Pl.z))) (tb (f:=Dy (Cu [0,1] 9 2)) [some (.box (Al b0_ (.osl 1 2 0 (b0_.Columns.length)))),some (.narr 2 (b0_.Columns.map Ac)),some (.box [.osl 4 1 0 (List.length ([]:List Int)),.osl 5 1 0 (List.length ([]:List Int))]),some (.box [.osl 6 1 0 (result_12.Cells.length),.osl 7 1 0 (result_12.Path.length)]),some (.arr 1 (List.map eU8 ([]:List Int))),some (.arr 1 (List.map Ae ([]:List Int))),some (.arr 1 (result_12.Cells.map eU8)),some (.arr 1 (result_12.Path.map Ae)),some (.box [.d (.int .i64 x125.Rule),.d (.int .i64 x125.To)])] (po1 (pn1 Ac b0_.Columns (po1 (po1 (po1 (po1 (po1 (po1 (po1 (Pl.z)))))))))) (ck 5 (en (sq (sr (ck 2 (en (cn H (λ H=>?_) (λ H=>?_))))))))))))))))
  ·exact ex 3 (qx (qH (qs (gP [0,2,3,4,6,27,28,29] [0,1,2,3,4,5,6,7] (po1 (pn1 Ac b0_.Columns (po1 (po1 (po1 (po1 (po1 (po1 (Pl.z)))))))))) (hFTr_writer_writingx_J1 () H))))
  ·refine sk (qz (sr (ck 7 (bx H λ x126 h305 H=>sp (Am An h305) (ck 3 (en (sq (sr (ck 5 (bx H λ x127 h306 H=>sp (AA 1 2 h306) (ck 2 (bx H λ r67 h307 H=>cb (ks:=[1]) (obl:=[(0+Int.toNat r66.1+1,List.length (b0_.Columns.map Ac)),(Ot (b0_.Columns.map Ac),0)]) false (leK (JgI (encN:=Ac) h306) (leK (Je2 λ _=>rfl) (leZ))) (Dz (JbH (encN:=Ac) (encD:=L8) h306 λ _=>rfl) (Dz rfl rfl)) (Fj h307) (Or.inr trivial) rfl (ck 1 (en (sr (ck 6 (sE (g:=(!(decide (r67<0)))) (λ hg=>AC eU8 x126.Cells) (gc 2 (!(decide (r67<0))) (pO (en (cn H (λ H=>?_) (λ H=>?_))))))))))))))))))))))
   ·exact ex 3 (qx (qH (qs (gP [0,2,3,4,6,27,28,29] [0,1,2,3,4,5,6,7] (po1 (pn1 Ac b0_.Columns (po1 (po1 (po1 (po1 (po1 (po1 (Pl.z)))))))))) (hFTr_writer_writingx_J1 () H))))
   ·exact sk (qz (sr (ck 3 (bx H λ l41 h308 H=>sp (JgG eU8 6 1 h308) (ck 2 (en (sr (ck 5 (bx H λ l42 h309 H=>sp (B6 Ae 7 1 h309) (ck 2 (en (sr (ck 5 (sp (AC eU8 x126.Cells) (ck 4 (en (ex 1 (qX rfl (qx (by cases H;exact xo rfl (gP [0,2,3,4,5,6] [0,1,2,3,4,5,9,11] (po1 (pn1 Ac b0_.Columns (po1 (po1 (po1 (po1 (po1 (po1 (Pl.z))))))))))))))))))))))))))))))
 ·exact ex 2 (qx (by cases H;exact xo rfl (gP [2,3] [0,1,2,3,4,5,6,7] (po1 (pn1 Ac b0_.Columns (po1 (po1 (po1 (po1 (po1 (po1 (Pl.z))))))))))))
theorem Io (x:(AT×Int×Int×Int)) (z:((AT×Int×Int×Int)⊕AT)) (H:CD n b0_ x.1 x.2.1 x.2.2.1 x.2.2.2=some z):WP (cxk 93 2) (Ax Tryz.f64) [1,0,1,1,1,0,1,0,0] (Av 2 (E3 b0_) (Jn b0_) z) (E3 b0_ x):=by
 obtain ⟨result_12,place_4,state_3,cost_3⟩:=x
 refine sq (sr (ck 2 (en (cn H (λ H=>?_) (λ H=>?_)))))
 ·refine sk (qz (bk 1 (sq (sr (ck 5 (bx H λ x124 h302 H=>sp (Am (eL Ai) h302) (ck 1 (sp (AC Ai x124) (ck 1 (en (bk 2 (bx H λ y75 h310 H=>?_))))))))))))
  rcases y75 with y76|y77
  ·exact lX EF h310 (gP [0,2,3,4,6,27,28,29] [0,1,2,3,4,5,6,7] (po1 (pn1 Ac b0_.Columns (po1 (po1 (po1 (po1 (po1 (po1 (Pl.z)))))))))) rfl λ s hE62=>qX rfl (qx (qH (by cases H;exact og (tr (hE62) (gP [0,2,3,4,5,6] [0,1,2,3,4,5,6,7] (po1 (pn1 Ac b0_.Columns (po1 (po1 (po1 (po1 (po1 (po1 (Pl.z))))))))))))))
  ·exact lX EF h310 (gP [0,2,3,4,6,27,28,29] [0,1,2,3,4,5,6,7] (po1 (pn1 Ac b0_.Columns (po1 (po1 (po1 (po1 (po1 (po1 (Pl.z)))))))))) rfl λ s hE63=>qH (qs (hE63) (ex 0 (qX rfl (by cases H;exact xo rfl (gP [2,3] [0,1,2,3,4,5,6,7] (po1 (pn1 Ac b0_.Columns (po1 (po1 (po1 (po1 (po1 (po1 (Pl.z))))))))))))))
 ·exact ex 0 (qx (by cases H;exact xo rfl (gP [2,3] [0,1,2,3,4,5,6,7] (po1 (pn1 Ac b0_.Columns (po1 (po1 (po1 (po1 (po1 (po1 (Pl.z))))))))))))
theorem KC {z} (H:Do n b0_=some z):BG Tryz.prog 64 [.ptr 0 0] [some (.box (Al b0_ (.osl 1 2 0 (b0_.Columns.length)))),some (.narr 2 (b0_.Columns.map Ac))] 2 (.agg [.osl 3 1 0 (z.Cells.length),.osl 4 1 0 (z.Path.length)]) [some (.box (Al b0_ (.osl 1 2 0 (b0_.Columns.length)))),some (.narr 2 (b0_.Columns.map Ac)),some (.box [.osl 3 1 0 (z.Cells.length),.osl 4 1 0 (z.Path.length)]),some (.arr 1 (z.Cells.map eU8)),some (.arr 1 (z.Path.map Ae))]:=by
 exact fL 93 2 (Jdj b0_) Tryz.func64 (sr (ck 1 (en (sc (sr (ck 1 (en (sr (ck 2 (en (sq (lbl (qz (sq (sr (ck 4 (bx H λ x123 h300 H=>sp (AA 1 2 h300) (bx H λ r65 h301 H=>cb (ks:=[1]) (obl:=[(0+Int.toNat 0+1,List.length (b0_.Columns.map Ac)),(Ot (b0_.Columns.map Ac),0)]) false (leK (JgI (encN:=Ac) h300) (leK (Je2 λ _=>rfl) (leZ))) (Dz (JbH (encN:=Ac) (encD:=L8) h300 λ _=>rfl) (Dz rfl rfl)) (Fj h301) (Or.inr trivial) rfl (ck 1 (en (bk 0 (bx H λ y78 h311 H=>lX Io h311 (tr (tr (tr (tr (BN 2 0 1 (by kernel_rfl)) (BN 2 1 1 (by kernel_rfl))) (BN 3 0 1 (by kernel_rfl))) (BN 3 1 1 (by kernel_rfl))) (gP [0,2,3,4,5,6] [0,1,2,3,4,5,6,7] (po1 (pn1 Ac b0_.Columns (po1 (po1 (po1 (po1 (po1 (po1 (Pl.z))))))))))) rfl λ s hE64=>qH (qs (hE64) (sr (ck 2 (en (re (by cases H;exact pL (rl (s':=Jdk b0_ z) (gP [2] [0,1,2,6,7] (po1 (pn1 Ac b0_.Columns (po1 (po1 (po1 (Pl.z))))))))))))))))))))))))))))))))))))
end
section
variable (p0_:Ad) (p1_:(List UInt8))
def Jh0:St:=⟨(0,.agg [.d (.int .i64 p0_.Modes),.d (.int .u8 p0_.Accept),.d (.sl (p0_.Rules.map An))])::(1,.d (.str p1_))::[],[]⟩
variable {p0_ p1_}
theorem Vo {z} (H:MS n p0_ p1_=some z):AD Tryz.prog 34 [.agg (AK p0_),.d (.str p1_)] (.tup [.agg [.own 1 (z.1.Cells.map eU8),.own 1 (z.1.Path.map Ae)],.d (.int .i64 z.2.1),.d (.int .i64 z.2.2)]):=by
 refine fO 50 (Jh0 p0_ p1_) Tryz.func34 (sr (ck 4 (en (sq (sr (ck 1 (bx H λ r68 h312 H=>ca true (IM h312) (ck 5 (en (sr (ck 2 (en (cn H (λ H=>?_) (λ H=>?_))))))))))))))
 ·exact sr (ck 6 (en (re (qr (by cases H;exact pr (rT (vs:=[.agg [.d (.nil),.d (.nil)],.d (.int .i64 r68.1),.d (.int .i64 r68.2)]) [] (t1 (a1 (c1 vz (c1 vz (c0)))) (t1 (ad vd) (t1 (ad vd) (t0))))))))))
 ·refine sk (qz (sq (sr (ck 1 (bx H λ r69 h313 H=>ca false (Vn h313) (ck 1 (en (cn H (λ H=>?_) (λ H=>?_)))))))))
  ·exact sr (ck 4 (en (re (qr (by cases H;exact pr (rT (vs:=[.agg [.d (.nil),.d (.nil)],.d (.int .i64 0),.d (.int .i64 61)]) [] (t1 (a1 (c1 vz (c1 vz (c0)))) (t1 (ad vd) (t1 (ad vd) (t0))))))))))
  ·refine sk (qz (sr (ck 2 (bx H λ r70 h314 H=>lt [] (P6 h314) (tb (f:=Dy (Cu [] 2 0)) [some (.box (AK p0_)),some (.box [.d (.nil),.d (.nil)]),some (.box (Al r70 (.osl 3 2 0 (r70.Columns.length)))),some (.narr 2 (r70.Columns.map Ac))] (po1 (po1 (po1 (pn1 Ac r70.Columns (Pl.z))))) (ck 1 (en (sr (ck 1 (bx H λ r71 h315 H=>ltP [2,3] (Nk h315) (po1 (pn1 Ac r70.Columns (Pl.z))) (tb (f:=Dy (Cu [2,3] 4 2)) [some (.box (AK p0_)),some (.box [.d (.nil),.d (.nil)]),some (.box (Al r71 (.osl 3 2 0 (r71.Columns.length)))),some (.narr 2 (r71.Columns.map Ac))] (po1 (po1 (po1 (pn1 Ac r71.Columns (Pl.z))))) (en (sr (ck 1 (bx H λ r72 h316 H=>ltP [2,3] (Nl h316) (po1 (pn1 Ac r71.Columns (Pl.z))) (tb (f:=Dy (Cu [2,3] 4 2)) [some (.box (AK p0_)),some (.box [.d (.nil),.d (.nil)]),some (.box (Al r72 (.osl 3 2 0 (r72.Columns.length)))),some (.narr 2 (r72.Columns.map Ac))] (po1 (po1 (po1 (pn1 Ac r72.Columns (Pl.z))))) (en (sq (sq (bx H λ x128 h317 H=>rg (tr (so1 (encN:=Ac) 3 2 h317) (sno (encN:=Ac) (enc:=Ae) h317 [.own 1 (x128.States.map Ae),.own 1 (x128.Costs.map Ae)] x128.Costs 2 3 1 1)) (ck 4 (sp (AA 3 2 h317) (ck 1 (sp (Ci (encN:=Ac) (row:=[.own 1 (x128.States.map Ae),.osl 4 1 0 (x128.Costs.length)]) (k:=3) (sz:=2) (off:=1) (t:=ty 35) (v:=.osl 4 1 0 (x128.Costs.length)) h317) (bx H λ x129 h318 H=>sp (AA 4 1 h318) (sp (CL Ae 4 0 (ty 3) h318) (ck 1 (en (cn H (λ H=>?_) (λ H=>?_))))))))))))))))))))))))))))))
   ·exact sq (rg (tr (tr (tr (sni (encN:=Ac) (xs:=r72.Columns) (n:=0) (enc:=Ae) [.own 1 (x128.States.map Ae),.osl 4 1 0 (x128.Costs.length)] x128.Costs 2 3 1 4 1) (scl (encN:=Ac) (xss:=r72.Columns) 0 [.own 1 (x128.States.map Ae),.own 1 (x128.Costs.map Ae)] 2 3 x128)) (sn 34 3 2 (lsS r72.Columns (Int.toNat 0) x128))) (snc 2 6 3 2 (lsS r72.Columns (Int.toNat 0) x128))) (ck 8 (en (re (qr (by cases H;exact pr (rT (vs:=[.agg [.d (.nil),.d (.nil)],.d (.int .i64 r72.Last),.d (.int .i64 61)]) [] (t1 (a1 (c1 vz (c1 vz (c0)))) (t1 (ad vd) (t1 (ad vd) (t0)))))))))))
   ·exact sk (qz (sq (rg (tr (tr (tr (sni (encN:=Ac) (xs:=r72.Columns) (n:=0) (enc:=Ae) [.own 1 (x128.States.map Ae),.osl 4 1 0 (x128.Costs.length)] x128.Costs 2 3 1 4 1) (scl (encN:=Ac) (xss:=r72.Columns) 0 [.own 1 (x128.States.map Ae),.own 1 (x128.Costs.map Ae)] 2 3 x128)) (sn 34 3 2 (lsS r72.Columns (Int.toNat 0) x128))) (snc 2 6 3 2 (lsS r72.Columns (Int.toNat 0) x128))) (ck 1 (bx H λ r73 h319 H=>ltP [2,3] (KC h319) (po1 (pn1 Ac (List.set r72.Columns (Int.toNat 0) x128) (Pl.z))) (tb (f:=Dy (Cu [2,3] 5 2)) [some (.box (AK p0_)),some (.box [.d (.nil),.d (.nil)]),some (.box (Al r72 (.osl 3 2 0 (List.length (List.set r72.Columns (Int.toNat 0) x128))))),some (.narr 2 (List.map Ac (List.set r72.Columns (Int.toNat 0) x128))),none,some (.box [.osl 6 1 0 (r73.Cells.length),.osl 7 1 0 (r73.Path.length)]),some (.arr 1 (r73.Cells.map eU8)),some (.arr 1 (r73.Path.map Ae))] (po1 (po1 (po1 (pn1 Ac (List.set r72.Columns (Int.toNat 0) x128) (po1 (po1 (po1 (po1 (Pl.z))))))))) (ck 5 (en (re (by cases H;exact pr (rT (vs:=[.agg [.osl 6 1 0 (r73.Cells.length),.osl 7 1 0 (r73.Path.length)],.d (.int .i64 ((p1_.length:Nat):Int)),.d (.int .i64 0)]) [6,7] (t1 (a1 (c1 vo (c1 vo (c0)))) (t1 (ad vd) (t1 (ad vd) (t0)))))))))))))))
end
section
variable (p0_:Ad) (p1_:A0)
def Jh1:St:=⟨(0,.agg [.d (.int .i64 p0_.Modes),.d (.int .u8 p0_.Accept),.d (.sl (p0_.Rules.map An))])::(1,.agg [.d (.str p1_.Text),.d (.sl (p1_.Costs.map (eL Ae))),.d (.sl (p1_.Least.map Ae))])::[],[]⟩
variable {p0_ p1_}
theorem NC {z} (H:HZ n p0_ p1_=some z):AD Tryz.prog 16 [.agg (AK p0_),.agg (CS p1_)] (.tup [.agg [.d (.sl (z.1.Cells.map eU8)),.d (.sl (z.1.Path.map Ae))],.d (.int .i64 z.2)]):=by
 refine fO 21 (Jh1 p0_ p1_) Tryz.func16 (sr (ck 4 (en (sr (ck 3 (bx H λ r74 h320 H=>ca false (Vo h320) (ck 8 (en (sq (sr (ck 2 (en (cn H (λ H=>?_) (λ H=>?_))))))))))))))
 ·exact sr (ck 3 (en (re (qr (by cases H;exact pr (rT (vs:=[.agg [.d (.nil),.d (.nil)],.d (.int .i64 61)]) [] (t1 (a1 (c1 vn (c1 vn (c0)))) (t1 (ad vd) (t0)))))))))
 ·exact sk (qz (sr (ck 3 (en (re (by cases H;exact pr rdT))))))
end
section
variable (p0_:(List Int)) (p1_:(List Int)) (i_8:Int)
def Jh2:St:=⟨(0,.d (.sl (p0_.map Ae)))::(1,.d (.sl (p1_.map Ae)))::[],[]⟩
def Jh3:St:=⟨(0,.d (.sl (p0_.map Ae)))::(1,.d (.sl (p1_.map Ae)))::(5,.d (.int .i64 i_8))::[],[]⟩
def Jh4:St:=⟨[],[]⟩
def Tx:(Unit⊕Bool)->Ex->St->Prop:=xS (xX 0 0 (λ (_:Unit)=>Jh4)) (xR ty Tryz.f20 (λ (y:Bool)=>.d (.bool y)))
def ND:Int->St:=(λ (x:Int)=>Jh3 p0_ p1_ x)
variable {p0_ p1_ i_8}
theorem Mi (x:Int) (z:(Int⊕(Unit⊕Bool))) (H:Fy n p0_ p1_ x=some z):WP (cxk 26 0) (Ax Tryz.f20) [1,1,0,1,0,0] (Av 0 (ND p0_ p1_) (Tx) z) (ND p0_ p1_ x):=by
 revert H
 generalize x=i_8
 intro H
 refine sq (sr (ck 2 (sp (AC Ae p0_) (ck 1 (en (cn H (λ H=>?_) (λ H=>?_)))))))
 ·refine sk (qz (sq (bk 1 (sr (ck 2 (bx H λ x130 h321 H=>sp (Am Ae h321) (ck 3 (bx H λ x131 h322 H=>sp (Am Ae h322) (ck 2 (en (cn H (λ H=>?_) (λ H=>?_))))))))))))
  ·exact sr (ck 1 (en (re (qR (qr (by cases H;exact ro rfl rd))))))
  ·exact sk (qN (qz (rz (ck 3 (ae (by cases H;exact og (sg [0,1,5])))))))
 ·exact ex 0 (qx (by cases H;exact xo rfl (sg [])))
theorem Eh {z} (H:DN n p0_ p1_=some z):AD Tryz.prog 20 [.d (.sl (p0_.map Ae)),.d (.sl (p1_.map Ae))] (.d (.bool z)):=by
 refine fO 26 (Jh2 p0_ p1_) Tryz.func20 (sr (ck 1 (en (sq (sr (ck 1 (sp (AC Ae p0_) (ck 1 (sp (AC Ae p1_) (ck 1 (en (cn H (λ H=>?_) (λ H=>?_)))))))))))))
 ·exact sr (ck 1 (en (re (qr (by cases H;exact pr rd)))))
 ·refine sk (qz (sq (sr (ck 1 (en (bk 0 (bx H λ y79 h323 H=>?_)))))))
  rcases y79 with y80|y81
  ·exact lX Mi h323 (sg [0,1,5]) rfl λ s hE65=>qH (qs (hE65) (sr (ck 1 (en (re (by cases H;exact pr rd))))))
  ·exact lR Mi h323 (sg [0,1,5]) rfl λ s hE66=>qR (qr (by cases H;exact pr hE66))
end
section
variable (p0_:(List Int)) (p1_:(List Int)) (i_9:Int)
def Jh5:St:=⟨(0,.d (.sl (p0_.map eU8)))::(1,.d (.sl (p1_.map eU8)))::[],[]⟩
def Jh6:St:=⟨(0,.d (.sl (p0_.map eU8)))::(1,.d (.sl (p1_.map eU8)))::(5,.d (.int .i64 i_9))::[],[]⟩
def Jh7:St:=⟨[],[]⟩
def Oa:(Unit⊕Bool)->Ex->St->Prop:=xS (xX 0 0 (λ (_:Unit)=>Jh7)) (xR ty Tryz.f42 (λ (y:Bool)=>.d (.bool y)))
def H8:Int->St:=(λ (x:Int)=>Jh6 p0_ p1_ x)
variable {p0_ p1_ i_9}
theorem Hq (x:Int) (z:(Int⊕(Unit⊕Bool))) (H:CJ n p0_ p1_ x=some z):WP (cxk 26 0) (Ax Tryz.f42) [1,1,0,1,0,0] (Av 0 (H8 p0_ p1_) (Oa) z) (H8 p0_ p1_ x):=by
 revert H
 generalize x=i_9
 intro H
 refine sq (sr (ck 2 (sp (AC eU8 p0_) (ck 1 (en (cn H (λ H=>?_) (λ H=>?_)))))))
 ·refine sk (qz (sq (bk 1 (sr (ck 2 (bx H λ x132 h324 H=>sp (Am eU8 h324) (ck 3 (bx H λ x133 h325 H=>sp (Am eU8 h325) (ck 2 (en (cn H (λ H=>?_) (λ H=>?_))))))))))))
  ·exact sr (ck 1 (en (re (qR (qr (by cases H;exact ro rfl rd))))))
  ·exact sk (qN (qz (rz (ck 3 (ae (by cases H;exact og (sg [0,1,5])))))))
 ·exact ex 0 (qx (by cases H;exact xo rfl (sg [])))
theorem JS {z} (H:Dc n p0_ p1_=some z):AD Tryz.prog 42 [.d (.sl (p0_.map eU8)),.d (.sl (p1_.map eU8))] (.d (.bool z)):=by
 refine fO 26 (Jh5 p0_ p1_) Tryz.func42 (sr (ck 1 (en (sq (sr (ck 1 (sp (AC eU8 p0_) (ck 1 (sp (AC eU8 p1_) (ck 1 (en (cn H (λ H=>?_) (λ H=>?_)))))))))))))
 ·exact sr (ck 1 (en (re (qr (by cases H;exact pr rd)))))
 ·refine sk (qz (sq (sr (ck 1 (en (bk 0 (bx H λ y82 h326 H=>?_)))))))
  rcases y82 with y83|y84
  ·exact lX Hq h326 (sg [0,1,5]) rfl λ s hE67=>qH (qs (hE67) (sr (ck 1 (en (re (by cases H;exact pr rd))))))
  ·exact lR Hq h326 (sg [0,1,5]) rfl λ s hE68=>qR (qr (by cases H;exact pr hE68))
end
section
variable (p0_:AT) (p1_:AT)
def Jh8:St:=⟨(0,.agg [.d (.sl (p0_.Cells.map eU8)),.d (.sl (p0_.Path.map Ae))])::(1,.agg [.d (.sl (p1_.Cells.map eU8)),.d (.sl (p1_.Path.map Ae))])::[],[]⟩
variable {p0_ p1_}
theorem W6 {z} (H:OX n p0_ p1_=some z):AD Tryz.prog 18 [.agg [.d (.sl (p0_.Cells.map eU8)),.d (.sl (p0_.Path.map Ae))],.agg [.d (.sl (p1_.Cells.map eU8)),.d (.sl (p1_.Path.map Ae))]] (.d (.bool z)):=by
 exact fO 17 (Jh8 p0_ p1_) Tryz.func18 (sr (ck 3 (en (sr (ck 4 (bx H λ r75 h327 H=>ca false (JS h327) (ck 2 (gc 1 r75 (ck 1 (gc 1 r75 (bx H λ r76 h328 H=>cG false (leZ) rfl (λ hg=>Eh (BA h328 hg)) (Or.inl rfl) (BS (λ hh=>hh) (BS (λ hh=>hh) (D0))) rfl (pA (ck 1 (en (re (by cases H;exact pr rd))))))))))))))))
end
def Jku:St:=⟨[],[]⟩
theorem Tz {z} (H:H1 n=some z):AD Tryz.prog 6 [] (.d (.bool z)):=by
 exact fO 139 Jku Tryz.func6 (sr (ck 1 (en (sr (bx H λ r77 h329 H=>ca false (Tu h329) (ck 2 (en (sr (ck 1 (bx H λ r78 h330 H=>ca false (Ks h330) (ck 6 (en (sr (ck 1 (bx H λ r79 h331 H=>ca false (Ks h331) (ck 6 (en (sr (ck 3 (bx H λ r80 h332 H=>ca false (GT h332) (ck 8 (en (sr (ck 3 (bx H λ r81 h333 H=>ca false (GT h333) (ck 8 (en (sr (ck 3 (bx H λ r82 h334 H=>ca false (GT h334) (ck 8 (en (sr (ck 2 (bx H λ r83 h335 H=>ca false (NC h335) (ck 6 (en (sr (ck 1 (bx H λ r84 h336 H=>ca false (Ks h336) (ck 6 (en (sr (ck 2 (bx H λ r85 h337 H=>ca false (NC h337) (ck 6 (en (sr (ck 4 (gc 1 (r78.2==0) (pA (ck 2 (gc 1 ((r78.2==0)&&(r79.2==60)) (pA (ck 2 (gc 1 (((r78.2==0)&&(r79.2==60))&&(r80.2.2==0)) (pA (ck 2 (gc 1 ((((r78.2==0)&&(r79.2==60))&&(r80.2.2==0))&&(r81.2.2==1)) (pA (ck 2 (gc 1 (((((r78.2==0)&&(r79.2==60))&&(r80.2.2==0))&&(r81.2.2==1))&&(r82.2.2==60)) (pA (ck 2 (gc 1 ((((((r78.2==0)&&(r79.2==60))&&(r80.2.2==0))&&(r81.2.2==1))&&(r82.2.2==60))&&(r83.2==0)) (pA (ck 2 (gc 1 (((((((r78.2==0)&&(r79.2==60))&&(r80.2.2==0))&&(r81.2.2==1))&&(r82.2.2==60))&&(r83.2==0))&&(r84.2==0)) (pA (ck 1 (en (sr (ck 3 (gc 1 ((((((((r78.2==0)&&(r79.2==60))&&(r80.2.2==0))&&(r81.2.2==1))&&(r82.2.2==60))&&(r83.2==0))&&(r84.2==0))&&(r85.2==61)) (ck 1 (bx H λ r86 h338 H=>cG (ks:=[9]) (obl:=[(0+List.length [2,1,1,0],List.length (List.map Ae [2,1,1,0]))]) false (leK leM (leZ)) (Dz rfl (Dz Sr rfl)) (λ hg=>Eh (BA h338 hg)) (Or.inr trivial) (BS (λ hh=>hh) (BS (λ hh=>hh) (D0))) rfl (pA (ck 2 (gc 1 (((((((((r78.2==0)&&(r79.2==60))&&(r80.2.2==0))&&(r81.2.2==1))&&(r82.2.2==60))&&(r83.2==0))&&(r84.2==0))&&(r85.2==61))&&r86) (pA (ck 2 (gc 2 ((((((((((r78.2==0)&&(r79.2==60))&&(r80.2.2==0))&&(r81.2.2==1))&&(r82.2.2==60))&&(r83.2==0))&&(r84.2==0))&&(r85.2==61))&&r86)&&(r80.2.1==1)) (pA (ck 2 (gc 1 (((((((((((r78.2==0)&&(r79.2==60))&&(r80.2.2==0))&&(r81.2.2==1))&&(r82.2.2==60))&&(r83.2==0))&&(r84.2==0))&&(r85.2==61))&&r86)&&(r80.2.1==1))&&(r80.1.Text==[98,97,98])) (ck 1 (bx H λ r87 h339 H=>cG (ks:=[10]) (obl:=[(0+List.length [2,1,1,0],List.length (List.map Ae [2,1,1,0]))]) false (leK leM (leZ)) (Dz rfl (Dz Sr rfl)) (λ hg=>Eh (BA h339 hg)) (Or.inr trivial) (BS (λ hh=>hh) (BS (λ hh=>hh) (D0))) rfl (pA (ck 4 (gc 1 ((((((((((((r78.2==0)&&(r79.2==60))&&(r80.2.2==0))&&(r81.2.2==1))&&(r82.2.2==60))&&(r83.2==0))&&(r84.2==0))&&(r85.2==61))&&r86)&&(r80.2.1==1))&&(r80.1.Text==[98,97,98]))&&r87) (bx H λ r88 h340 H=>cG (ks:=[11,12]) (obl:=[(0+List.length [1,7],List.length (List.map eU8 [1,7])),(0+List.length [0,2],List.length (List.map Ae [0,2]))]) false (leK leM (leK leM (leZ))) (Dz rfl (Dz (JjH (Dz Sr (Dz Sr rfl))) rfl)) (λ hg=>W6 (BA h340 hg)) (Or.inr trivial) (BS (λ hh=>hh) (BS (λ hh=>hh) (D0))) rfl (pA (ck 2 (gc 1 (((((((((((((r78.2==0)&&(r79.2==60))&&(r80.2.2==0))&&(r81.2.2==1))&&(r82.2.2==60))&&(r83.2==0))&&(r84.2==0))&&(r85.2==61))&&r86)&&(r80.2.1==1))&&(r80.1.Text==[98,97,98]))&&r87)&&r88) (ck 1 (bx H λ r89 h341 H=>cG (ks:=[13]) (obl:=[(0+List.length [(-1),0],List.length (List.map Ae [(-1),0]))]) false (leK leM (leZ)) (Dz rfl (Dz Sr rfl)) (λ hg=>Eh (BA h341 hg)) (Or.inr trivial) (BS (λ hh=>hh) (BS (λ hh=>hh) (D0))) rfl (pA (ck 1 (en (re (by cases H;exact pr rd)))))))))))))))))))))))))))))))))))))))))))))))))))))))))))))))))))))))))))))))))))))))))))))))))))))
section
variable (p0_:(List UInt8)) (p1_:(List Int)) (p2_:(FM Int))
def Jh9:St:=⟨(0,.d (.str p0_))::(1,.d (.sl (p1_.map eU8)))::(2,.agg [.d (.int .i64 p2_.a0),.d (.int .i64 p2_.a1)])::[],[]⟩
variable {p0_ p1_ p2_}
theorem AQ {z} (H:A7 n p0_ p1_ p2_=some z):AD Tryz.prog 45 [.d (.str p0_),.d (.sl (p1_.map eU8)),.agg [.d (.int .i64 p2_.a0),.d (.int .i64 p2_.a1)]] (.agg [.d (.str z.Print),.d (.sl (z.Cells.map eU8)),.d (.int .u8 z.Left),.d (.int .u8 z.Right),.d (.int .i64 z.From),.d (.int .i64 z.To)]):=by
 exact fO 14 (Jh9 p0_ p1_ p2_) Tryz.func45 (sr (ck 2 (en (sr (ck 8 (en (re (by cases H;exact pr rd))))))))
end
def Jia:St:=⟨[],[]⟩
theorem SL {z} (H:QM n=some z):AD Tryz.prog 43 [] (.own 6 (z.map An)):=by
 exact fO 16 Jia Tryz.func43 (sr (ck 1 (en (sr (ck 3 (en (sr (sF (ck 1 (bx H λ r90 h342 H=>ca false (AQ h342) (sF (ck 1 (bx H λ r91 h343 H=>ca false (AQ h343) (sF (ck 1 (bx H λ r92 h344 H=>ca false (AQ h344) (sF (ck 1 (bx H λ r93 h345 H=>ca false (AQ h345) (ck 2 (en (re (by cases H;exact pr (rO (v:=.osl 1 6 0 (List.length [r90,r91,r92,r93])) [1] (ao vo)))))))))))))))))))))))))
section
variable (p0_:Int) (p1_:Int) (p2_:(FM Int))
def Jib:St:=⟨(0,.d (.int .u8 p0_))::(1,.d (.int .i64 p1_))::(2,.agg [.d (.int .i64 p2_.a0),.d (.int .i64 p2_.a1)])::[],[]⟩
variable {p0_ p1_ p2_}
theorem GE {z} (H:GQ n p0_ p1_ p2_=some z):AD Tryz.prog 44 [.d (.int .u8 p0_),.d (.int .i64 p1_),.agg [.d (.int .i64 p2_.a0),.d (.int .i64 p2_.a1)]] (.agg [.d (.str z.Print),.d (.sl (z.Cells.map eU8)),.d (.int .u8 z.Left),.d (.int .u8 z.Right),.d (.int .i64 z.From),.d (.int .i64 z.To)]):=by
 exact fO 16 (Jib p0_ p1_ p2_) Tryz.func44 (sr (ck 2 (en (sr (ck 1 (sF (ck 1 (bx H λ r94 h346 H=>ca false (AQ h346) (ck 2 (en (sr (ck 1 (bx H λ gd9 h347 H=>so (HV h347) (ck 2 (en (sr (ck 2 (en (re (by cases H;exact pr rd))))))))))))))))))))
end
section
variable (p0_:Int) (l_1:(List Ay))
def Jic:St:=⟨(0,.d (.int .u8 p0_))::[],[]⟩
def Jid:St:=⟨(2,.ptr 0 0)::(3,.osl 1 6 0 (l_1.length))::[],[some (.box [.d (.int .i64 0),.d (.int .u8 0),.osl 2 6 0 (List.length ([]:List Ay))]),some (.arr 6 (l_1.map An)),some (.arr 6 (List.map An ([]:List Ay)))]⟩
variable {p0_ l_1}
theorem W7 {z} (H:JG n p0_=some z):AD Tryz.prog 21 [.d (.int .u8 p0_)] (.agg [.d (.int .i64 z.Modes),.d (.int .u8 z.Accept),.own 6 (z.Rules.map An)]):=by
 refine fO 121 (Jic p0_) Tryz.func21 (sr (ck 1 (en (sr (bx H λ r95 h348 H=>cl [List.length r95] (SL h348) (ck 13 (en (sj (λ (x:(List Ay))=>Jid x) (λ (x:(List Ay))=>Fz n x) z ?_ (λ hFR2_Base_J1=>?_)))))))))
 ·intro l_1 H
  exact sr (ck 3 (en (re (by cases H;exact pr (rO (v:=.agg [.d (.int .i64 1),.d (.int .u8 1),.osl 1 6 0 (l_1.length)]) [1] (a1 (c1 vd (c1 vd (c1 vo (c0))))))))))
 refine sr (ck 2 (en (bk 0 (sr (ck 2 (en (cn H (λ H=>?_) (λ H=>?_))))))))
 ·exact sr (ck 2 (bx H λ r96 h349 H=>ca false (GE h349) (sF (ck 1 (bx H λ r97 h350 H=>ca false (AQ h350) (sF (ck 1 (bx H λ r98 h351 H=>ca false (AQ h351) (sF (ck 1 (bx H λ r99 h352 H=>ca false (AQ h352) (ck 1 (bx H λ l43 h353 H=>sp (B6 An 1 6 h353) (ck 1 (en (sr (ck 3 (en (re (qR (qr (by cases H;exact pr (rO (v:=.agg [.d (.int .i64 2),.d (.int .u8 3),.osl 7 6 0 (l43.length)]) [7] (a1 (c1 vd (c1 vd (c1 vo (c0))))))))))))))))))))))))))))
 ·refine sr (ck 2 (en (cn H (λ H=>?_) (λ H=>?_))))
  ·exact sr (ck 2 (bx H λ r100 h354 H=>ca false (GE h354) (sF (ck 1 (bx H λ r101 h355 H=>ca false (AQ h355) (sF (ck 1 (bx H λ r102 h356 H=>ca false (AQ h356) (ck 1 (bx H λ l44 h357 H=>sp (B6 An 1 6 h357) (ck 1 (en (sr (ck 3 (en (re (qR (qr (by cases H;exact pr (rO (v:=.agg [.d (.int .i64 2),.d (.int .u8 1),.osl 7 6 0 (l44.length)]) [7] (a1 (c1 vd (c1 vd (c1 vo (c0)))))))))))))))))))))))))
  ·refine sr (ck 2 (en (cn H (λ H=>?_) (λ H=>?_))))
   ·exact rz (ck 1 (sF (ck 1 (bx H λ r103 h358 H=>ca false (AQ h358) (sF (ck 1 (bx H λ r104 h359 H=>ca false (AQ h359) (sF (ck 1 (bx H λ r105 h360 H=>ca false (AQ h360) (ck 1 (bx H λ l45 h361 H=>sp (B6 An 1 6 h361) (ck 1 (ae (qN (qs (tr (BN 0 2 6 (by kernel_rfl)) (sg [2,3])) (hFR2_Base_J1 l45 H)))))))))))))))))
   ·refine sr (ck 2 (en (cn H (λ H=>?_) (λ H=>?_))))
    ·exact rz (ck 1 (sF (ck 1 (bx H λ r106 h362 H=>ca false (AQ h362) (ck 1 (bx H λ l46 h363 H=>sp (B6 An 1 6 h363) (ck 1 (ae (qN (qs (tr (BN 0 2 6 (by kernel_rfl)) (sg [2,3])) (hFR2_Base_J1 l46 H)))))))))))
    ·refine sr (ck 2 (en (cn H (λ H=>?_) (λ H=>?_))))
     ·exact sr (sF (ck 1 (bx H λ r107 h364 H=>ca false (AQ h364) (sF (ck 1 (bx H λ r108 h365 H=>ca false (AQ h365) (ck 4 (en (sr (ck 4 (en (rz (ck 3 (sF (ck 1 (bx H λ r109 h366 H=>ca false (AQ h366) (ck 1 (bx H λ l47 h367 H=>sp (B6 An 1 6 h367) (ck 1 (ae (qN (qs (tr (BN 0 2 6 (by kernel_rfl)) (sg [2,3])) (hFR2_Base_J1 l47 H)))))))))))))))))))))))
     ·refine sr (ck 2 (en (cn H (λ H=>?_) (λ H=>?_))))
      ·exact sr (ck 2 (bx H λ r110 h368 H=>ca false (GE h368) (sF (ck 1 (bx H λ r111 h369 H=>ca false (AQ h369) (sF (ck 1 (bx H λ r112 h370 H=>ca false (AQ h370) (ck 1 (bx H λ l48 h371 H=>sp (B6 An 1 6 h371) (ck 1 (en (sr (ck 3 (en (re (qR (qr (by cases H;exact pr (rO (v:=.agg [.d (.int .i64 2),.d (.int .u8 1),.osl 7 6 0 (l48.length)]) [7] (a1 (c1 vd (c1 vd (c1 vo (c0)))))))))))))))))))))))))
      ·refine sr (ck 2 (en (cn H (λ H=>?_) (λ H=>?_))))
       ·exact rz (ck 1 (sF (ck 1 (bx H λ r113 h372 H=>ca false (AQ h372) (sF (ck 1 (bx H λ r114 h373 H=>ca false (AQ h373) (sF (ck 1 (bx H λ r115 h374 H=>ca false (AQ h374) (ck 1 (bx H λ l49 h375 H=>sp (B6 An 1 6 h375) (ck 1 (ae (qN (qs (tr (BN 0 2 6 (by kernel_rfl)) (sg [2,3])) (hFR2_Base_J1 l49 H)))))))))))))))))
       ·exact sk (qN (qs (tr (BN 0 2 6 (by kernel_rfl)) (sg [2,3])) (hFR2_Base_J1 r95 H)))
end
section
variable (p0_:Dq) (p1_:Int) (out_1:Ay) (i_10:Int) (out_2:Ay) (out_3:Ay) (i_11:Int) (out_4:Ay)
def Jie:St:=⟨(0,.agg [.d (.sl (p0_.P.map eU8)),.d (.sl (p0_.C.map eU8)),.d (.int .u8 p0_.L),.d (.int .u8 p0_.R),.d (.int .u8 p0_.W.a0),.d (.int .u8 p0_.W.a1)])::(1,.d (.int .i64 p1_))::[],[]⟩
def Jif:St:=⟨(2,.ptr 0 0)::(4,.ptr 1 0)::(5,.d (.str [97,98,99,65,66,49,50,45,46]))::(7,.ptr 2 0)::(8,.d (.int .i64 i_10))::[],[some (.box (O4 p0_)),some (.box [.d (.str []),.osl 3 1 0 (List.length ([]:List Int)),.d (.int .u8 0),.d (.int .u8 0),.d (.int .i64 0),.d (.int .i64 0)]),some (.box (Rq out_1 (.osl 4 1 0 (out_1.Cells.length)))),some (.arr 1 (List.map eU8 ([]:List Int))),some (.arr 1 (out_1.Cells.map eU8))]⟩
def Jig:St:=⟨(2,.ptr 0 0)::(4,.ptr 1 0)::(7,.ptr 2 0)::[],[some (.box (O4 p0_)),some (.box [.d (.str []),.osl 3 1 0 (List.length ([]:List Int)),.d (.int .u8 0),.d (.int .u8 0),.d (.int .i64 0),.d (.int .i64 0)]),some (.box (Rq out_2 (.osl 4 1 0 (out_2.Cells.length)))),some (.arr 1 (List.map eU8 ([]:List Int))),some (.arr 1 (out_2.Cells.map eU8))]⟩
def TA:Ay->Ex->St->Prop:=xX 0 0 (λ (y:Ay)=>Jig p0_ y)
def NE:(Ay×Int)->St:=(λ (x:(Ay×Int))=>Jif p0_ x.1 x.2)
def Jih:St:=⟨(2,.ptr 0 0)::(4,.ptr 1 0)::(7,.ptr 2 0)::(10,.osl 3 1 0 (List.length [1,3,9,5,7,32,44,60]))::(11,.d (.int .i64 i_11))::[],[some (.box (O4 p0_)),some (.box [.d (.str []),.osl 4 1 0 (List.length ([]:List Int)),.d (.int .u8 0),.d (.int .u8 0),.d (.int .i64 0),.d (.int .i64 0)]),some (.box (Rq out_3 (.osl 5 1 0 (out_3.Cells.length)))),some (.arr 1 (List.map eU8 [1,3,9,5,7,32,44,60])),some (.arr 1 (List.map eU8 ([]:List Int))),some (.arr 1 (out_3.Cells.map eU8))]⟩
def Jii:St:=⟨(4,.ptr 0 0)::(7,.ptr 1 0)::[],[some (.box [.d (.str []),.osl 2 1 0 (List.length ([]:List Int)),.d (.int .u8 0),.d (.int .u8 0),.d (.int .i64 0),.d (.int .i64 0)]),some (.box (Rq out_4 (.osl 3 1 0 (out_4.Cells.length)))),some (.arr 1 (List.map eU8 ([]:List Int))),some (.arr 1 (out_4.Cells.map eU8))]⟩
def TB:Ay->Ex->St->Prop:=xX 0 2 (λ (y:Ay)=>Jii y)
def NF:(Ay×Int)->St:=(λ (x:(Ay×Int))=>Jih p0_ x.1 x.2)
variable {p0_ p1_ out_1 i_10 out_2 out_3 i_11 out_4}
theorem SM (x:(Ay×Int)) (z:((Ay×Int)⊕Ay)) (H:FA n p0_ x.1 x.2=some z):WP (cxk 101 0) (Ax Tryz.f22) [1,1,1,0,1,0,0] (Av 0 (NE p0_) (TA p0_) z) (NE p0_ x):=by
 obtain ⟨out_1,i_10⟩:=x
 refine sq (sr (ck 3 (sp (AC eU8 p0_.P) (ck 3 (gc 1 (decide (i_10<((p0_.P.length:Nat):Int))) (pA (en (cn H (λ H=>?_) (λ H=>?_)))))))))
 ·exact sk (qz (sq (bk 1 (sr (ck 3 (bx H λ x136 h380 H=>sp (Am eU8 h380) (ck 4 (en (rz (ck 6 (bx H λ s9 h381 H=>sp (Hx h381) (bx H λ s10 h382 H=>sp (PN h382) (ck 2 (ae (qN (qz (rz (ck 3 (ae (by cases H;exact og (sg [2,4,5,7,8])))))))))))))))))))))
 ·exact ex 0 (qx (by cases H;exact xo rfl (sg [2,4,7])))
theorem SN (x:(Ay×Int)) (z:((Ay×Int)⊕Ay)) (H:FB n p0_ x.1 x.2=some z):WP (cxk 101 0) (Ax Tryz.f22) [1,1,1,1,1,1,0,1,0,0] (Av 0 (NF p0_) (TB) z) (NF p0_ x):=by
 obtain ⟨out_3,i_11⟩:=x
 refine sq (sr (ck 3 (sp (AC eU8 p0_.C) (ck 3 (gc 1 (decide (i_11<((p0_.C.length:Nat):Int))) (pA (en (cn H (λ H=>?_) (λ H=>?_)))))))))
 ·exact sk (qz (sq (bk 3 (rz (ck 6 (bx H λ x138 h385 H=>sp (Am eU8 h385) (ck 2 (bx H λ x139 h386 H=>sp (AA 3 1 h386) (sp (CL eU8 3 0 (ty 64) h386) (ck 1 (bx H λ l50 h387 H=>sp (B6 eU8 5 1 h387) (ck 2 (ae (qN (qz (rz (ck 3 (ae (by cases H;exact og (sg [2,4,7,10,11]))))))))))))))))))))
 ·exact ex 2 (qx (by cases H;exact xo rfl (sg [4,7])))
theorem W8 {z} (H:OY n p0_ p1_=some z):AD Tryz.prog 22 [.agg (O4 p0_),.d (.int .i64 p1_)] (.agg [.d (.str z.Print),.own 1 (z.Cells.map eU8),.d (.int .u8 z.Left),.d (.int .u8 z.Right),.d (.int .i64 z.From),.d (.int .i64 z.To)]):=by
 exact fO 101 (Jie p0_ p1_) Tryz.func22 (sr (ck 2 (en (sr (ck 3 (en (sr (ck 4 (bx H λ x134 h376 H=>sp (AA 2 1 h376) (sp (CL eU8 2 0 (ty 5) h376) (ck 4 (bx H λ x135 h377 H=>sp (AA 2 1 h377) (sp (CL eU8 2 0 (ty 5) h377) (ck 5 (bx H λ gd10 h378 H=>so (LZ h378) (ck 5 (bx H λ gd11 h379 H=>so (LZ h379) (ck 3 (en (sq (sr (ck 1 (en (bk 0 (bx H λ y85 h383 H=>lX SM h383 (tr (tr (BN 1 1 1 (by kernel_rfl)) (BN 3 1 1 (by kernel_rfl))) (sg [2,4,5,7,8])) rfl λ s hE69=>qH (qs (hE69) (sr (ck 2 (en (sr (ck 5 (bx H λ x137 h384 H=>sp (AA 5 1 h384) (sp (CL eU8 5 0 (ty 64) h384) (ck 3 (en (sq (sr (ck 1 (en (bk 2 (bx H λ y86 h388 H=>lX SN h388 (sg [2,4,7,10,11]) rfl λ s hE70=>qH (qs (hE70) (sr (ck 2 (en (re (by cases H;exact pr (rO (v:=.agg [.d (.str z.Print),.osl 3 1 0 (z.Cells.length),.d (.int .u8 z.Left),.d (.int .u8 z.Right),.d (.int .i64 z.From),.d (.int .i64 z.To)]) [3] (a1 (c1 vd (c1 vo (c1 vd (c1 vd (c1 vd (c1 vd (c0))))))))))))))))))))))))))))))))))))))))))))))))))))))))
end
section
variable (p0_:Int)
def Jij:St:=⟨(0,.d (.int .u8 p0_))::[],[]⟩
variable {p0_}
theorem P7 {z} (H:Jd n p0_=some z):AD Tryz.prog 65 [.d (.int .u8 p0_)] (.d (.bool z)):=by
 exact fO 11 (Jij p0_) Tryz.func65 (sr (ck 1 (en (sr (ck 5 (gc 2 (decide (Ch .u8 p0_ 127>=32)) (pA (ck 1 (en (re (by cases H;exact pr rd)))))))))))
end
section
variable (p0_:(List UInt8)) (i_12:Int)
def Jik:St:=⟨(0,.d (.str p0_))::[],[]⟩
def Jil:St:=⟨(0,.d (.str p0_))::(4,.d (.int .i64 i_12))::[],[]⟩
def Jim:St:=⟨(0,.d (.str p0_))::[],[]⟩
def TC:(Unit⊕(Int×Int))->Ex->St->Prop:=xS (xX 0 0 (λ (_:Unit)=>Jim p0_)) (xR ty Tryz.f35 (λ (y:(Int×Int))=>.tup [.d (.int .i64 y.1),.d (.int .i64 y.2)]))
def NG:Int->St:=(λ (x:Int)=>Jil p0_ x)
variable {p0_ i_12}
theorem Mj (x:Int) (z:(Int⊕(Unit⊕(Int×Int)))) (H:II n p0_ x=some z):WP (cxk 19 0) (Ax Tryz.f35) [1,0,1,0,0] (Av 0 (NG p0_) (TC p0_) z) (NG p0_ x):=by
 revert H
 generalize x=i_12
 intro H
 refine sq (sr (ck 4 (en (cn H (λ H=>?_) (λ H=>?_)))))
 ·refine sk (qz (sq (bk 1 (sr (ck 2 (bx H λ b6 h389 H=>sp (Hw h389) (bx H λ r116 h390 H=>ca false (P7 h390) (ck 1 (en (cn H (λ H=>?_) (λ H=>?_)))))))))))
  ·exact sr (ck 3 (en (re (qR (qr (by cases H;exact ro rfl rdT))))))
  ·exact sk (qN (qz (rz (ck 3 (ae (by cases H;exact og (sg [0,4])))))))
 ·exact ex 0 (qx (by cases H;exact xo rfl (sg [0])))
theorem W9 {z} (H:OZ n p0_=some z):AD Tryz.prog 35 [.d (.str p0_)] (.tup [.d (.int .i64 z.1),.d (.int .i64 z.2)]):=by
 refine fO 19 (Jik p0_) Tryz.func35 (sr (ck 2 (en (sq (sr (ck 1 (en (bk 0 (bx H λ y87 h391 H=>?_)))))))))
 rcases y87 with y88|y89
 ·exact lX Mj h391 (sg [0,4]) rfl λ s hE71=>qH (qs (hE71) (sr (ck 4 (en (re (by cases H;exact pr rdT))))))
 ·exact lR Mj h391 (sg [0,4]) rfl λ s hE72=>qR (qr (by cases H;exact pr hE72))
end
section
variable (p0_:(List UInt8))
def Jin:St:=⟨(0,.d (.str p0_))::[],[]⟩
variable {p0_}
theorem NH {z} (H:H2 n p0_=some z):AD Tryz.prog 32 [.d (.str p0_)] (.d (.bool z)):=by
 exact fO 12 (Jin p0_) Tryz.func32 (sr (ck 1 (en (sr (ck 1 (bx H λ r117 h392 H=>ca false (W9 h392) (ck 5 (en (sr (ck 3 (en (re (by cases H;exact pr rd)))))))))))))
end
section
variable (p0_:Int)
def Jio:St:=⟨(0,.d (.int .u8 p0_))::[],[]⟩
variable {p0_}
theorem Vp {z} (H:PT n p0_=some z):AD Tryz.prog 81 [.d (.int .u8 p0_)] (.d (.bool z)):=by
 exact fO 6 (Jio p0_) Tryz.func81 (sr (ck 1 (en (sr (ck 4 (en (re (by cases H;exact pr rd))))))))
end
section
variable (p0_:Ay) (p1_:Int) (space_1:Bool) (i_13:Int) (space_2:Bool) (y90:Bool) (blank_1:Bool) (i_14:Int) (blank_2:Bool)
def Jip:St:=⟨(0,.agg [.d (.str p0_.Print),.d (.sl (p0_.Cells.map eU8)),.d (.int .u8 p0_.Left),.d (.int .u8 p0_.Right),.d (.int .i64 p0_.From),.d (.int .i64 p0_.To)])::(1,.d (.int .i64 p1_))::[],[]⟩
def Jiq:St:=⟨(2,.ptr 0 0)::(5,.d (.bool space_1))::(6,.d (.bool false))::(7,.d (.int .i64 i_13))::[],[some (.box (L9 p0_))]⟩
def Jir:St:=⟨(2,.ptr 0 0)::(5,.d (.bool space_2))::(6,.d (.bool false))::[],[some (.box (L9 p0_))]⟩
def SO:Bool->Ex->St->Prop:=xX 0 0 (λ (y:Bool)=>Jir p0_ y)
def Ml:(Bool×Int)->St:=(λ (x:(Bool×Int))=>Jiq p0_ x.1 x.2)
def Jis:St:=⟨(2,.ptr 0 0)::(5,.d (.bool y90))::(6,.d (.bool blank_1))::(8,.d (.int .i64 i_14))::[],[some (.box (L9 p0_))]⟩
def Jit:St:=⟨(2,.ptr 0 0)::(5,.d (.bool y90))::(6,.d (.bool blank_2))::[],[some (.box (L9 p0_))]⟩
def SP:(Bool⊕Bool)->Ex->St->Prop:=xS (xX 0 2 (λ (y:Bool)=>Jit p0_ y90 y)) (xR ty Tryz.f69 (λ (y:Bool)=>.d (.bool y)))
def Mm:(Bool×Int)->St:=(λ (x:(Bool×Int))=>Jis p0_ y90 x.1 x.2)
variable {p0_ p1_ space_1 i_13 space_2 y90 blank_1 i_14 blank_2}
theorem Q5 (x:(Bool×Int)) (z:((Bool×Int)⊕Bool)) (H:EB n p0_ x.1 x.2=some z):WP (cxk 125 0) (Ax Tryz.f69) [1,1,1,1,0,1,0,0] (Av 0 (Ml p0_) (SO p0_) z) (Ml p0_ x):=by
 obtain ⟨space_1,i_13⟩:=x
 refine sq (sr (ck 5 (en (cn H (λ H=>?_) (λ H=>?_)))))
 ·exact sk (qz (sq (bk 1 (rz (ck 3 (gc 1 (!space_1) (ck 1 (bx H λ b7 h394 H=>sE (λ hg=>Hw (BA h394 hg)) (bx H λ r119 h395 H=>cG false (leZ) rfl (λ hg=>Vp (BA h395 hg)) (Or.inl rfl) (BS (λ hh=>hh) (D0)) rfl (pO (ck 1 (ae (qN (qz (rz (ck 3 (ae (by cases H;exact og (sg [2,5,6,7])))))))))))))))))))
 ·exact ex 0 (qx (by cases H;exact xo rfl (sg [2,5,6])))
theorem Lj (x:(Bool×Int)) (z:((Bool×Int)⊕(Bool⊕Bool))) (H:DF n p0_ y90 x.1 x.2=some z):WP (cxk 125 0) (Ax Tryz.f69) [1,1,1,1,1,0,1,0,0] (Av 0 (Mm p0_ y90) (SP p0_ y90) z) (Mm p0_ y90 x):=by
 obtain ⟨blank_1,i_14⟩:=x
 refine sq (sr (ck 3 (sp (AC eU8 p0_.Cells) (ck 1 (en (cn H (λ H=>?_) (λ H=>?_)))))))
 ·refine sk (qz (sq (bk 3 (sq (sr (ck 3 (bx H λ x140 h397 H=>sp (Am eU8 h397) (ck 2 (en (cn H (λ H=>?_) (λ H=>?_)))))))))))
  ·exact sr (ck 1 (en (re (qr (qR (qr (by cases H;exact ro rfl rd)))))))
  ·exact sk (qz (rz (ck 3 (gc 1 (!blank_1) (ck 1 (bx H λ x141 h398 H=>sE (λ hg=>Am eU8 (BA h398 hg)) (gc 2 (!blank_1) (pO (ck 1 (ae (qN (qz (rz (ck 3 (ae (by cases H;exact og (sg [2,5,6,8])))))))))))))))))
 ·exact ex 2 (qx (by cases H;exact xo rfl (sg [2,5,6])))
theorem Vq {z} (H:MT n p0_ p1_=some z):AD Tryz.prog 69 [.agg (L9 p0_),.d (.int .i64 p1_)] (.d (.bool z)):=by
 refine fO 125 (Jip p0_ p1_) Tryz.func69 (sr (ck 2 (en (sq (sr (ck 2 (bx H λ r118 h393 H=>ca false (NH h393) (ck 3 (gc 3 (!(!r118)) (pO (ck 2 (gc 1 (!((!r118)||(decide (((p0_.Print.length:Nat):Int)>4)))) (sE (g:=(!((!r118)||(decide (((p0_.Print.length:Nat):Int)>4))))) (λ hg=>AC eU8 p0_.Cells) (gc 1 (!((!r118)||(decide (((p0_.Print.length:Nat):Int)>4)))) (pO (ck 2 (gc 1 (!(((!r118)||(decide (((p0_.Print.length:Nat):Int)>4)))||(decide (((p0_.Cells.length:Nat):Int)<1)))) (sE (g:=(!(((!r118)||(decide (((p0_.Print.length:Nat):Int)>4)))||(decide (((p0_.Cells.length:Nat):Int)<1))))) (λ hg=>AC eU8 p0_.Cells) (gc 1 (!(((!r118)||(decide (((p0_.Print.length:Nat):Int)>4)))||(decide (((p0_.Cells.length:Nat):Int)<1)))) (pO (en (cn H (λ H=>?_) (λ H=>?_)))))))))))))))))))))))
 ·exact sr (ck 1 (en (re (qr (by cases H;exact pr rd)))))
 ·refine sk (qz (sq (sr (ck 5 (gc 2 (!(decide (p0_.Left<1))) (pO (ck 2 (gc 2 (!((decide (p0_.Left<1))||(decide (p0_.Left>63)))) (pO (ck 2 (gc 2 (!(((decide (p0_.Left<1))||(decide (p0_.Left>63)))||(decide (p0_.Right<1)))) (pO (ck 2 (gc 2 (!((((decide (p0_.Left<1))||(decide (p0_.Left>63)))||(decide (p0_.Right<1)))||(decide (p0_.Right>63)))) (pO (ck 2 (gc 1 (!(((((decide (p0_.Left<1))||(decide (p0_.Left>63)))||(decide (p0_.Right<1)))||(decide (p0_.Right>63)))||(decide (p0_.From<0)))) (ck 1 (gc 1 (!(((((decide (p0_.Left<1))||(decide (p0_.Left>63)))||(decide (p0_.Right<1)))||(decide (p0_.Right>63)))||(decide (p0_.From<0)))) (pO (ck 2 (gc 2 (!((((((decide (p0_.Left<1))||(decide (p0_.Left>63)))||(decide (p0_.Right<1)))||(decide (p0_.Right>63)))||(decide (p0_.From<0)))||(decide (p0_.From>=p1_)))) (pO (ck 2 (gc 1 (!(((((((decide (p0_.Left<1))||(decide (p0_.Left>63)))||(decide (p0_.Right<1)))||(decide (p0_.Right>63)))||(decide (p0_.From<0)))||(decide (p0_.From>=p1_)))||(decide (p0_.To<0)))) (ck 1 (gc 1 (!(((((((decide (p0_.Left<1))||(decide (p0_.Left>63)))||(decide (p0_.Right<1)))||(decide (p0_.Right>63)))||(decide (p0_.From<0)))||(decide (p0_.From>=p1_)))||(decide (p0_.To<0)))) (pO (en (cn H (λ H=>?_) (λ H=>?_)))))))))))))))))))))))))))))))
  ·exact sr (ck 1 (en (re (qr (by cases H;exact pr rd)))))
  ·refine sk (qz (sr (ck 2 (en (sq (sr (ck 1 (en (bk 0 (bx H λ y90 h396 H=>lX Q5 h396 (sg [2,5,6,7]) rfl λ s hE73=>qH (qs (hE73) (sq (sr (ck 1 (en (bk 2 (bx H λ y91 h399 H=>?_)))))))))))))))))
   rcases y91 with y92|y93
   ·refine lX Lj h399 (sg [2,5,6,8]) rfl λ s hE74=>qH (qs (hE74) (sq (sr (ck 2 (en (cn H (λ H=>?_) (λ H=>?_)))))))
    ·exact sr (ck 3 (en (re (qr (by cases H;exact pr rd)))))
    ·exact sk (qz (sr (ck 6 (gc 1 (((p0_.Print.length:Nat):Int)==1) (sE (g:=(((p0_.Print.length:Nat):Int)==1)) (λ hg=>AC eU8 p0_.Cells) (gc 1 (((p0_.Print.length:Nat):Int)==1) (pA (ck 2 (pA (ck 1 (en (re (by cases H;exact pr rd)))))))))))))
   ·exact lR Lj h399 (sg [2,5,6,8]) rfl λ s hE75=>qR (qr (by cases H;exact pr hE75))
end
section
variable (p0_:Ay) (p1_:Ay)
def Jiu:St:=⟨(0,.agg [.d (.str p0_.Print),.d (.sl (p0_.Cells.map eU8)),.d (.int .u8 p0_.Left),.d (.int .u8 p0_.Right),.d (.int .i64 p0_.From),.d (.int .i64 p0_.To)])::(1,.agg [.d (.str p1_.Print),.d (.sl (p1_.Cells.map eU8)),.d (.int .u8 p1_.Left),.d (.int .u8 p1_.Right),.d (.int .i64 p1_.From),.d (.int .i64 p1_.To)])::[],[]⟩
variable {p0_ p1_}
theorem Q6 {z} (H:HF n p0_ p1_=some z):AD Tryz.prog 70 [.agg (L9 p0_),.agg (L9 p1_)] (.d (.bool z)):=by
 exact fO 45 (Jiu p0_ p1_) Tryz.func70 (sr (ck 3 (en (sr (ck 7 (gc 1 (p0_.Print==p1_.Print) (ck 1 (gc 1 (p0_.Print==p1_.Print) (bx H λ r120 h400 H=>cG false (leZ) rfl (λ hg=>JS (BA h400 hg)) (Or.inl rfl) (BS (λ hh=>hh) (BS (λ hh=>hh) (D0))) rfl (pA (ck 2 (gc 1 ((p0_.Print==p1_.Print)&&r120) (ck 1 (gc 2 ((p0_.Print==p1_.Print)&&r120) (pA (ck 2 (gc 1 (((p0_.Print==p1_.Print)&&r120)&&(p0_.Left==p1_.Left)) (ck 1 (gc 2 (((p0_.Print==p1_.Print)&&r120)&&(p0_.Left==p1_.Left)) (pA (ck 2 (gc 1 ((((p0_.Print==p1_.Print)&&r120)&&(p0_.Left==p1_.Left))&&(p0_.Right==p1_.Right)) (ck 1 (gc 2 ((((p0_.Print==p1_.Print)&&r120)&&(p0_.Left==p1_.Left))&&(p0_.Right==p1_.Right)) (pA (ck 2 (gc 1 (((((p0_.Print==p1_.Print)&&r120)&&(p0_.Left==p1_.Left))&&(p0_.Right==p1_.Right))&&(p0_.From==p1_.From)) (ck 1 (gc 2 (((((p0_.Print==p1_.Print)&&r120)&&(p0_.Left==p1_.Left))&&(p0_.Right==p1_.Right))&&(p0_.From==p1_.From)) (pA (ck 1 (en (re (by cases H;exact pr rd))))))))))))))))))))))))))))))))))
end
section
variable (p0_:Ad) (i_15:Int) (k_2:Int)
def Jiv:St:=⟨(0,.agg [.d (.int .i64 p0_.Modes),.d (.int .u8 p0_.Accept),.d (.sl (p0_.Rules.map An))])::[],[]⟩
def Jiw:St:=⟨(1,.ptr 0 0)::(4,.d (.int .i64 i_15))::[],[some (.box (AK p0_))]⟩
def Jix:St:=⟨[],[]⟩
def Jiy:St:=⟨(1,.ptr 0 0)::(4,.d (.int .i64 i_15))::(5,.d (.int .i64 k_2))::[],[some (.box (AK p0_))]⟩
def Jiz:St:=⟨(1,.ptr 0 0)::(4,.d (.int .i64 i_15))::[],[some (.box (AK p0_))]⟩
def SQ:(Unit⊕(Int×Int))->Ex->St->Prop:=xS (xX 0 2 (λ (_:Unit)=>Jiz p0_ i_15)) (xR ty Tryz.f46 (λ (y:(Int×Int))=>.tup [.d (.int .i64 y.1),.d (.int .i64 y.2)]))
def Mn:Int->St:=(λ (x:Int)=>Jiy p0_ i_15 x)
def SR:(Unit⊕(Int×Int))->Ex->St->Prop:=xS (xX 0 0 (λ (_:Unit)=>Jix)) (xR ty Tryz.f46 (λ (y:(Int×Int))=>.tup [.d (.int .i64 y.1),.d (.int .i64 y.2)]))
def Mo:Int->St:=(λ (x:Int)=>Jiw p0_ x)
variable {p0_ i_15 k_2}
theorem Lk (x:Int) (z:(Int⊕(Unit⊕(Int×Int)))) (H:FT n p0_ i_15 x=some z):WP (cxk 74 0) (Ax Tryz.f46) [1,1,0,1,0,0,1,0,0,1,1,0,0] (Av 0 (Mn p0_ i_15) (SQ p0_ i_15) z) (Mn p0_ i_15 x):=by
 revert H
 generalize x=k_2
 intro H
 refine sq (sr (ck 3 (en (cn H (λ H=>?_) (λ H=>?_)))))
 ·refine sk (qz (sq (bk 3 (sr (ck 3 (bx H λ x143 h404 H=>sp (Am An h404) (ck 4 (bx H λ x144 h405 H=>sp (Am An h405) (ck 1 (bx H λ r122 h406 H=>ca false (Q6 h406) (en (cn H (λ H=>?_) (λ H=>?_)))))))))))))
  ·exact sr (ck 3 (en (re (qR (qr (by cases H;exact ro rfl rdT))))))
  ·exact sk (qN (qz (rz (ck 3 (ae (by cases H;exact og (sg [1,4,5])))))))
 ·exact ex 2 (qx (by cases H;exact xo rfl (sg [1,4])))
theorem Ll (x:Int) (z:(Int⊕(Unit⊕(Int×Int)))) (H:FU n p0_ x=some z):WP (cxk 74 0) (Ax Tryz.f46) [1,1,0,1,0,0] (Av 0 (Mo p0_) (SR) z) (Mo p0_ x):=by
 revert H
 generalize x=i_15
 intro H
 refine sq (sr (ck 3 (sp (AC An p0_.Rules) (ck 1 (en (cn H (λ H=>?_) (λ H=>?_)))))))
 ·refine sk (qz (sq (bk 1 (sq (sr (ck 3 (bx H λ x142 h402 H=>sp (Am An h402) (ck 3 (bx H λ r121 h403 H=>ca false (Vq h403) (ck 1 (en (cn H (λ H=>?_) (λ H=>?_)))))))))))))
  ·exact sr (ck 3 (en (re (qr (qR (qr (by cases H;exact ro rfl rdT)))))))
  ·refine sk (qz (sr (ck 1 (en (bk 2 (bx H λ y94 h407 H=>?_))))))
   rcases y94 with y95|y96
   ·exact lX Lk h407 (sg [1,4,5]) rfl λ s hE76=>qH (qN (qs (hE76) (rz (ck 3 (ae (by cases H;exact og (sg [1,4])))))))
   ·exact lR Lk h407 (sg [1,4,5]) rfl λ s hE77=>qR (qR (qr (by cases H;exact ro rfl hE77)))
 ·exact ex 0 (qx (by cases H;exact xo rfl (sg [])))
theorem Vr {z} (H:MU n p0_=some z):AD Tryz.prog 46 [.agg (AK p0_)] (.tup [.d (.int .i64 z.1),.d (.int .i64 z.2)]):=by
 refine fO 74 (Jiv p0_) Tryz.func46 (sr (ck 3 (en (sq (sr (ck 5 (gc 2 (!(decide (p0_.Modes<1))) (pO (ck 2 (gc 2 (!((decide (p0_.Modes<1))||(decide (p0_.Modes>8)))) (pO (ck 2 (gc 2 (!(((decide (p0_.Modes<1))||(decide (p0_.Modes>8)))||(p0_.Accept==0))) (ck 1 (gc 1 (!(((decide (p0_.Modes<1))||(decide (p0_.Modes>8)))||(p0_.Accept==0))) (bx H λ gd12 h401 H=>soG (λ hg=>HV (BA h401 hg)) (BS (λ hh=>hh) (D0)) (gc 1 (!(((decide (p0_.Modes<1))||(decide (p0_.Modes>8)))||(p0_.Accept==0))) (pO (ck 2 (gc 1 (!((((decide (p0_.Modes<1))||(decide (p0_.Modes>8)))||(p0_.Accept==0))||(decide (IntKind.i64.wrap p0_.Accept>=Tr .i64 1 p0_.Modes)))) (sE (g:=(!((((decide (p0_.Modes<1))||(decide (p0_.Modes>8)))||(p0_.Accept==0))||(decide (IntKind.i64.wrap p0_.Accept>=Tr .i64 1 p0_.Modes))))) (λ hg=>AC An p0_.Rules) (gc 1 (!((((decide (p0_.Modes<1))||(decide (p0_.Modes>8)))||(p0_.Accept==0))||(decide (IntKind.i64.wrap p0_.Accept>=Tr .i64 1 p0_.Modes)))) (pO (ck 2 (gc 1 (!(((((decide (p0_.Modes<1))||(decide (p0_.Modes>8)))||(p0_.Accept==0))||(decide (IntKind.i64.wrap p0_.Accept>=Tr .i64 1 p0_.Modes)))||(decide (((p0_.Rules.length:Nat):Int)<1)))) (sE (g:=(!(((((decide (p0_.Modes<1))||(decide (p0_.Modes>8)))||(p0_.Accept==0))||(decide (IntKind.i64.wrap p0_.Accept>=Tr .i64 1 p0_.Modes)))||(decide (((p0_.Rules.length:Nat):Int)<1))))) (λ hg=>AC An p0_.Rules) (gc 1 (!(((((decide (p0_.Modes<1))||(decide (p0_.Modes>8)))||(p0_.Accept==0))||(decide (IntKind.i64.wrap p0_.Accept>=Tr .i64 1 p0_.Modes)))||(decide (((p0_.Rules.length:Nat):Int)<1)))) (pO (en (cn H (λ H=>?_) (λ H=>?_)))))))))))))))))))))))))))))))
 ·exact sr (ck 2 (en (re (qr (by cases H;exact pr rdT)))))
 ·refine sk (qz (sq (sr (ck 1 (en (bk 0 (bx H λ y97 h408 H=>?_)))))))
  rcases y97 with y98|y99
  ·exact lX Ll h408 (sg [1,4]) rfl λ s hE78=>qH (qs (hE78) (sr (ck 2 (en (re (by cases H;exact pr rdT))))))
  ·exact lR Ll h408 (sg [1,4]) rfl λ s hE79=>qR (qr (by cases H;exact pr hE79))
end
section
variable (p0_:Ad)
def JiA:St:=⟨(0,.agg [.d (.int .i64 p0_.Modes),.d (.int .u8 p0_.Accept),.d (.sl (p0_.Rules.map An))])::[],[]⟩
variable {p0_}
theorem Vs {z} (H:PU n p0_=some z):AD Tryz.prog 23 [.agg (AK p0_)] (.d (.bool z)):=by
 exact fO 12 (JiA p0_) Tryz.func23 (sr (ck 2 (en (sr (ck 1 (bx H λ r123 h409 H=>ca false (Vr h409) (ck 5 (en (sr (ck 3 (en (re (by cases H;exact pr rd)))))))))))))
end
section
variable (p0_:Nf) (r124:Ad) (t_3:Ad) (i_16:Int) (t_4:Ad) (t_5:Ad) (t_6:Ad) (i_17:Int) (t_7:Ad) (t_8:Ad) (t_9:Ad)
def Jkv:St:=⟨(0,.agg [.d (.int .u8 p0_.Base),.d (.int .u8 p0_.Drop),.d (.sl (p0_.More.map FG))])::[],[]⟩
def Jkw:St:=⟨(1,.ptr 0 0)::(2,.ptr 1 0)::(3,.ptr 2 0)::(4,.osl 3 6 0 (r124.Rules.length))::(5,.d (.int .i64 i_16))::[],[some (.box (Yn p0_)),some (.box [.d (.int .i64 0),.d (.int .u8 0),.osl 4 6 0 (List.length ([]:List Ay))]),some (.box (FX t_3 (.osl 5 6 0 (t_3.Rules.length)))),some (.arr 6 (r124.Rules.map An)),some (.arr 6 (List.map An ([]:List Ay))),some (.arr 6 (t_3.Rules.map An))]⟩
def Jkx:St:=⟨(1,.ptr 0 0)::(2,.ptr 1 0)::(3,.ptr 2 0)::(4,.osl 3 6 0 (r124.Rules.length))::[],[some (.box (Yn p0_)),some (.box [.d (.int .i64 0),.d (.int .u8 0),.osl 4 6 0 (List.length ([]:List Ay))]),some (.box (FX t_4 (.osl 5 6 0 (t_4.Rules.length)))),some (.arr 6 (r124.Rules.map An)),some (.arr 6 (List.map An ([]:List Ay))),some (.arr 6 (t_4.Rules.map An))]⟩
def Jky:St:=⟨(1,.ptr 0 0)::(2,.ptr 1 0)::(3,.ptr 2 0)::(4,.osl 3 6 0 (r124.Rules.length))::(5,.d (.int .i64 i_16))::[],[some (.box (Yn p0_)),some (.box [.d (.int .i64 0),.d (.int .u8 0),.osl 4 6 0 (List.length ([]:List Ay))]),some (.box (FX t_5 (.osl 5 6 0 (t_5.Rules.length)))),some (.arr 6 (r124.Rules.map An)),some (.arr 6 (List.map An ([]:List Ay))),some (.arr 6 (t_5.Rules.map An))]⟩
def TD:Ad->Ex->St->Prop:=xX 0 0 (λ (y:Ad)=>Jkx p0_ r124 y)
def NI:(Ad×Int)->St:=(λ (x:(Ad×Int))=>Jkw p0_ r124 x.1 x.2)
def Jkz:St:=⟨(1,.ptr 0 0)::(2,.ptr 1 0)::(3,.ptr 2 0)::(4,.osl 3 6 0 (r124.Rules.length))::(6,.d (.int .i64 i_17))::[],[some (.box (Yn p0_)),some (.box [.d (.int .i64 0),.d (.int .u8 0),.osl 4 6 0 (List.length ([]:List Ay))]),some (.box (FX t_6 (.osl 5 6 0 (t_6.Rules.length)))),some (.arr 6 (r124.Rules.map An)),some (.arr 6 (List.map An ([]:List Ay))),some (.arr 6 (t_6.Rules.map An))]⟩
def JkA:St:=⟨(2,.ptr 0 0)::(3,.ptr 1 0)::(4,.osl 2 6 0 (r124.Rules.length))::[],[some (.box [.d (.int .i64 0),.d (.int .u8 0),.osl 3 6 0 (List.length ([]:List Ay))]),some (.box (FX t_7 (.osl 4 6 0 (t_7.Rules.length)))),some (.arr 6 (r124.Rules.map An)),some (.arr 6 (List.map An ([]:List Ay))),some (.arr 6 (t_7.Rules.map An))]⟩
def JkB:St:=⟨(1,.ptr 0 0)::(2,.ptr 1 0)::(3,.ptr 2 0)::(4,.osl 3 6 0 (r124.Rules.length))::(6,.d (.int .i64 i_17))::[],[some (.box (Yn p0_)),some (.box [.d (.int .i64 0),.d (.int .u8 0),.osl 4 6 0 (List.length ([]:List Ay))]),some (.box (FX t_8 (.osl 5 6 0 (t_8.Rules.length)))),some (.arr 6 (r124.Rules.map An)),some (.arr 6 (List.map An ([]:List Ay))),some (.arr 6 (t_8.Rules.map An))]⟩
def TE:Ad->Ex->St->Prop:=xX 0 2 (λ (y:Ad)=>JkA r124 y)
def NJ:(Ad×Int)->St:=(λ (x:(Ad×Int))=>Jkz p0_ r124 x.1 x.2)
def JkC:St:=⟨(2,.ptr 0 0)::(3,.ptr 1 0)::[],[some (.box [.d (.int .i64 0),.d (.int .u8 0),.osl 2 6 0 (List.length ([]:List Ay))]),some (.box (FX t_9 (.osl 3 6 0 (t_9.Rules.length)))),some (.arr 6 (List.map An ([]:List Ay))),some (.arr 6 (t_9.Rules.map An))]⟩
variable {p0_ r124 t_3 i_16 t_4 t_5 t_6 i_17 t_7 t_8 t_9}
theorem SS (x:(Ad×Int)) (z:((Ad×Int)⊕Ad)) (H:FC n p0_ r124 x.1 x.2=some z):WP (cxk 77 0) (Ax Tryz.f7) [1,1,1,1,0,1,0,0] (Av 0 (NI p0_ r124) (TD p0_ r124) z) (NI p0_ r124 x):=by
 obtain ⟨t_3,i_16⟩:=x
 refine sq (sr (ck 4 (en (cn H (λ H=>?_) (λ H=>?_)))))
 ·refine sk (qz (sj (λ (x:Ad)=>Jky p0_ r124 i_16 x) (λ (x:Ad)=>G2 n i_16 x) z ?_ (λ hFR2_Made_J1=>?_)))
  ·intro t_5 H
   exact rz (ck 3 (ae (by cases H;exact og (sg [1,2,3,4,5]))))
  refine bk 1 (sr (ck 3 (bx H λ gd13 h411 H=>so (HV h411) (ck 2 (en (cn H (λ H=>?_) (λ H=>?_)))))))
  ·exact rz (ck 4 (bx H λ x145 h412 H=>sp (AA 3 6 h412) (sp (CL An 3 0 (ty 67) h412) (ck 1 (bx H λ l51 h413 H=>sp (B6 An 5 6 h413) (ck 2 (ae (qN (qs (sg [1,2,3,4,5]) (hFR2_Made_J1 ({ Modes:=t_3.Modes,Accept:=t_3.Accept,Rules:=l51 }:Ad) H))))))))))
  ·exact sk (qN (qs (sg [1,2,3,4,5]) (hFR2_Made_J1 t_3 H)))
 ·exact ex 0 (qx (by cases H;exact xo rfl (sg [1,2,3,4])))
theorem ST (x:(Ad×Int)) (z:((Ad×Int)⊕Ad)) (H:FD n p0_ r124 x.1 x.2=some z):WP (cxk 77 0) (Ax Tryz.f7) [1,1,1,1,1,0,1,0,0] (Av 0 (NJ p0_ r124) (TE r124) z) (NJ p0_ r124 x):=by
 obtain ⟨t_6,i_17⟩:=x
 refine sq (sr (ck 3 (sp (AC FG p0_.More) (ck 3 (gc 1 (decide (i_17<((p0_.More.length:Nat):Int))) (pA (en (cn H (λ H=>?_) (λ H=>?_)))))))))
 ·refine sk (qz (sj (λ (x:Ad)=>JkB p0_ r124 i_17 x) (λ (x:Ad)=>G3 n i_17 x) z ?_ (λ hFR2_Made_J2=>?_)))
  ·intro t_8 H
   exact rz (ck 3 (ae (by cases H;exact og (sg [1,2,3,4,6]))))
  refine bk 3 (sr (ck 5 (bx H λ x146 h415 H=>sp (Am FG h415) (ck 3 (bx H λ r125 h416 H=>ca false (W8 h416) (ck 1 (bx H λ l52 h417 H=>sp (B6 An 5 6 h417) (ck 2 (en (sr (ck 1 (bx H λ r126 h418 H=>cb (ks:=[7]) (obl:=[(0+List.length l52,List.length (l52.map An))]) false (leK leM (leZ)) (Dz (JjH (Dz rfl (Dz rfl (Dz Sr rfl)))) rfl) (Vs h418) (Or.inr trivial) rfl (ck 1 (en (cn H (λ H=>?_) (λ H=>?_))))))))))))))))
  ·exact rz (ck 6 (bx H λ l53 h419 H=>sp (JgH 7 6 h419) (ck 2 (ae (qN (qs (tr (JeH (k:=7) (sz:=6) 2 2 (l53.map An) (l53.length) (by kernel_rfl) (JeM h419) (Jgy (enc:=An) h419) (JeN h419)) (sg [1,2,3,4,6])) (hFR2_Made_J2 ({ Modes:=t_6.Modes,Accept:=t_6.Accept,Rules:=l53 }:Ad) H)))))))
  ·exact sk (qN (qs (sg [1,2,3,4,6]) (hFR2_Made_J2 ({ Modes:=t_6.Modes,Accept:=t_6.Accept,Rules:=l52 }:Ad) H)))
 ·exact ex 2 (qx (by cases H;exact xo rfl (sg [2,3,4])))
theorem Xa {z} (H:JH n p0_=some z):AD Tryz.prog 7 [.agg (Yn p0_)] (.agg [.d (.int .i64 z.Modes),.d (.int .u8 z.Accept),.own 6 (z.Rules.map An)]):=by
 refine fO 77 (Jkv p0_) Tryz.func7 (sr (ck 2 (en (sr (ck 2 (bx H λ r124 h410 H=>cl [List.length r124.Rules] (W7 h410) (ck 2 (en (sr (ck 3 (en (sr (ck 3 (en (sq (sr (ck 1 (en (bk 0 (bx H λ y100 h414 H=>lX SS h414 (tr (BN 1 2 6 (by kernel_rfl)) (sg [1,2,3,4,5])) rfl λ s hE80=>qH (qs (hE80) (sq (sr (ck 1 (en (bk 2 (bx H λ y101 h420 H=>lX ST h420 (sg [1,2,3,4,6]) rfl λ s hE81=>qH (qs (hE81) (sj (λ (x:Ad)=>JkC x) (λ (x:Ad)=>G4 n x) z ?_ (λ hFR2_Made_J3=>?_))))))))))))))))))))))))))))))
 ·intro t_9 H
  exact sr (ck 2 (en (re (by cases H;exact pr (rO (v:=.agg [.d (.int .i64 z.Modes),.d (.int .u8 z.Accept),.osl 3 6 0 (z.Rules.length)]) [3] (a1 (c1 vd (c1 vd (c1 vo (c0))))))))))
 refine sr (ck 4 (en (cn H (λ H=>?_) (λ H=>?_))))
 ·exact rz (ck 3 (ae (qs (sg [2,3]) (hFR2_Made_J3 ({ Modes:=y101.Modes,Accept:=y101.Accept,Rules:=r124.Rules }:Ad) H))))
 ·exact sk (qs (sg [2,3]) (hFR2_Made_J3 y101 H))
end
section
variable (p0_:Ad) (p1_:(List Int)) (out_5:(List UInt8)) (i_18:Int) (out_6:(List UInt8)) (out_7:(List UInt8))
def JkD:St:=⟨(0,.agg [.d (.int .i64 p0_.Modes),.d (.int .u8 p0_.Accept),.d (.sl (p0_.Rules.map An))])::(1,.d (.sl (p1_.map eU8)))::[],[]⟩
def JkE:St:=⟨(1,.d (.sl (p1_.map eU8)))::(2,.ptr 0 0)::(5,.d (.str out_5))::(6,.d (.int .i64 i_18))::[],[some (.box (AK p0_))]⟩
def JkF:St:=⟨(5,.d (.str out_6))::[],[]⟩
def JkG:St:=⟨(1,.d (.sl (p1_.map eU8)))::(2,.ptr 0 0)::(5,.d (.str out_7))::(6,.d (.int .i64 i_18))::[],[some (.box (AK p0_))]⟩
def P8:(List UInt8)->Ex->St->Prop:=xX 0 0 (λ (y:(List UInt8))=>JkF y)
def JT:((List UInt8)×Int)->St:=(λ (x:((List UInt8)×Int))=>JkE p0_ p1_ x.1 x.2)
variable {p0_ p1_ out_5 i_18 out_6 out_7}
theorem Pd (x:((List UInt8)×Int)) (z:(((List UInt8)×Int)⊕(List UInt8))) (H:Eg n p0_ p1_ x.1 x.2=some z):WP (cxk 48 0) (Ax Tryz.f8) [1,1,0,1,0,0] (Av 0 (JT p0_ p1_) (P8) z) (JT p0_ p1_ x):=by
 obtain ⟨out_5,i_18⟩:=x
 refine sq (sr (ck 2 (sp (AC eU8 p1_) (ck 3 (gc 1 (decide (i_18<((p1_.length:Nat):Int))) (pA (ck 2 (gc 1 ((decide (i_18<((p1_.length:Nat):Int)))&&(decide (i_18<12))) (sE (g:=((decide (i_18<((p1_.length:Nat):Int)))&&(decide (i_18<12)))) (λ hg=>AC An p0_.Rules) (gc 1 ((decide (i_18<((p1_.length:Nat):Int)))&&(decide (i_18<12))) (pA (en (cn H (λ H=>?_) (λ H=>?_))))))))))))))
 ·refine sk (qz (sj (λ (x:(List UInt8))=>JkG p0_ p1_ i_18 x) (λ (x:(List UInt8))=>Ef n i_18 x) z ?_ (λ hFR2_Spelled_J1=>?_)))
  ·intro out_7 H
   exact rz (ck 3 (ae (by cases H;exact og (sg [1,2,5,6]))))
  refine bk 1 (sr (ck 4 (bx H λ x147 h421 H=>sp (Am eU8 h421) (ck 4 (sp (AC An p0_.Rules) (bx H λ gd14 h422 H=>so (LZ h422) (bx H λ x148 h423 H=>sp (Am An h423) (ck 3 (en (sr (ck 6 (en (cn H (λ H=>?_) (λ H=>?_))))))))))))))
  ·exact rz (ck 2 (bx H λ s11 h424 H=>sp (PN h424) (ck 1 (ae (qN (qs (sg [1,2,5,6]) (hFR2_Spelled_J1 s11 H)))))))
  ·exact sk (qN (qs (sg [1,2,5,6]) (hFR2_Spelled_J1 out_5 H)))
 ·exact ex 0 (qx (by cases H;exact xo rfl (sg [5])))
theorem Mp {z} (H:G5 n p0_ p1_=some z):AD Tryz.prog 8 [.agg (AK p0_),.d (.sl (p1_.map eU8))] (.d (.str z)):=by
 exact fO 48 (JkD p0_ p1_) Tryz.func8 (sr (ck 2 (en (sr (ck 1 (en (sq (sr (ck 1 (en (bk 0 (bx H λ y102 h425 H=>lX Pd h425 (sg [1,2,5,6]) rfl λ s hE82=>qH (qs (hE82) (sr (ck 2 (en (re (by cases H;exact pr rd))))))))))))))))))
end
def JiB:St:=⟨[],[]⟩
theorem Vt {z} (H:Us n=some z):AD Tryz.prog 38 [] (.agg [.d (.int .i64 z.Mode),.d (.int .i64 z.Last),.d (.int .u8 z.Need)]):=by
 exact fO 2 JiB Tryz.func38 (sr (ck 1 (en (sr (ck 2 (en (re (by cases H;exact pr rd))))))))
section
variable (p0_:Int) (p1_:Int)
def JiC:St:=⟨(0,.d (.int .u8 p0_))::(1,.d (.int .i64 p1_))::[],[]⟩
variable {p0_ p1_}
theorem KD {z} (H:Kk n p0_ p1_=some z):AD Tryz.prog 68 [.d (.int .u8 p0_),.d (.int .i64 p1_)] (.d (.bool z)):=by
 exact fO 18 (JiC p0_ p1_) Tryz.func68 (sr (ck 1 (en (sr (ck 4 (gc 1 (decide (p1_>=0)) (pA (ck 3 (bx H λ gd15 h426 H=>soG (λ hg=>HV (BA h426 hg)) (BS (λ hh=>hh) (BS (λ hh=>hh) (D0))) (gc 2 ((decide (p1_>=0))&&(decide (p1_<8))) (pA (ck 1 (en (re (by cases H;exact pr rd)))))))))))))))
end
section
variable (p0_:Int)
def JiD:St:=⟨(0,.d (.int .u8 p0_))::[],[]⟩
variable {p0_}
theorem Pe {z} (H:JI n p0_=some z):AD Tryz.prog 67 [.d (.int .u8 p0_)] (.d (.int .i64 z)):=by
 refine fO 26 (JiD p0_) Tryz.func67 (sr (ck 1 (en (sr (ck 3 (en (sq (sr (ck 4 (gc 1 (decide (Ch .u8 p0_ 127>=97)) (pA (en (cn H (λ H=>?_) (λ H=>?_))))))))))))))
 ·exact sr (ck 1 (en (re (qr (by cases H;exact pr rd)))))
 ·refine sk (qz (sq (sr (ck 4 (gc 1 (decide (Ch .u8 p0_ 127>=65)) (pA (en (cn H (λ H=>?_) (λ H=>?_)))))))))
  ·exact sr (ck 1 (en (re (qr (by cases H;exact pr rd)))))
  ·refine sk (qz (sq (sr (ck 4 (gc 1 (decide (Ch .u8 p0_ 127>=48)) (pA (en (cn H (λ H=>?_) (λ H=>?_)))))))))
   ·exact sr (ck 1 (en (re (qr (by cases H;exact pr rd)))))
   ·refine sk (qz (sq (sr (ck 2 (en (cn H (λ H=>?_) (λ H=>?_)))))))
    ·exact sr (ck 1 (en (re (qr (by cases H;exact pr rd)))))
    ·exact sk (qz (sr (ck 1 (en (re (by cases H;exact pr rd))))))
end
section
variable (p0_:Ad) (p1_:Ab) (p2_:Int)
def JiE:St:=⟨(0,.agg [.d (.int .i64 p0_.Modes),.d (.int .u8 p0_.Accept),.d (.sl (p0_.Rules.map An))])::(1,.agg [.d (.int .i64 p1_.Mode),.d (.int .i64 p1_.Last),.d (.int .u8 p1_.Need)])::(2,.d (.int .i64 p2_))::[],[]⟩
variable {p0_ p1_ p2_}
theorem QN {z} (H:L7 n p0_ p1_ p2_=some z):AD Tryz.prog 41 [.agg (AK p0_),.agg (Je p1_),.d (.int .i64 p2_)] (.tup [.agg [.d (.int .i64 z.1.Mode),.d (.int .i64 z.1.Last),.d (.int .u8 z.1.Need)],.d (.bool z.2)]):=by
 refine fO 87 (JiE p0_ p1_ p2_) Tryz.func41 (sr (ck 4 (en (sq (sr (ck 5 (gc 1 (!(decide (p2_<0))) (sE (g:=(!(decide (p2_<0)))) (λ hg=>AC An p0_.Rules) (gc 1 (!(decide (p2_<0))) (pO (en (cn H (λ H=>?_) (λ H=>?_)))))))))))))
 ·exact sr (ck 3 (en (re (qr (by cases H;exact pr rdT)))))
 ·refine sk (qz (sr (ck 3 (bx H λ x149 h427 H=>sp (Am An h427) (ck 3 (en (sq (sr (ck 7 (gc 1 (!(x149.From != p1_.Mode)) (ck 1 (gc 1 (!(x149.From != p1_.Mode)) (bx H λ r127 h428 H=>cG false (leZ) rfl (λ hg=>KD (BA h428 hg)) (Or.inl rfl) (BS (λ hh=>hh) (BS (λ hh=>hh) (D0))) rfl (gc 1 (!(x149.From != p1_.Mode)) (pO (en (cn H (λ H=>?_) (λ H=>?_))))))))))))))))))
  ·exact sr (ck 3 (en (re (qr (by cases H;exact pr rdT)))))
  ·refine sk (qz (sq (sr (ck 6 (gc 1 (((x149.Print.length:Nat):Int)==0) (ck 1 (gc 3 (((x149.Print.length:Nat):Int)==0) (pA (en (cn H (λ H=>?_) (λ H=>?_)))))))))))
   ·exact sr (ck 3 (en (re (qr (by cases H;exact pr rdT)))))
   ·refine sk (qz (sq (sr (ck 4 (en (cn H (λ H=>?_) (λ H=>?_)))))))
    ·exact sr (ck 12 (en (re (qr (by cases H;exact pr rdT)))))
    ·refine sk (qz (sq (sr (ck 4 (bx H λ b8 h429 H=>sp (Hw h429) (bx H λ r128 h430 H=>ca false (Pe h430) (bx H λ r129 h431 H=>ca false (KD h431) (ck 1 (en (cn H (λ H=>?_) (λ H=>?_)))))))))))
     ·exact sr (ck 3 (en (re (qr (by cases H;exact pr rdT)))))
     ·exact sk (qz (sr (ck 8 (bx H λ b9 h432 H=>sp (Hw h432) (bx H λ r130 h433 H=>ca false (Pe h433) (ck 5 (en (re (by cases H;exact pr rdT)))))))))
end
section
variable (p0_:(List Ab)) (p1_:Ab) (i_19:Int)
def JiF:St:=⟨(0,.d (.sl (p0_.map Aj)))::(1,.agg [.d (.int .i64 p1_.Mode),.d (.int .i64 p1_.Last),.d (.int .u8 p1_.Need)])::[],[]⟩
def JiG:St:=⟨(0,.d (.sl (p0_.map Aj)))::(3,.ptr 0 0)::(5,.d (.int .i64 i_19))::[],[some (.box (Je p1_))]⟩
def JiH:St:=⟨[],[]⟩
def SU:(Unit⊕Int)->Ex->St->Prop:=xS (xX 0 0 (λ (_:Unit)=>JiH)) (xR ty Tryz.f39 (λ (y:Int)=>.d (.int .i64 y)))
def Mq:Int->St:=(λ (x:Int)=>JiG p0_ p1_ x)
variable {p0_ p1_ i_19}
theorem Lm (x:Int) (z:(Int⊕(Unit⊕Int))) (H:DG n p0_ p1_ x=some z):WP (cxk 19 0) (Ax Tryz.f39) [1,0,1,0,0] (Av 0 (Mq p0_ p1_) (SU) z) (Mq p0_ p1_ x):=by
 revert H
 generalize x=i_19
 intro H
 refine sq (sr (ck 2 (sp (AC Aj p0_) (ck 1 (en (cn H (λ H=>?_) (λ H=>?_)))))))
 ·refine sk (qz (sq (bk 1 (sr (ck 2 (bx H λ x150 h434 H=>sp (Am Aj h434) (ck 3 (en (cn H (λ H=>?_) (λ H=>?_))))))))))
  ·exact sr (ck 2 (en (re (qR (qr (by cases H;exact ro rfl rd))))))
  ·exact sk (qN (qz (rz (ck 3 (ae (by cases H;exact og (sg [0,3,5])))))))
 ·exact ex 0 (qx (by cases H;exact xo rfl (sg [])))
theorem Pf {z} (H:MV n p0_ p1_=some z):AD Tryz.prog 39 [.d (.sl (p0_.map Aj)),.agg (Je p1_)] (.d (.int .i64 z)):=by
 refine fO 19 (JiF p0_ p1_) Tryz.func39 (sr (ck 2 (en (sq (sr (ck 1 (en (bk 0 (bx H λ y103 h435 H=>?_)))))))))
 rcases y103 with y104|y105
 ·exact lX Lm h435 (sg [0,3,5]) rfl λ s hE83=>qH (qs (hE83) (sr (ck 1 (en (re (by cases H;exact pr rd))))))
 ·exact lR Lm h435 (sg [0,3,5]) rfl λ s hE84=>qR (qr (by cases H;exact pr hE84))
end
section
variable (p0_:Ad) (out_8:(List Ab)) (i_20:Int) (out_9:(List Ab)) (out_10:(List Ab)) (k_3:Int) (out_11:(List Ab)) (out_12:(List Ab))
def JiI:St:=⟨(0,.agg [.d (.int .i64 p0_.Modes),.d (.int .u8 p0_.Accept),.d (.sl (p0_.Rules.map An))])::[],[]⟩
def JiJ:St:=⟨(1,.ptr 0 0)::(3,.osl 1 3 0 (out_8.length))::(4,.d (.int .i64 i_20))::[],[some (.box (AK p0_)),some (.arr 3 (out_8.map Aj))]⟩
def JiK:St:=⟨(3,.osl 0 3 0 (out_9.length))::[],[some (.arr 3 (out_9.map Aj))]⟩
def JiL:St:=⟨(1,.ptr 0 0)::(3,.osl 1 3 0 (out_10.length))::(4,.d (.int .i64 i_20))::(5,.d (.int .i64 k_3))::[],[some (.box (AK p0_)),some (.arr 3 (out_10.map Aj))]⟩
def JiM:St:=⟨(1,.ptr 0 0)::(3,.osl 1 3 0 (out_11.length))::(4,.d (.int .i64 i_20))::[],[some (.box (AK p0_)),some (.arr 3 (out_11.map Aj))]⟩
def JiN:St:=⟨(1,.ptr 0 0)::(3,.osl 1 3 0 (out_12.length))::(4,.d (.int .i64 i_20))::(5,.d (.int .i64 k_3))::[],[some (.box (AK p0_)),some (.arr 3 (out_12.map Aj))]⟩
def Q7:(List Ab)->Ex->St->Prop:=xX 0 2 (λ (y:(List Ab))=>JiM p0_ i_20 y)
def Ln:((List Ab)×Int)->St:=(λ (x:((List Ab)×Int))=>JiL p0_ i_20 x.1 x.2)
def Q8:(List Ab)->Ex->St->Prop:=xX 0 0 (λ (y:(List Ab))=>JiK y)
def Lp:((List Ab)×Int)->St:=(λ (x:((List Ab)×Int))=>JiJ p0_ x.1 x.2)
variable {p0_ out_8 i_20 out_9 out_10 k_3 out_11 out_12}
theorem P9 (x:((List Ab)×Int)) (z:(((List Ab)×Int)⊕(List Ab))) (H:DV n p0_ i_20 x.1 x.2=some z):WP (cxk 45 0) (Ax Tryz.f37) [1,1,0,1,0,0,1,0,0,1,0,0] (Av 0 (Ln p0_ i_20) (Q7 p0_ i_20) z) (Ln p0_ i_20 x):=by
 obtain ⟨out_10,k_3⟩:=x
 refine sq (sr (ck 3 (sp (AC An p0_.Rules) (ck 1 (en (cn H (λ H=>?_) (λ H=>?_)))))))
 ·refine sk (qz (sj (λ (x:(List Ab))=>JiN p0_ i_20 k_3 x) (λ (x:(List Ab))=>ES n k_3 x) z ?_ (λ hFR3_States_J1=>?_)))
  ·intro out_12 H
   exact rz (ck 3 (ae (by cases H;exact og (sg [1,3,4,5]))))
  refine bk 3 (sr (ck 3 (bx H λ x151 h437 H=>sp (AA 1 3 h437) (sp (CL Aj 1 0 (ty 93) h437) (ck 1 (bx H λ r132 h438 H=>ca false (QN h438) (ck 6 (en (sr (ck 4 (bx H λ r133 h439 H=>cG (ks:=[1]) (obl:=[(0+List.length out_10,List.length (out_10.map Aj))]) false (leK leM (leZ)) (Dz Sr (Dz rfl rfl)) (λ hg=>Pf (BA h439 hg)) (Or.inr trivial) (BS (λ hh=>hh) (BS (λ hh=>hh) (D0))) rfl (gc 1 r132.2 (pA (en (cn H (λ H=>?_) (λ H=>?_))))))))))))))))
  ·exact rz (ck 3 (bx H λ l54 h440 H=>sp (B6 Aj 1 3 h440) (ck 1 (ae (qN (qs (sg [1,3,4,5]) (hFR3_States_J1 l54 H)))))))
  ·exact sk (qN (qs (sg [1,3,4,5]) (hFR3_States_J1 out_10 H)))
 ·exact ex 2 (qx (by cases H;exact xo rfl (sg [1,3,4])))
theorem Qa (x:((List Ab)×Int)) (z:(((List Ab)×Int)⊕(List Ab))) (H:ET n p0_ x.1 x.2=some z):WP (cxk 45 0) (Ax Tryz.f37) [1,1,0,1,0,0] (Av 0 (Lp p0_) (Q8) z) (Lp p0_ x):=by
 obtain ⟨out_8,i_20⟩:=x
 refine sq (sr (ck 4 (en (cn H (λ H=>?_) (λ H=>?_)))))
 ·exact sk (qz (sq (bk 1 (sr (ck 1 (en (bk 2 (bx H λ y106 h441 H=>lX P9 h441 (sg [1,3,4,5]) rfl λ s hE85=>qH (qN (qs (hE85) (rz (ck 3 (ae (by cases H;exact og (sg [1,3,4])))))))))))))))
 ·exact ex 0 (qx (by cases H;exact xo rfl (sg [3])))
theorem TF {z} (H:Kl n p0_=some z):AD Tryz.prog 37 [.agg (AK p0_)] (.own 3 (z.map Aj)):=by
 exact fO 45 (JiI p0_) Tryz.func37 (sr (ck 2 (en (sr (bx H λ r131 h436 H=>ca false (Vt h436) (ck 2 (en (sq (sr (ck 1 (en (bk 0 (bx H λ y107 h442 H=>lX Qa h442 (sg [1,3,4]) rfl λ s hE86=>qH (qs (hE86) (sr (ck 2 (en (re (by cases H;exact pr (rO (v:=.osl 0 3 0 (z.length)) [0] (ao vo)))))))))))))))))))))
end
section
variable (p0_:Ad) (p1_:Ab)
def JiO:St:=⟨(0,.agg [.d (.int .i64 p0_.Modes),.d (.int .u8 p0_.Accept),.d (.sl (p0_.Rules.map An))])::(1,.agg [.d (.int .i64 p1_.Mode),.d (.int .i64 p1_.Last),.d (.int .u8 p1_.Need)])::[],[]⟩
variable {p0_ p1_}
theorem SV {z} (H:IJ n p0_ p1_=some z):AD Tryz.prog 47 [.agg (AK p0_),.agg (Je p1_)] (.d (.bool z)):=by
 exact fO 27 (JiO p0_ p1_) Tryz.func47 (sr (ck 3 (en (sr (ck 5 (gc 1 (decide (p1_.Mode>=0)) (ck 1 (gc 2 (decide (p1_.Mode>=0)) (pA (ck 2 (gc 1 ((decide (p1_.Mode>=0))&&(decide (p1_.Mode<p0_.Modes))) (ck 1 (gc 1 ((decide (p1_.Mode>=0))&&(decide (p1_.Mode<p0_.Modes))) (bx H λ r134 h443 H=>cG false (leZ) rfl (λ hg=>KD (BA h443 hg)) (Or.inl rfl) (BS (λ hh=>hh) (BS (λ hh=>hh) (D0))) rfl (pA (ck 2 (gc 1 (((decide (p1_.Mode>=0))&&(decide (p1_.Mode<p0_.Modes)))&&r134) (bx H λ r135 h444 H=>cG false (leZ) rfl (λ hg=>KD (BA h444 hg)) (Or.inl rfl) (BS (λ hh=>hh) (D0)) rfl (pA (ck 1 (en (re (by cases H;exact pr rd)))))))))))))))))))))))
end
section
variable (p0_:(List UInt8)) (p1_:Int) (p2_:(List UInt8))
def JiP:St:=⟨(0,.d (.str p0_))::(1,.d (.int .i64 p1_))::(2,.d (.str p2_))::[],[]⟩
variable {p0_ p1_ p2_}
theorem TG {z} (H:Km n p0_ p1_ p2_=some z):AD Tryz.prog 66 [.d (.str p0_),.d (.int .i64 p1_),.d (.str p2_)] (.d (.bool z)):=by
 exact fO 25 (JiP p0_ p1_ p2_) Tryz.func66 (sr (ck 1 (en (sr (ck 12 (gc 2 (decide (Au .i64 p1_ ((p2_.length:Nat):Int)<=((p0_.length:Nat):Int))) (bx H λ s12 h445 H=>sE (λ hg=>Hx (BA h445 hg)) (ck 1 (gc 1 (decide (Au .i64 p1_ ((p2_.length:Nat):Int)<=((p0_.length:Nat):Int))) (pA (ck 1 (en (re (by cases H;exact pr rd))))))))))))))
end
section
variable (p0_:Ad) (p1_:Sz) (p2_:Int) (p3_:(List (List Int)))
def JiQ:St:=⟨(0,.agg [.d (.int .i64 p0_.Modes),.d (.int .u8 p0_.Accept),.d (.sl (p0_.Rules.map An))])::(1,.agg [.d (.str p1_.S),.d (.int .i64 p1_.I),.d (.int .i64 p1_.State.Mode),.d (.int .i64 p1_.State.Last),.d (.int .u8 p1_.State.Need),.d (.sl (p1_.L.map Aj))])::(2,.d (.int .i64 p2_))::(3,.d (.sl (p3_.map (eL Ae))))::[],[]⟩
variable {p0_ p1_ p2_ p3_}
theorem Vu {z} (H:JJ n p0_ p1_ p2_ p3_=some z):AD Tryz.prog 40 [.agg (AK p0_),.agg (Jg5 p1_),.d (.int .i64 p2_),.d (.sl (p3_.map (eL Ae)))] (.d (.int .i64 z)):=by
 refine fO 66 (JiQ p0_ p1_ p2_ p3_) Tryz.func40 (sr (ck 3 (en (sr (ck 4 (bx H λ r136 h446 H=>ca false (QN h446) (ck 6 (en (sq (sr (ck 4 (gc 1 (!(!r136.2)) (ck 1 (gc 1 (!(!r136.2)) (ck 1 (gc 1 (!(!r136.2)) (ck 1 (bx H λ x152 h447 H=>sE (λ hg=>Am An (BA h447 hg)) (gc 2 (!(!r136.2)) (bx H λ r137 h448 H=>cG false (leZ) rfl (λ hg=>TG (BA h448 hg)) (Or.inl rfl) (BS (λ hh=>hh) (BS (λ hh=>hh) (BS (λ hh=>hh) (D0)))) rfl (gc 1 (!(!r136.2)) (pO (en (cn H (λ H=>?_) (λ H=>?_)))))))))))))))))))))))))
 ·exact sr (ck 1 (en (re (qr (by cases H;exact pr rd)))))
 ·refine sk (qz (sr (ck 6 (bx H λ x153 h449 H=>sp (Am An h449) (ck 4 (bx H λ x154 h450 H=>sp (Am (eL Ae) h450) (ck 4 (bx H λ r138 h451 H=>ca false (Pf h451) (bx H λ x155 h452 H=>sp (Am Ae h452) (ck 2 (en (sq (sr (ck 2 (en (cn H (λ H=>?_) (λ H=>?_)))))))))))))))))
  ·exact sr (ck 1 (en (re (qr (by cases H;exact pr rd)))))
  ·exact sk (qz (sr (ck 4 (bx H λ x156 h453 H=>sp (Am An h453) (ck 2 (sp (AC eU8 x156.Cells) (ck 2 (en (re (by cases H;exact pr rd))))))))))
end
section
variable (p0_:Int) (p1_:Int)
def JiR:St:=⟨(0,.d (.int .i64 p0_))::(1,.d (.int .i64 p1_))::[],[]⟩
variable {p0_ p1_}
theorem Vv {z} (H:MW n p0_ p1_=some z):AD Tryz.prog 48 [.d (.int .i64 p0_),.d (.int .i64 p1_)] (.d (.int .i64 z)):=by
 refine fO 18 (JiR p0_ p1_) Tryz.func48 (sr (ck 1 (en (sq (sr (ck 4 (gc 2 (!(decide (p0_<0))) (ck 2 (gc 1 ((!(decide (p0_<0)))&&(decide (p1_>=0))) (pG (g:=(!(decide (p0_<0)))) (v:=.d (.bool ((decide (p1_>=0))&&(decide (p1_<p0_))))) (λ hg=>Gz (c:=.gv (!(decide (p0_<0))) (.d (.bool (decide (p1_>=0))))) (a:=.gv ((!(decide (p0_<0)))&&(decide (p1_>=0))) (.d (.bool (decide (p1_<p0_))))) (b:=.d (.bool false)) rfl rfl rfl ((λ hh=>hh) hg) (λ ht=>by rw [(λ hh=>hh) hg,ht];rfl) trivial) (pO (en (cn H (λ H=>?_) (λ H=>?_))))))))))))))
 ·exact sr (ck 2 (en (re (qr (by cases H;exact pr rd)))))
 ·exact sk (qz (sr (ck 2 (en (re (by cases H;exact pr rd))))))
end
section
variable (p0_:Ad) (p1_:(List UInt8)) (r139:(List Ab)) (out_13:(List (List Int))) (i_21:Int) (out_14:(List (List Int))) (out_15:(List (List Int))) (k_4:Int) (out_16:(List (List Int))) (out_17:(List (List Int))) (out_18:(List (List Int))) (changed_1:Bool) (out_19:(List (List Int))) (out_20:(List (List Int))) (changed_2:Bool) (k_5:Int) (out_21:(List (List Int))) (changed_3:Bool) (out_22:(List (List Int))) (changed_4:Bool) (r_3:Int) (out_23:(List (List Int))) (changed_5:Bool) (out_24:(List (List Int))) (changed_6:Bool)
def JiS:St:=⟨(0,.agg [.d (.int .i64 p0_.Modes),.d (.int .u8 p0_.Accept),.d (.sl (p0_.Rules.map An))])::(1,.d (.str p1_))::[],[]⟩
def JiT:St:=⟨(1,.d (.str p1_))::(2,.ptr 0 0)::(5,.d (.sl (r139.map Aj)))::(6,.osl 1 1 0 (out_13.length))::(7,.d (.int .i64 i_21))::[],[some (.box (AK p0_)),some (.narr 1 (out_13.map (nL 1 Ae)))]⟩
def JiU:St:=⟨(6,.osl 0 1 0 (out_14.length))::[],[some (.narr 1 (out_14.map (nL 1 Ae)))]⟩
def JiV:St:=⟨(1,.d (.str p1_))::(2,.ptr 0 0)::(5,.d (.sl (r139.map Aj)))::(6,.osl 1 1 0 (out_15.length))::(7,.d (.int .i64 i_21))::(8,.d (.int .i64 k_4))::[],[some (.box (AK p0_)),some (.narr 1 (out_15.map (nL 1 Ae)))]⟩
def JiW:St:=⟨(1,.d (.str p1_))::(2,.ptr 0 0)::(5,.d (.sl (r139.map Aj)))::(6,.osl 1 1 0 (out_16.length))::(7,.d (.int .i64 i_21))::[],[some (.box (AK p0_)),some (.narr 1 (out_16.map (nL 1 Ae)))]⟩
def JiX:St:=⟨(1,.d (.str p1_))::(2,.ptr 0 0)::(5,.d (.sl (r139.map Aj)))::(6,.osl 1 1 0 (out_17.length))::(7,.d (.int .i64 i_21))::(8,.d (.int .i64 k_4))::[],[some (.box (AK p0_)),some (.narr 1 (out_17.map (nL 1 Ae)))]⟩
def Pg:(List (List Int))->Ex->St->Prop:=xX 0 2 (λ (y:(List (List Int)))=>JiW p0_ p1_ r139 i_21 y)
def IU:((List (List Int))×Int)->St:=(λ (x:((List (List Int))×Int))=>JiV p0_ p1_ r139 i_21 x.1 x.2)
def JiY:St:=⟨(1,.d (.str p1_))::(2,.ptr 0 0)::(5,.d (.sl (r139.map Aj)))::(6,.osl 1 1 0 (out_18.length))::(7,.d (.int .i64 i_21))::(9,.d (.bool changed_1))::[],[some (.box (AK p0_)),some (.narr 1 (out_18.map (nL 1 Ae)))]⟩
def JiZ:St:=⟨(1,.d (.str p1_))::(2,.ptr 0 0)::(5,.d (.sl (r139.map Aj)))::(6,.osl 1 1 0 (out_19.length))::(7,.d (.int .i64 i_21))::[],[some (.box (AK p0_)),some (.narr 1 (out_19.map (nL 1 Ae)))]⟩
def Ji0:St:=⟨(1,.d (.str p1_))::(2,.ptr 0 0)::(5,.d (.sl (r139.map Aj)))::(6,.osl 1 1 0 (out_20.length))::(7,.d (.int .i64 i_21))::(9,.d (.bool changed_2))::(10,.d (.int .i64 k_5))::[],[some (.box (AK p0_)),some (.narr 1 (out_20.map (nL 1 Ae)))]⟩
def Jfb:St:=⟨(1,.d (.str p1_))::(2,.ptr 0 0)::(5,.d (.sl (r139.map Aj)))::(6,.osl 1 1 0 (out_21.length))::(7,.d (.int .i64 i_21))::(9,.d (.bool changed_3))::[],[some (.box (AK p0_)),some (.narr 1 (out_21.map (nL 1 Ae)))]⟩
def Jfc:St:=⟨(1,.d (.str p1_))::(2,.ptr 0 0)::(5,.d (.sl (r139.map Aj)))::(6,.osl 1 1 0 (out_22.length))::(7,.d (.int .i64 i_21))::(9,.d (.bool changed_4))::(10,.d (.int .i64 k_5))::(11,.d (.int .i64 r_3))::[],[some (.box (AK p0_)),some (.narr 1 (out_22.map (nL 1 Ae)))]⟩
def Jfd:St:=⟨(1,.d (.str p1_))::(2,.ptr 0 0)::(5,.d (.sl (r139.map Aj)))::(6,.osl 1 1 0 (out_23.length))::(7,.d (.int .i64 i_21))::(9,.d (.bool changed_5))::(10,.d (.int .i64 k_5))::[],[some (.box (AK p0_)),some (.narr 1 (out_23.map (nL 1 Ae)))]⟩
def Jfe:St:=⟨(1,.d (.str p1_))::(2,.ptr 0 0)::(5,.d (.sl (r139.map Aj)))::(6,.osl 1 1 0 (out_24.length))::(7,.d (.int .i64 i_21))::(9,.d (.bool changed_6))::(10,.d (.int .i64 k_5))::(11,.d (.int .i64 r_3))::[],[some (.box (AK p0_)),some (.narr 1 (out_24.map (nL 1 Ae)))]⟩
def Ph:((List (List Int))×Bool)->Ex->St->Prop:=xX 0 8 (λ (y:((List (List Int))×Bool))=>Jfd p0_ p1_ r139 i_21 k_5 y.1 y.2)
def IV:((List (List Int))×Bool×Int)->St:=(λ (x:((List (List Int))×Bool×Int))=>Jfc p0_ p1_ r139 i_21 k_5 x.1 x.2.1 x.2.2)
def Pi:((List (List Int))×Bool)->Ex->St->Prop:=xX 0 6 (λ (y:((List (List Int))×Bool))=>Jfb p0_ p1_ r139 i_21 y.1 y.2)
def IW:((List (List Int))×Bool×Int)->St:=(λ (x:((List (List Int))×Bool×Int))=>Ji0 p0_ p1_ r139 i_21 x.1 x.2.1 x.2.2)
def Pj:(List (List Int))->Ex->St->Prop:=xX 0 4 (λ (y:(List (List Int)))=>JiZ p0_ p1_ r139 i_21 y)
def IX:((List (List Int))×Bool)->St:=(λ (x:((List (List Int))×Bool))=>JiY p0_ p1_ r139 i_21 x.1 x.2)
def Pk:(List (List Int))->Ex->St->Prop:=xX 0 0 (λ (y:(List (List Int)))=>JiU y)
def IY:((List (List Int))×Int)->St:=(λ (x:((List (List Int))×Int))=>JiT p0_ p1_ r139 x.1 x.2)
variable {p0_ p1_ r139 out_13 i_21 out_14 out_15 k_4 out_16 out_17 out_18 changed_1 out_19 out_20 changed_2 k_5 out_21 changed_3 out_22 changed_4 r_3 out_23 changed_5 out_24 changed_6}
theorem Oc (x:((List (List Int))×Int)) (z:(((List (List Int))×Int)⊕(List (List Int)))) (H:CX n p0_ p1_ r139 i_21 x.1 x.2=some z):WP (cxk 116 0) (Ax Tryz.f24) [1,1,1,0,1,0,0,1,0,0,1,0,1,0,0] (Av 0 (IU p0_ p1_ r139 i_21) (Pg p0_ p1_ r139 i_21) z) (IU p0_ p1_ r139 i_21 x):=by
 obtain ⟨out_15,k_4⟩:=x
 refine sq (sr (ck 2 (sp (AC Aj r139) (ck 1 (en (cn H (λ H=>?_) (λ H=>?_)))))))
 ·refine sk (qz (sj (λ (x:(List (List Int)))=>JiX p0_ p1_ r139 i_21 k_4 x) (λ (x:(List (List Int)))=>DO n k_4 x) z ?_ (λ hFR6_Suffixes_J1=>?_)))
  ·intro out_17 H
   exact rz (ck 3 (ae (by cases H;exact og (gP [1,2,5,6,7,8] [0,1] (po1 (pn1 (nL 1 Ae) out_17 (Pl.z)))))))
  refine bk 3 (sq (bx H λ x158 h458 H=>rg (tr (so1 (encN:=(nL 1 Ae)) 1 1 h458) (sno (encN:=(nL 1 Ae)) (enc:=Ae) h458 [.own 1 (x158.map Ae)] x158 1 1 0 1)) (ck 2 (sp (AA 1 1 h458) (sp (Ci (encN:=(nL 1 Ae)) (row:=[.osl 2 1 0 (x158.length)]) (k:=1) (sz:=1) (off:=0) (t:=ty 35) (v:=.osl 2 1 0 (x158.length)) h458) (ck 1 (bx H λ x159 h459 H=>sp (AA 2 1 h459) (bx H λ l57 h460 H=>stA Ae 2 0 (ty 3) h459 h460 (en (sq (rg (tr (tr (tr (tr (tr (sn 40 2 1 (Bh h460)) (snr (encN:=(nL 1 Ae)) (xs:=out_15) (n:=i_21) [.osl 2 1 0 (x158.length)] 1 1 0 2 1 (Bh h460))) (sni (encN:=(nL 1 Ae)) (xs:=out_15) (n:=i_21) (enc:=Ae) [.osl 2 1 0 (l57.length)] l57 1 1 0 2 1)) (scl (encN:=(nL 1 Ae)) (xss:=out_15) i_21 [.own 1 (l57.map Ae)] 1 1 l57)) (sn 6 1 1 (lsS out_15 i_21.toNat l57))) (sn 37 1 1 (lsS out_15 i_21.toNat l57))) (ck 8 (bx H λ x160 h461 H=>sE (λ hg=>Am Aj (BA h461 hg)) (gc 1 (i_21==((p1_.length:Nat):Int)) (bx H λ r140 h462 H=>cG false (leZ) rfl (λ hg=>SV (BA h462 hg)) (Or.inl rfl) (BS (λ hh=>hh) (BS (λ hh=>hh) (D0))) rfl (pA (en (cn H (λ H=>?_) (λ H=>?_)))))))))))))))))))
  ·exact bx H λ x161 h463 H=>rg (tr (so1 (encN:=(nL 1 Ae)) 1 1 h463) (sno (encN:=(nL 1 Ae)) (enc:=Ae) h463 [.own 1 (x161.map Ae)] x161 1 1 0 1)) (ck 2 (sp (AA 1 1 h463) (sp (Ci (encN:=(nL 1 Ae)) (row:=[.osl 3 1 0 (x161.length)]) (k:=1) (sz:=1) (off:=0) (t:=ty 35) (v:=.osl 3 1 0 (x161.length)) h463) (ck 1 (bx H λ x162 h464 H=>sp (AA 3 1 h464) (bx H λ l58 h465 H=>stA Ae 3 0 (ty 3) h464 h465 (ae (qN (qs (tr (tr (tr (tr (tr (tr (tr (sn 58 3 1 (Bh h465)) (snr (encN:=(nL 1 Ae)) (xs:=List.set out_15 i_21.toNat l57) (n:=i_21) [.osl 3 1 0 (x161.length)] 1 1 0 3 1 (Bh h465))) (sni (encN:=(nL 1 Ae)) (xs:=List.set out_15 i_21.toNat l57) (n:=i_21) (enc:=Ae) [.osl 3 1 0 (l58.length)] l58 1 1 0 3 1)) (scl (encN:=(nL 1 Ae)) (xss:=List.set out_15 i_21.toNat l57) i_21 [.own 1 (l58.map Ae)] 1 1 l58)) (sn 6 1 1 (lsS (List.set out_15 i_21.toNat l57) i_21.toNat l58))) (sn 37 1 1 (lsS (List.set out_15 i_21.toNat l57) i_21.toNat l58))) (sn 55 1 1 (lsS (List.set out_15 i_21.toNat l57) i_21.toNat l58))) (gP [1,2,5,6,7,8] [0,1] (po1 (pn1 (nL 1 Ae) (List.set (List.set out_15 i_21.toNat l57) i_21.toNat l58) (Pl.z))))) (hFR6_Suffixes_J1 (List.set (List.set out_15 i_21.toNat l57) i_21.toNat l58) H))))))))))
  ·exact sk (qN (qs (gP [1,2,5,6,7,8] [0,1] (po1 (pn1 (nL 1 Ae) (List.set out_15 i_21.toNat l57) (Pl.z)))) (hFR6_Suffixes_J1 (List.set out_15 i_21.toNat l57) H)))
 ·exact ex 2 (qx (by cases H;exact xo rfl (gP [1,2,5,6,7] [0,1] (po1 (pn1 (nL 1 Ae) out_15 (Pl.z))))))
theorem Od (x:((List (List Int))×Bool×Int)) (z:(((List (List Int))×Bool×Int)⊕((List (List Int))×Bool))) (H:CY n p0_ p1_ r139 i_21 k_5 x.1 x.2.1 x.2.2=some z):WP (cxk 116 0) (Ax Tryz.f24) [1,1,1,0,1,0,0,1,0,0,1,1,1,0,0,1,0,1,1,0,0,1,0,0,1,0,0] (Av 0 (IV p0_ p1_ r139 i_21 k_5) (Ph p0_ p1_ r139 i_21 k_5) z) (IV p0_ p1_ r139 i_21 k_5 x):=by
 obtain ⟨out_22,changed_4,r_3⟩:=x
 refine sq (sr (ck 3 (sp (AC An p0_.Rules) (ck 1 (en (cn H (λ H=>?_) (λ H=>?_)))))))
 ·refine sk (qz (sj (λ (x:((List (List Int))×Bool))=>Jfe p0_ p1_ r139 i_21 k_5 r_3 x.1 x.2) (λ (x:((List (List Int))×Bool))=>DP n r_3 x.1 x.2) z ?_ (λ hFR6_Suffixes_J2=>?_)))
  ·rintro ⟨out_24,changed_6⟩ H
   exact rz (ck 3 (ae (by cases H;exact og (gP [1,2,5,6,7,9,10,11] [0,1] (po1 (pn1 (nL 1 Ae) out_24 (Pl.z)))))))
  refine bk 9 (sr (ck 5 (bx H λ x163 h467 H=>sp (Am Aj h467) (ck 5 (bx H λ r141 h468 H=>cb (ks:=[1]) (obl:=[(0+List.length out_22,List.length (out_22.map (nL 1 Ae))),(Ot (out_22.map (nL 1 Ae)),0)]) false (leK leN (leK (Je2 λ _=>rfl) (leZ))) (Dz rfl (Dz rfl (Dz rfl (Dz (JjT (encN:=(nL 1 Ae)) (encD:=(eL Ae)) λ _=>rfl) rfl)))) (Vu h468) (Or.inr trivial) rfl (ck 1 (en (sq (rg (tr (so0 (encN:=(nL 1 Ae)) (xss:=out_22) 1 1 i_21 ([]:(List Int))) (snT (encN:=(nL 1 Ae)) (xss:=out_22) (n:=i_21) (d:=([]:(List Int))) (enc:=Ae) (λ x=>x) [.own 1 (List.map Ae (List.getD out_22 i_21.toNat []))] 1 1 0 1)) (ck 5 (bx H λ x164 h469 H=>sE (λ hg=>AA 1 1 (BA h469 hg)) (sE (g:=decide (r141>=0)) (λ hg=>Ci (encN:=(nL 1 Ae)) (row:=[.osl 2 1 0 (List.length (List.getD out_22 i_21.toNat []))]) (k:=1) (sz:=1) (off:=0) (t:=ty 35) (v:=.osl 2 1 0 (List.length (List.getD out_22 i_21.toNat []))) (BA h469 hg)) (ck 1 (bx H λ x165 h470 H=>sE (λ hg=>AA 2 1 (BA h470 hg)) (sE (g:=decide (r141>=0)) (λ hg=>CL Ae 2 0 (ty 3) (BA h470 hg)) (ck 1 (bx H λ r142 h471 H=>cG false (leZ) rfl (λ hg=>Vv (BA h471 hg)) (Or.inl rfl) (BS (λ hh=>hh) (BS (λ hh=>hh) (D0))) rfl (ck 2 (bx H λ x166 h472 H=>sE (λ hg=>AA 1 1 (BA h472 hg)) (sE (g:=decide (r141>=0)) (λ hg=>Ci (encN:=(nL 1 Ae)) (row:=[.osl 2 1 0 (List.length (List.getD out_22 i_21.toNat []))]) (k:=1) (sz:=1) (off:=0) (t:=ty 35) (v:=.osl 2 1 0 (List.length (List.getD out_22 i_21.toNat []))) (BA h472 hg)) (ck 1 (bx H λ x167 h473 H=>sE (λ hg=>AA 2 1 (BA h473 hg)) (sE (g:=decide (r141>=0)) (λ hg=>CL Ae 2 0 (ty 3) (BA h473 hg)) (gc 1 (decide (r141>=0)) (pA (en (cn H (λ H=>?_) (λ H=>?_))))))))))))))))))))))))))))
  ·exact sq (bx H λ x168 h474 H=>rg (tr (tr (tr (tr (tr (sni (encN:=(nL 1 Ae)) (xs:=out_22) (n:=i_21) (enc:=Ae) [.osl 2 1 0 (List.length (List.getD out_22 i_21.toNat []))] (List.getD out_22 i_21.toNat []) 1 1 0 2 1) (scl (encN:=(nL 1 Ae)) (xss:=out_22) i_21 [.own 1 (List.map Ae (List.getD out_22 i_21.toNat []))] 1 1 (List.getD out_22 i_21.toNat []))) (sn 6 1 1 (lsS out_22 i_21.toNat (List.getD out_22 i_21.toNat [])))) (sn 85 1 1 (lsS out_22 i_21.toNat (List.getD out_22 i_21.toNat [])))) (so1 (encN:=(nL 1 Ae)) 1 1 h474)) (sno (encN:=(nL 1 Ae)) (enc:=Ae) h474 [.own 1 (x168.map Ae)] x168 1 1 0 1)) (ck 2 (sp (AA 1 1 h474) (sp (Ci (encN:=(nL 1 Ae)) (row:=[.osl 3 1 0 (x168.length)]) (k:=1) (sz:=1) (off:=0) (t:=ty 35) (v:=.osl 3 1 0 (x168.length)) h474) (ck 2 (bx H λ x169 h475 H=>sp (AA 3 1 h475) (bx H λ l59 h476 H=>stA Ae 3 0 (ty 3) h475 h476 (en (rg (tr (tr (tr (tr (tr (tr (sn 111 3 1 (Bh h476)) (snr (encN:=(nL 1 Ae)) (xs:=List.set out_22 i_21.toNat (List.getD out_22 i_21.toNat [])) (n:=i_21) [.osl 3 1 0 (x168.length)] 1 1 0 3 1 (Bh h476))) (sni (encN:=(nL 1 Ae)) (xs:=List.set out_22 i_21.toNat (List.getD out_22 i_21.toNat [])) (n:=i_21) (enc:=Ae) [.osl 3 1 0 (l59.length)] l59 1 1 0 3 1)) (scl (encN:=(nL 1 Ae)) (xss:=List.set out_22 i_21.toNat (List.getD out_22 i_21.toNat [])) i_21 [.own 1 (l59.map Ae)] 1 1 l59)) (sn 6 1 1 (lsS (List.set out_22 i_21.toNat (List.getD out_22 i_21.toNat [])) i_21.toNat l59))) (sn 85 1 1 (lsS (List.set out_22 i_21.toNat (List.getD out_22 i_21.toNat [])) i_21.toNat l59))) (sn 108 1 1 (lsS (List.set out_22 i_21.toNat (List.getD out_22 i_21.toNat [])) i_21.toNat l59))) (ck 1 (ae (qN (qs (gP [1,2,5,6,7,9,10,11] [0,1] (po1 (pn1 (nL 1 Ae) (List.set (List.set out_22 i_21.toNat (List.getD out_22 i_21.toNat [])) i_21.toNat l59) (Pl.z)))) (hFR6_Suffixes_J2 ((List.set (List.set out_22 i_21.toNat (List.getD out_22 i_21.toNat [])) i_21.toNat l59),true) H))))))))))))))
  ·exact sk (qN (qs (tr (tr (tr (tr (sni (encN:=(nL 1 Ae)) (xs:=out_22) (n:=i_21) (enc:=Ae) [.osl 2 1 0 (List.length (List.getD out_22 i_21.toNat []))] (List.getD out_22 i_21.toNat []) 1 1 0 2 1) (scl (encN:=(nL 1 Ae)) (xss:=out_22) i_21 [.own 1 (List.map Ae (List.getD out_22 i_21.toNat []))] 1 1 (List.getD out_22 i_21.toNat []))) (sn 6 1 1 (lsS out_22 i_21.toNat (List.getD out_22 i_21.toNat [])))) (sn 85 1 1 (lsS out_22 i_21.toNat (List.getD out_22 i_21.toNat [])))) (gP [1,2,5,6,7,9,10,11] [0,1] (po1 (pn1 (nL 1 Ae) (List.set out_22 i_21.toNat (List.getD out_22 i_21.toNat [])) (Pl.z))))) (hFR6_Suffixes_J2 ((List.set out_22 i_21.toNat (List.getD out_22 i_21.toNat [])),changed_4) H)))
 ·exact ex 8 (qx (by cases H;exact xo rfl (gP [1,2,5,6,7,9,10] [0,1] (po1 (pn1 (nL 1 Ae) out_22 (Pl.z))))))
theorem Oe (x:((List (List Int))×Bool×Int)) (z:(((List (List Int))×Bool×Int)⊕((List (List Int))×Bool))) (H:CZ n p0_ p1_ r139 i_21 x.1 x.2.1 x.2.2=some z):WP (cxk 116 0) (Ax Tryz.f24) [1,1,1,0,1,0,0,1,0,0,1,1,1,0,0,1,0,1,1,0,0] (Av 0 (IW p0_ p1_ r139 i_21) (Pi p0_ p1_ r139 i_21) z) (IW p0_ p1_ r139 i_21 x):=by
 obtain ⟨out_20,changed_2,k_5⟩:=x
 refine sq (sr (ck 2 (sp (AC Aj r139) (ck 1 (en (cn H (λ H=>?_) (λ H=>?_)))))))
 ·exact sk (qz (sq (bk 7 (sr (ck 1 (en (bk 8 (bx H λ y109 h477 H=>lX Od h477 (gP [1,2,5,6,7,9,10,11] [0,1] (po1 (pn1 (nL 1 Ae) out_20 (Pl.z)))) rfl λ s hE88=>qH (qN (qs (hE88) (rz (ck 3 (ae (by cases H;exact og (gP [1,2,5,6,7,9,10] [0,1] (po1 (pn1 (nL 1 Ae) y109.1 (Pl.z))))))))))))))))))
 ·exact ex 6 (qx (by cases H;exact xo rfl (gP [1,2,5,6,7,9] [0,1] (po1 (pn1 (nL 1 Ae) out_20 (Pl.z))))))
theorem Of (x:((List (List Int))×Bool)) (z:(((List (List Int))×Bool)⊕(List (List Int)))) (H:DQ n p0_ p1_ r139 i_21 x.1 x.2=some z):WP (cxk 116 0) (Ax Tryz.f24) [1,1,1,0,1,0,0,1,0,0,1,1,1,0,0] (Av 0 (IX p0_ p1_ r139 i_21) (Pj p0_ p1_ r139 i_21) z) (IX p0_ p1_ r139 i_21 x):=by
 obtain ⟨out_18,changed_1⟩:=x
 refine sq (sr (ck 1 (en (cn H (λ H=>?_) (λ H=>?_)))))
 ·exact sk (qz (bk 5 (sr (ck 1 (en (sr (ck 1 (en (bk 6 (bx H λ y110 h478 H=>lX Oe h478 (gP [1,2,5,6,7,9,10] [0,1] (po1 (pn1 (nL 1 Ae) out_18 (Pl.z)))) rfl λ s hE89=>qH (qN (by cases H;exact og (tr (hE89) (gP [1,2,5,6,7,9] [0,1] (po1 (pn1 (nL 1 Ae) y110.1 (Pl.z)))))))))))))))))
 ·exact ex 4 (qx (by cases H;exact xo rfl (gP [1,2,5,6,7] [0,1] (po1 (pn1 (nL 1 Ae) out_18 (Pl.z))))))
theorem Og (x:((List (List Int))×Int)) (z:(((List (List Int))×Int)⊕(List (List Int)))) (H:Fd n p0_ p1_ r139 x.1 x.2=some z):WP (cxk 116 0) (Ax Tryz.f24) [1,1,1,0,1,0,0] (Av 0 (IY p0_ p1_ r139) (Pk) z) (IY p0_ p1_ r139 x):=by
 obtain ⟨out_13,i_21⟩:=x
 refine sq (sr (ck 2 (en (cn H (λ H=>?_) (λ H=>?_)))))
 ·exact sk (qz (sq (bk 1 (sq (bx H λ x157 h456 H=>rg (so1 (encN:=(nL 1 Ae)) 1 1 h456) (ck 3 (sp (AC Aj r139) (bx H λ l56 h457 H=>sp (Uo Ae 1 h457) (sp (AA 1 1 h456) (sp (L4 (encN:=(nL 1 Ae)) (row:=[.own 1 (x157.map Ae)]) (row':=[.osl 2 1 0 (l56.length)]) (k:=1) (sz:=1) (off:=0) (t:=ty 35) (v:=.osl 2 1 0 (l56.length)) h456) (en (sq (sq (rg (tr (tr (tr (sni (encN:=(nL 1 Ae)) (xs:=out_13) (n:=i_21) (enc:=Ae) [.osl 2 1 0 (l56.length)] l56 1 1 0 2 1) (scl (encN:=(nL 1 Ae)) (xss:=out_13) i_21 [.own 1 (l56.map Ae)] 1 1 l56)) (sn 6 1 1 (lsS out_13 i_21.toNat l56))) (sn 25 1 1 (lsS out_13 i_21.toNat l56))) (ck 1 (en (bk 2 (bx H λ y108 h466 H=>lX Oc h466 (gP [1,2,5,6,7,8] [0,1] (po1 (pn1 (nL 1 Ae) (List.set out_13 i_21.toNat l56) (Pl.z)))) rfl λ s hE87=>qH (qs (hE87) (sr (ck 1 (en (bk 4 (bx H λ y111 h479 H=>lX Of h479 (gP [1,2,5,6,7,9] [0,1] (po1 (pn1 (nL 1 Ae) y108 (Pl.z)))) rfl λ s hE90=>qH (qN (qs (hE90) (rz (ck 3 (ae (by cases H;exact og (gP [1,2,5,6,7] [0,1] (po1 (pn1 (nL 1 Ae) y111 (Pl.z))))))))))))))))))))))))))))))))))
 ·exact ex 0 (qx (by cases H;exact xo rfl (gP [6] [1] (pn1 (nL 1 Ae) out_13 (Pl.z)))))
theorem Q9 {z} (H:HG n p0_ p1_=some z):AD Tryz.prog 24 [.agg (AK p0_),.d (.str p1_)] (.d (.sl (z.map (eL Ae)))):=by
 exact fO 116 (JiS p0_ p1_) Tryz.func24 (sr (ck 2 (en (sr (ck 1 (bx H λ r139 h454 H=>ca false (TF h454) (ck 1 (en (sr (ck 3 (bx H λ l55 h455 H=>sp (Sy 1 (ez:=[.nil]) h455) (ck 1 (en (sq (sq (rg (tr (tr (Vc (encN:=(nL 1 Ae)) (sz:=1) (z:=[.nil]) (n:=(Au .i64 ((p1_.length:Nat):Int) 1)) 1 (ML h455) (by kernel_rfl) (by kernel_rfl)) (sn 18 1 1 (GM h455))) (sn 6 1 1 (GM h455))) (ck 3 (en (bk 0 (bx H λ y112 h480 H=>lX Og h480 (gP [1,2,5,6,7] [0,1] (po1 (pn1 (nL 1 Ae) l55 (Pl.z)))) rfl λ s hE91=>qH (qs (hE91) (sr (ck 2 (ae (qs (Y3 (encN:=(nL 1 Ae)) (encD:=(eL Ae)) (xss:=y112) (k:=0) (sz:=1) 4 (by kernel_rfl) (λ _=>rfl) (λ _=>rfl)) (re (by cases H;exact pr rd)))))))))))))))))))))))))))
end
section
variable (p0_:Ad) (p1_:(List UInt8)) (r143:(List (List Int))) (out_25:A0) (i_22:Int) (out_26:A0) (least_4:Int) (k_6:Int) (least_5:Int) (least_6:Int) (y113:Int) (column_18:(List Int)) (k_7:Int) (column_19:(List Int)) (column_20:(List Int))
def JkH:St:=⟨(0,.agg [.d (.int .i64 p0_.Modes),.d (.int .u8 p0_.Accept),.d (.sl (p0_.Rules.map An))])::(1,.d (.str p1_))::[],[]⟩
def JkI:St:=⟨(4,.ptr 0 0)::(5,.ptr 1 0)::(6,.d (.sl (r143.map (eL Ae))))::(7,.d (.int .i64 i_22))::[],[some (.box [.d (.str []),.osl 2 1 0 (List.length ([]:List (List Int))),.osl 3 1 0 (List.length ([]:List Int))]),some (.box (FH out_25 (.osl 4 1 0 (out_25.Costs.length)) (.osl 5 1 0 (out_25.Least.length)))),some (.arr 1 (List.map (eL Ae) ([]:List (List Int)))),some (.arr 1 (List.map Ae ([]:List Int))),some (.arr 1 (out_25.Costs.map (eL Ae))),some (.arr 1 (out_25.Least.map Ae))]⟩
def JkJ:St:=⟨(4,.ptr 0 0)::(5,.ptr 1 0)::[],[some (.box [.d (.str []),.osl 2 1 0 (List.length ([]:List (List Int))),.osl 3 1 0 (List.length ([]:List Int))]),some (.box (FH out_26 (.osl 4 1 0 (out_26.Costs.length)) (.osl 5 1 0 (out_26.Least.length)))),some (.arr 1 (List.map (eL Ae) ([]:List (List Int)))),some (.arr 1 (List.map Ae ([]:List Int))),some (.arr 1 (out_26.Costs.map (eL Ae))),some (.arr 1 (out_26.Least.map Ae))]⟩
def JkK:St:=⟨(4,.ptr 0 0)::(5,.ptr 1 0)::(6,.d (.sl (r143.map (eL Ae))))::(7,.d (.int .i64 i_22))::(8,.d (.int .i64 least_4))::(9,.d (.int .i64 k_6))::[],[some (.box [.d (.str []),.osl 2 1 0 (List.length ([]:List (List Int))),.osl 3 1 0 (List.length ([]:List Int))]),some (.box (FH out_25 (.osl 4 1 0 (out_25.Costs.length)) (.osl 5 1 0 (out_25.Least.length)))),some (.arr 1 (List.map (eL Ae) ([]:List (List Int)))),some (.arr 1 (List.map Ae ([]:List Int))),some (.arr 1 (out_25.Costs.map (eL Ae))),some (.arr 1 (out_25.Least.map Ae))]⟩
def JkL:St:=⟨(4,.ptr 0 0)::(5,.ptr 1 0)::(6,.d (.sl (r143.map (eL Ae))))::(7,.d (.int .i64 i_22))::(8,.d (.int .i64 least_5))::[],[some (.box [.d (.str []),.osl 2 1 0 (List.length ([]:List (List Int))),.osl 3 1 0 (List.length ([]:List Int))]),some (.box (FH out_25 (.osl 4 1 0 (out_25.Costs.length)) (.osl 5 1 0 (out_25.Least.length)))),some (.arr 1 (List.map (eL Ae) ([]:List (List Int)))),some (.arr 1 (List.map Ae ([]:List Int))),some (.arr 1 (out_25.Costs.map (eL Ae))),some (.arr 1 (out_25.Least.map Ae))]⟩
def JkM:St:=⟨(4,.ptr 0 0)::(5,.ptr 1 0)::(6,.d (.sl (r143.map (eL Ae))))::(7,.d (.int .i64 i_22))::(8,.d (.int .i64 least_6))::(9,.d (.int .i64 k_6))::[],[some (.box [.d (.str []),.osl 2 1 0 (List.length ([]:List (List Int))),.osl 3 1 0 (List.length ([]:List Int))]),some (.box (FH out_25 (.osl 4 1 0 (out_25.Costs.length)) (.osl 5 1 0 (out_25.Least.length)))),some (.arr 1 (List.map (eL Ae) ([]:List (List Int)))),some (.arr 1 (List.map Ae ([]:List Int))),some (.arr 1 (out_25.Costs.map (eL Ae))),some (.arr 1 (out_25.Least.map Ae))]⟩
def TH:Int->Ex->St->Prop:=xX 0 2 (λ (y:Int)=>JkL r143 out_25 i_22 y)
def NK:(Int×Int)->St:=(λ (x:(Int×Int))=>JkK r143 out_25 i_22 x.1 x.2)
def JkN:St:=⟨(4,.ptr 0 0)::(5,.ptr 1 0)::(6,.d (.sl (r143.map (eL Ae))))::(7,.d (.int .i64 i_22))::(8,.d (.int .i64 y113))::(10,.osl 2 1 0 (column_18.length))::(11,.d (.int .i64 k_7))::[],[some (.box [.d (.str []),.osl 3 1 0 (List.length ([]:List (List Int))),.osl 4 1 0 (List.length ([]:List Int))]),some (.box (FH out_25 (.osl 5 1 0 (out_25.Costs.length)) (.osl 6 1 0 (out_25.Least.length)))),some (.arr 1 (column_18.map Ae)),some (.arr 1 (List.map (eL Ae) ([]:List (List Int)))),some (.arr 1 (List.map Ae ([]:List Int))),some (.arr 1 (out_25.Costs.map (eL Ae))),some (.arr 1 (out_25.Least.map Ae))]⟩
def JkO:St:=⟨(4,.ptr 0 0)::(5,.ptr 1 0)::(6,.d (.sl (r143.map (eL Ae))))::(7,.d (.int .i64 i_22))::(8,.d (.int .i64 y113))::(10,.osl 2 1 0 (column_19.length))::[],[some (.box [.d (.str []),.osl 3 1 0 (List.length ([]:List (List Int))),.osl 4 1 0 (List.length ([]:List Int))]),some (.box (FH out_25 (.osl 5 1 0 (out_25.Costs.length)) (.osl 6 1 0 (out_25.Least.length)))),some (.arr 1 (column_19.map Ae)),some (.arr 1 (List.map (eL Ae) ([]:List (List Int)))),some (.arr 1 (List.map Ae ([]:List Int))),some (.arr 1 (out_25.Costs.map (eL Ae))),some (.arr 1 (out_25.Least.map Ae))]⟩
def JkP:St:=⟨(4,.ptr 0 0)::(5,.ptr 1 0)::(6,.d (.sl (r143.map (eL Ae))))::(7,.d (.int .i64 i_22))::(8,.d (.int .i64 y113))::(10,.osl 2 1 0 (column_20.length))::(11,.d (.int .i64 k_7))::[],[some (.box [.d (.str []),.osl 3 1 0 (List.length ([]:List (List Int))),.osl 4 1 0 (List.length ([]:List Int))]),some (.box (FH out_25 (.osl 5 1 0 (out_25.Costs.length)) (.osl 6 1 0 (out_25.Least.length)))),some (.arr 1 (column_20.map Ae)),some (.arr 1 (List.map (eL Ae) ([]:List (List Int)))),some (.arr 1 (List.map Ae ([]:List Int))),some (.arr 1 (out_25.Costs.map (eL Ae))),some (.arr 1 (out_25.Least.map Ae))]⟩
def TI:(List Int)->Ex->St->Prop:=xX 0 4 (λ (y:(List Int))=>JkO r143 out_25 i_22 y113 y)
def NL:((List Int)×Int)->St:=(λ (x:((List Int)×Int))=>JkN r143 out_25 i_22 y113 x.1 x.2)
def TJ:A0->Ex->St->Prop:=xX 0 0 (λ (y:A0)=>JkJ y)
def NM:(A0×Int)->St:=(λ (x:(A0×Int))=>JkI r143 x.1 x.2)
variable {p0_ p1_ r143 out_25 i_22 out_26 least_4 k_6 least_5 least_6 y113 column_18 k_7 column_19 column_20}
theorem SW (x:(Int×Int)) (z:((Int×Int)⊕Int)) (H:FE n r143 out_25 i_22 x.1 x.2=some z):WP (cxk 108 0) (Ax Tryz.f9) [1,1,1,0,1,0,0,1,0,0,1,0,1,0,0] (Av 0 (NK r143 out_25 i_22) (TH r143 out_25 i_22) z) (NK r143 out_25 i_22 x):=by
 obtain ⟨least_4,k_6⟩:=x
 refine sq (sr (ck 3 (bx H λ x170 h482 H=>sp (Am (eL Ae) h482) (ck 1 (sp (AC Ae x170) (ck 1 (en (cn H (λ H=>?_) (λ H=>?_)))))))))
 ·refine sk (qz (sj (λ (x:Int)=>JkM r143 out_25 i_22 k_6 x) (λ (x:Int)=>G6 n k_6 x) z ?_ (λ hFR7_Memo_J1=>?_)))
  ·intro least_6 H
   exact rz (ck 3 (ae (by cases H;exact og (sg [4,5,6,7,8,9]))))
  refine bk 3 (sr (ck 2 (bx H λ x171 h483 H=>sp (Am (eL Ae) h483) (ck 2 (bx H λ x172 h484 H=>sp (Am Ae h484) (ck 4 (gc 2 (decide (x172>=0)) (ck 2 (bx H λ x173 h485 H=>sE (λ hg=>Am (eL Ae) (BA h485 hg)) (gc 1 ((decide (x172>=0))&&!(decide (least_4<0))) (ck 1 (bx H λ x174 h486 H=>sE (λ hg=>Am Ae (BA h486 hg)) (gc 1 ((decide (x172>=0))&&!(decide (least_4<0))) (ck 1 (gc 1 ((decide (x172>=0))&&!(decide (least_4<0))) (pG (g:=decide (x172>=0)) (v:=.d (.bool ((decide (least_4<0))||(decide (x174<least_4))))) (λ hg=>Gz (c:=.gv (decide (x172>=0)) (.d (.bool (decide (least_4<0))))) (a:=.d (.bool true)) (b:=.gv ((decide (x172>=0))&&!(decide (least_4<0))) (.d (.bool (decide (x174<least_4))))) rfl rfl rfl ((λ hh=>hh) hg) trivial (λ ht=>by rw [(λ hh=>hh) hg,ht];rfl)) (pA (en (cn H (λ H=>?_) (λ H=>?_))))))))))))))))))))
  ·exact rz (ck 2 (bx H λ x175 h487 H=>sp (Am (eL Ae) h487) (ck 2 (bx H λ x176 h488 H=>sp (Am Ae h488) (ck 2 (ae (qN (qs (sg [4,5,6,7,8,9]) (hFR7_Memo_J1 x176 H)))))))))
  ·exact sk (qN (qs (sg [4,5,6,7,8,9]) (hFR7_Memo_J1 least_4 H)))
 ·exact ex 2 (qx (by cases H;exact xo rfl (sg [4,5,6,7,8])))
theorem SX (x:((List Int)×Int)) (z:(((List Int)×Int)⊕(List Int))) (H:FF n r143 out_25 i_22 y113 x.1 x.2=some z):WP (cxk 108 0) (Ax Tryz.f9) [1,1,1,0,1,0,0,1,0,0,1,1,1,0,1,0,0] (Av 0 (NL r143 out_25 i_22 y113) (TI r143 out_25 i_22 y113) z) (NL r143 out_25 i_22 y113 x):=by
 obtain ⟨column_18,k_7⟩:=x
 refine sq (sr (ck 3 (bx H λ x177 h490 H=>sp (Am (eL Ae) h490) (ck 1 (sp (AC Ae x177) (ck 1 (en (cn H (λ H=>?_) (λ H=>?_)))))))))
 ·refine sk (qz (sj (λ (x:(List Int))=>JkP r143 out_25 i_22 y113 k_7 x) (λ (x:(List Int))=>G7 n k_7 x) z ?_ (λ hFR7_Memo_J2=>?_)))
  ·intro column_20 H
   exact rz (ck 3 (ae (by cases H;exact og (sg [4,5,6,7,8,10,11]))))
  refine bk 5 (sr (ck 2 (bx H λ x178 h491 H=>sp (Am (eL Ae) h491) (ck 2 (bx H λ x179 h492 H=>sp (Am Ae h492) (ck 2 (en (cn H (λ H=>?_) (λ H=>?_)))))))))
  ·exact rz (ck 2 (bx H λ l60 h493 H=>sp (B6 Ae 2 1 h493) (ck 1 (ae (qN (qs (sg [4,5,6,7,8,10,11]) (hFR7_Memo_J2 l60 H)))))))
  ·exact rz (ck 3 (bx H λ x180 h494 H=>sp (Am (eL Ae) h494) (ck 2 (bx H λ x181 h495 H=>sp (Am Ae h495) (ck 4 (bx H λ l61 h496 H=>sp (B6 Ae 2 1 h496) (ck 1 (ae (qN (qs (sg [4,5,6,7,8,10,11]) (hFR7_Memo_J2 l61 H)))))))))))
 ·exact ex 4 (qx (by cases H;exact xo rfl (sg [4,5,6,7,8,10])))
theorem SY (x:(A0×Int)) (z:((A0×Int)⊕A0)) (H:G8 n r143 x.1 x.2=some z):WP (cxk 108 0) (Ax Tryz.f9) [1,1,1,0,1,0,0] (Av 0 (NM r143) (TJ) z) (NM r143 x):=by
 obtain ⟨out_25,i_22⟩:=x
 refine sq (sr (ck 2 (sp (AC (eL Ae) r143) (ck 1 (en (cn H (λ H=>?_) (λ H=>?_)))))))
 ·exact sk (qz (sq (bk 1 (sr (ck 1 (en (sq (sr (ck 1 (en (bk 2 (bx H λ y113 h489 H=>lX SW h489 (sg [4,5,6,7,8,9]) rfl λ s hE92=>qH (qs (hE92) (sr (ck 2 (en (sq (sr (ck 1 (en (bk 4 (bx H λ y114 h497 H=>lX SX h497 (sg [4,5,6,7,8,10,11]) rfl λ s hE93=>qH (qs (hE93) (sq (rg (fz (enc:=Ae) (xs:=y114) 10 2 1) (ck 4 (bx H λ l62 h498 H=>sp (B6 (eL Ae) 5 1 h498) (ck 2 (en (rz (ck 4 (bx H λ l63 h499 H=>sp (B6 Ae 6 1 h499) (ck 2 (ae (qN (qz (rz (ck 3 (ae (by cases H;exact og (sg [4,5,6,7])))))))))))))))))))))))))))))))))))))))))
 ·exact ex 0 (qx (by cases H;exact xo rfl (sg [4,5])))
theorem Mr {z} (H:JK n p0_ p1_=some z):AD Tryz.prog 9 [.agg (AK p0_),.d (.str p1_)] (.agg [.d (.str z.Text),.own 1 (z.Costs.map (eL Ae)),.own 1 (z.Least.map Ae)]):=by
 exact fO 108 (JkH p0_ p1_) Tryz.func9 (sr (ck 2 (en (sr (ck 4 (en (sr (ck 2 (bx H λ r143 h481 H=>ca false (Q9 h481) (ck 1 (en (sq (sr (ck 1 (en (bk 0 (bx H λ y115 h500 H=>lX SY h500 (tr (tr (tr (tr (BN 1 1 1 (by kernel_rfl)) (BN 1 2 1 (by kernel_rfl))) (BN 2 1 1 (by kernel_rfl))) (BN 2 2 1 (by kernel_rfl))) (sg [4,5,6,7])) rfl λ s hE94=>qH (qs (hE94) (sr (ck 2 (en (re (by cases H;exact pr (rO (v:=.agg [.d (.str z.Text),.osl 4 1 0 (z.Costs.length),.osl 5 1 0 (z.Least.length)]) [4,5] (a1 (c1 vd (c1 vo (c1 vo (c0)))))))))))))))))))))))))))))
end
section
variable (p0_:Ad) (p1_:(List UInt8)) (p2_:Bz) (out_27:BD)
def Ji1:St:=⟨(0,.agg [.d (.int .i64 p0_.Modes),.d (.int .u8 p0_.Accept),.d (.sl (p0_.Rules.map An))])::(1,.d (.str p1_))::(2,.agg [.d (.int .u8 p2_.At),.d (.int .u8 p2_.Cut),.d (.sl (p2_.L.map eU8))])::[],[]⟩
def Ji2:St:=⟨(6,.ptr 0 0)::(9,.ptr 1 0)::[],[some (.box [.d (.int .i64 0),.d (.int .i64 0),.d (.str [])]),some (.box (EC out_27))]⟩
variable {p0_ p1_ p2_ out_27}
theorem Xb {z} (H:O2 n p0_ p1_ p2_=some z):AD Tryz.prog 10 [.agg (AK p0_),.d (.str p1_),.agg (K5 p2_)] (.agg [.d (.int .i64 z.At),.d (.int .i64 z.Cut),.d (.str z.Put)]):=by
 refine fO 48 (Ji1 p0_ p1_ p2_) Tryz.func10 (sr (ck 3 (en (sr (ck 6 (bx H λ gd16 h501 H=>so (LZ h501) (ck 1 (en (sr (ck 4 (sp (AC eU8 p2_.L) (ck 1 (bx H λ l64 h502 H=>sp (JbE eU8 1 h502) (ck 1 (en (sr (ck 10 (bx H λ gd17 h503 H=>so (LZ h503) (ck 2 (bx H λ r144 h504 H=>ca false (Mp h504) (ck 3 (en (sj (λ (x:BD)=>Ji2 x) (λ (x:BD)=>IK n x) z ?_ (λ hFR7_Made_J1=>?_))))))))))))))))))))))))
 ·intro out_27 H
  exact sr (ck 2 (en (re (by cases H;exact pr rd))))
 refine sr (ck 7 (en (cn H (λ H=>?_) (λ H=>?_))))
 ·exact rz (ck 2 (ae (qs (sg [6,9]) (hFR7_Made_J1 ({ At:=A9 (IntKind.i64.wrap p2_.At) (Au .i64 ((p1_.length:Nat):Int) 1),Cut:=A9 (IntKind.i64.wrap p2_.Cut) (Au .i64 (if 5<CI .i64 ((p1_.length:Nat):Int) (A9 (IntKind.i64.wrap p2_.At) (Au .i64 ((p1_.length:Nat):Int) 1)) then 5 else CI .i64 ((p1_.length:Nat):Int) (A9 (IntKind.i64.wrap p2_.At) (Au .i64 ((p1_.length:Nat):Int) 1))) 1),Put:=[] }:BD) H))))
 ·exact sk (qs (sg [6,9]) (hFR7_Made_J1 ({ At:=A9 (IntKind.i64.wrap p2_.At) (Au .i64 ((p1_.length:Nat):Int) 1),Cut:=A9 (IntKind.i64.wrap p2_.Cut) (Au .i64 (if 5<CI .i64 ((p1_.length:Nat):Int) (A9 (IntKind.i64.wrap p2_.At) (Au .i64 ((p1_.length:Nat):Int) 1)) then 5 else CI .i64 ((p1_.length:Nat):Int) (A9 (IntKind.i64.wrap p2_.At) (Au .i64 ((p1_.length:Nat):Int) 1))) 1),Put:=r144 }:BD) H))
end
section
variable (p0_:(List UInt8)) (p1_:BD)
def Ji3:St:=⟨(0,.d (.str p0_))::(1,.agg [.d (.int .i64 p1_.At),.d (.int .i64 p1_.Cut),.d (.str p1_.Put)])::[],[]⟩
variable {p0_ p1_}
theorem Xc {z} (H:O3 n p0_ p1_=some z):AD Tryz.prog 31 [.d (.str p0_),.agg (EC p1_)] (.d (.bool z)):=by
 exact fO 30 (Ji3 p0_ p1_) Tryz.func31 (sr (ck 2 (en (sr (ck 5 (gc 2 (decide (p1_.At>=0)) (pA (ck 2 (gc 1 ((decide (p1_.At>=0))&&(decide (p1_.Cut>=0))) (ck 1 (gc 2 ((decide (p1_.At>=0))&&(decide (p1_.Cut>=0))) (pA (ck 2 (gc 1 (((decide (p1_.At>=0))&&(decide (p1_.Cut>=0)))&&(decide (p1_.At<=((p0_.length:Nat):Int)))) (ck 1 (gc 1 (((decide (p1_.At>=0))&&(decide (p1_.Cut>=0)))&&(decide (p1_.At<=((p0_.length:Nat):Int)))) (ck 1 (gc 3 (((decide (p1_.At>=0))&&(decide (p1_.Cut>=0)))&&(decide (p1_.At<=((p0_.length:Nat):Int)))) (pA (ck 1 (en (re (by cases H;exact pr rd)))))))))))))))))))))))
end
section
variable (p0_:(List UInt8)) (p1_:BD)
def Ji4:St:=⟨(0,.d (.str p0_))::(1,.agg [.d (.int .i64 p1_.At),.d (.int .i64 p1_.Cut),.d (.str p1_.Put)])::[],[]⟩
variable {p0_ p1_}
theorem SZ {z} (H:IL n p0_ p1_=some z):AD Tryz.prog 15 [.d (.str p0_),.agg (EC p1_)] (.d (.str z)):=by
 exact fO 20 (Ji4 p0_ p1_) Tryz.func15 (sr (ck 2 (en (sr (ck 3 (bx H λ s13 h505 H=>sp (Hx h505) (ck 2 (bx H λ s14 h506 H=>sp (PN h506) (ck 6 (bx H λ s15 h507 H=>sp (Hx h507) (bx H λ s16 h508 H=>sp (PN h508) (ck 1 (en (re (by cases H;exact pr rd)))))))))))))))
end
section
variable (p0_:A0) (p1_:A0) (p2_:Int) (known_13:Bool) (by_1:Int) (k_8:Int) (known_14:Bool) (by_2:Int)
def Ji5:St:=⟨(0,.agg [.d (.str p0_.Text),.d (.sl (p0_.Costs.map (eL Ae))),.d (.sl (p0_.Least.map Ae))])::(1,.agg [.d (.str p1_.Text),.d (.sl (p1_.Costs.map (eL Ae))),.d (.sl (p1_.Least.map Ae))])::(2,.d (.int .i64 p2_))::[],[]⟩
def Ji6:St:=⟨(2,.d (.int .i64 p2_))::(3,.ptr 0 0)::(4,.ptr 1 0)::(7,.d (.bool known_13))::(8,.d (.int .i64 by_1))::(9,.d (.int .i64 k_8))::[],[some (.box (CS p0_)),some (.box (CS p1_))]⟩
def Ji7:St:=⟨[],[]⟩
def Ji8:St:=⟨(2,.d (.int .i64 p2_))::(3,.ptr 0 0)::(4,.ptr 1 0)::(7,.d (.bool known_14))::(8,.d (.int .i64 by_2))::(9,.d (.int .i64 k_8))::[],[some (.box (CS p0_)),some (.box (CS p1_))]⟩
def S0:(Unit⊕Bool)->Ex->St->Prop:=xS (xX 0 0 (λ (_:Unit)=>Ji7)) (xR ty Tryz.f59 (λ (y:Bool)=>.d (.bool y)))
def Ms:(Bool×Int×Int)->St:=(λ (x:(Bool×Int×Int))=>Ji6 p0_ p1_ p2_ x.1 x.2.1 x.2.2)
variable {p0_ p1_ p2_ known_13 by_1 k_8 known_14 by_2}
theorem Lq (x:(Bool×Int×Int)) (z:((Bool×Int×Int)⊕(Unit⊕Bool))) (H:FW n p0_ p1_ p2_ x.1 x.2.1 x.2.2=some z):WP (cxk 77 0) (Ax Tryz.f59) [1,1,1,0,1,0,0] (Av 0 (Ms p0_ p1_ p2_) (S0) z) (Ms p0_ p1_ p2_ x):=by
 obtain ⟨known_13,by_1,k_8⟩:=x
 refine sq (sr (ck 4 (en (cn H (λ H=>?_) (λ H=>?_)))))
 ·refine sk (qz (sj (λ (x:(Bool×Int))=>Ji8 p0_ p1_ p2_ k_8 x.1 x.2) (λ (x:(Bool×Int))=>FV n k_8 x.1 x.2) z ?_ (λ hFR7_equal_J1=>?_)))
  ·rintro ⟨known_14,by_2⟩ H
   exact rz (ck 3 (ae (by cases H;exact og (sg [2,3,4,7,8,9]))))
  refine bk 1 (sq (sr (ck 3 (bx H λ x182 h509 H=>sp (Am (eL Ae) h509) (ck 4 (bx H λ x183 h510 H=>sp (Am (eL Ae) h510) (ck 1 (bx H λ r145 h511 H=>ca false (Eh h511) (ck 3 (gc 1 (!(!r145)) (ck 1 (bx H λ x184 h512 H=>sE (λ hg=>Am Ae (BA h512 hg)) (gc 2 (!(!r145)) (ck 1 (gc 1 (!(!r145)) (ck 1 (bx H λ x185 h513 H=>sE (λ hg=>Am Ae (BA h513 hg)) (gc 3 (!(!r145)) (pO (en (cn H (λ H=>?_) (λ H=>?_))))))))))))))))))))))
  ·exact sr (ck 1 (en (re (qr (qR (qr (by cases H;exact ro rfl rd)))))))
  ·refine sk (qz (sq (sr (ck 3 (bx H λ x186 h514 H=>sp (Am Ae h514) (ck 2 (en (cn H (λ H=>?_) (λ H=>?_)))))))))
   ·exact ex 1 (qx (qH (qs (sg [2,3,4,7,8,9]) (hFR7_equal_J1 (known_13,by_1) H))))
   ·refine sk (qz (sq (sr (ck 3 (gc 1 known_13 (ck 1 (bx H λ x187 h515 H=>sE (λ hg=>Am Ae (BA h515 hg)) (gc 1 known_13 (ck 1 (gc 1 known_13 (ck 1 (bx H λ x188 h516 H=>sE (λ hg=>Am Ae (BA h516 hg)) (gc 2 known_13 (ck 1 (gc 1 known_13 (pA (en (cn H (λ H=>?_) (λ H=>?_)))))))))))))))))))
    ·exact sr (ck 1 (en (re (qr (qR (qr (by cases H;exact ro rfl rd)))))))
    ·exact sk (qz (sr (ck 3 (bx H λ x189 h517 H=>sp (Am Ae h517) (ck 4 (bx H λ x190 h518 H=>sp (Am Ae h518) (ck 3 (en (rz (ck 1 (ae (qN (qs (sg [2,3,4,7,8,9]) (hFR7_equal_J1 (true,(CI .i64 x189 x190)) H))))))))))))))
 ·exact ex 0 (qx (by cases H;exact xo rfl (sg [])))
theorem Vw {z} (H:MX n p0_ p1_ p2_=some z):AD Tryz.prog 59 [.agg (CS p0_),.agg (CS p1_),.d (.int .i64 p2_)] (.d (.bool z)):=by
 refine fO 77 (Ji5 p0_ p1_ p2_) Tryz.func59 (sr (ck 3 (en (sr (ck 1 (en (sr (ck 1 (en (sq (sr (ck 2 (en (bk 0 (bx H λ y116 h519 H=>?_)))))))))))))))
 rcases y116 with y117|y118
 ·exact lX Lq h519 (sg [2,3,4,7,8,9]) rfl λ s hE95=>qH (qs (hE95) (sr (ck 1 (en (re (by cases H;exact pr rd))))))
 ·exact lR Lq h519 (sg [2,3,4,7,8,9]) rfl λ s hE96=>qR (qr (by cases H;exact pr hE96))
end
section
variable (p0_:A0) (p1_:A0) (p2_:BD) (i_23:Int) (n_2:Int) (n_3:Int)
def Ji9:St:=⟨(0,.agg [.d (.str p0_.Text),.d (.sl (p0_.Costs.map (eL Ae))),.d (.sl (p0_.Least.map Ae))])::(1,.agg [.d (.str p1_.Text),.d (.sl (p1_.Costs.map (eL Ae))),.d (.sl (p1_.Least.map Ae))])::(2,.agg [.d (.int .i64 p2_.At),.d (.int .i64 p2_.Cut),.d (.str p2_.Put)])::[],[]⟩
def Jja:St:=⟨(3,.ptr 0 0)::(4,.ptr 1 0)::(5,.ptr 2 0)::(7,.d (.int .i64 i_23))::(8,.d (.int .i64 n_2))::[],[some (.box (CS p0_)),some (.box (CS p1_)),some (.box (EC p2_))]⟩
def Jjb:St:=⟨(8,.d (.int .i64 n_3))::[],[]⟩
def Ra:Int->Ex->St->Prop:=xX 0 0 (λ (y:Int)=>Jjb y)
def Lr:(Int×Int)->St:=(λ (x:(Int×Int))=>Jja p0_ p1_ p2_ x.1 x.2)
variable {p0_ p1_ p2_ i_23 n_2 n_3}
theorem Qb (x:(Int×Int)) (z:((Int×Int)⊕Int)) (H:GS n p0_ p1_ p2_ x.1 x.2=some z):WP (cxk 33 0) (Ax Tryz.f33) [1,1,1,0,0,0] (Av 0 (Lr p0_ p1_ p2_) (Ra) z) (Lr p0_ p1_ p2_ x):=by
 obtain ⟨i_23,n_2⟩:=x
 refine sq (sr (ck 2 (en (cn H (λ H=>?_) (λ H=>?_)))))
 ·refine sk (qz (bk 1 (sq (sr (ck 9 (bx H λ r146 h520 H=>cG false (leZ) rfl (λ hg=>Vw (BA h520 hg)) (Or.inl rfl) (BS (λ hh=>hh) (BS (λ hh=>hh) (BS (λ hh=>hh) (D0)))) rfl (pA (en (cn H (λ H=>?_) (λ H=>?_))))))))))
  ·exact ex 0 (qx (qX rfl (by cases H;exact xo rfl (sg [8]))))
  ·exact sk (qz (sr (ck 3 (en (rz (ck 3 (ae (qN (by cases H;exact og (sg [3,4,5,7,8]))))))))))
 ·exact ex 0 (qx (by cases H;exact xo rfl (sg [8])))
theorem TL {z} (H:Ko n p0_ p1_ p2_=some z):AD Tryz.prog 33 [.agg (CS p0_),.agg (CS p1_),.agg (EC p2_)] (.d (.int .i64 z)):=by
 exact fO 33 (Ji9 p0_ p1_ p2_) Tryz.func33 (sr (ck 4 (en (sr (ck 7 (en (sr (ck 1 (en (sq (bk 0 (bx H λ y119 h521 H=>lX Qb h521 (sg [3,4,5,7,8]) rfl λ s hE97=>qH (qs (hE97) (sr (ck 2 (en (re (by cases H;exact pr rd))))))))))))))))))
end
section
variable (p0_:Ad) (p1_:A0) (p2_:BD)
def Jjc:St:=⟨(0,.agg [.d (.int .i64 p0_.Modes),.d (.int .u8 p0_.Accept),.d (.sl (p0_.Rules.map An))])::(1,.agg [.d (.str p1_.Text),.d (.sl (p1_.Costs.map (eL Ae))),.d (.sl (p1_.Least.map Ae))])::(2,.agg [.d (.int .i64 p2_.At),.d (.int .i64 p2_.Cut),.d (.str p2_.Put)])::[],[]⟩
variable {p0_ p1_ p2_}
theorem TM {z} (H:Kp n p0_ p1_ p2_=some z):AD Tryz.prog 12 [.agg (AK p0_),.agg (CS p1_),.agg (EC p2_)] (.tup [.agg [.d (.str z.1.Text),.d (.sl (z.1.Costs.map (eL Ae))),.d (.sl (z.1.Least.map Ae))],.d (.int .i64 z.2.1),.d (.int .i64 z.2.2)]):=by
 refine fO 37 (Jjc p0_ p1_ p2_) Tryz.func12 (sr (ck 6 (en (sr (ck 3 (bx H λ r147 h522 H=>ca false (Xc h522) (ck 1 (en (sq (sr (ck 2 (en (cn H (λ H=>?_) (λ H=>?_))))))))))))))
 ·exact sr (ck 4 (en (re (qr (by cases H;exact pr (rT (vs:=[.agg [.d (.str []),.d (.nil),.d (.nil)],.d (.int .i64 0),.d (.int .i64 1)]) [] (t1 (a1 (c1 vd (c1 vn (c1 vn (c0))))) (t1 (ad vd) (t1 (ad vd) (t0))))))))))
 ·refine sk (qz (sr (ck 3 (bx H λ r148 h523 H=>ca false (SZ h523) (ck 1 (en (sr (ck 1 (bx H λ r149 h524 H=>ca false (NH h524) (ck 1 (en (sq (sr (ck 2 (en (cn H (λ H=>?_) (λ H=>?_)))))))))))))))))
  ·exact sr (ck 4 (en (re (qr (by cases H;exact pr (rT (vs:=[.agg [.d (.str []),.d (.nil),.d (.nil)],.d (.int .i64 0),.d (.int .i64 60)]) [] (t1 (a1 (c1 vd (c1 vn (c1 vn (c0))))) (t1 (ad vd) (t1 (ad vd) (t0))))))))))
  ·exact sk (qz (sr (ck 2 (bx H λ r150 h525 H=>ca false (Mr h525) (ck 2 (en (sr (ck 4 (bx H λ r151 h526 H=>ca true (TL h526) (ck 3 (en (re (by cases H;exact pr rdT)))))))))))))
end
section
variable (p0_:A0) (p1_:A0) (i_24:Int)
def Jjd:St:=⟨(0,.agg [.d (.str p0_.Text),.d (.sl (p0_.Costs.map (eL Ae))),.d (.sl (p0_.Least.map Ae))])::(1,.agg [.d (.str p1_.Text),.d (.sl (p1_.Costs.map (eL Ae))),.d (.sl (p1_.Least.map Ae))])::[],[]⟩
def Jje:St:=⟨(2,.ptr 0 0)::(3,.ptr 1 0)::(5,.d (.int .i64 i_24))::[],[some (.box (CS p0_)),some (.box (CS p1_))]⟩
def Jjf:St:=⟨[],[]⟩
def TN:(Unit⊕Bool)->Ex->St->Prop:=xS (xX 0 0 (λ (_:Unit)=>Jjf)) (xR ty Tryz.f13 (λ (y:Bool)=>.d (.bool y)))
def NN:Int->St:=(λ (x:Int)=>Jje p0_ p1_ x)
variable {p0_ p1_ i_24}
theorem Mt (x:Int) (z:(Int⊕(Unit⊕Bool))) (H:G9 n p0_ p1_ x=some z):WP (cxk 47 0) (Ax Tryz.f13) [1,1,0,1,0,0] (Av 0 (NN p0_ p1_) (TN) z) (NN p0_ p1_ x):=by
 revert H
 generalize x=i_24
 intro H
 refine sq (sr (ck 3 (sp (AC (eL Ae) p0_.Costs) (ck 1 (en (cn H (λ H=>?_) (λ H=>?_)))))))
 ·refine sk (qz (sq (bk 1 (sr (ck 3 (bx H λ x191 h528 H=>sp (Am (eL Ae) h528) (ck 4 (bx H λ x192 h529 H=>sp (Am (eL Ae) h529) (ck 1 (bx H λ r153 h530 H=>ca false (Eh h530) (ck 1 (en (cn H (λ H=>?_) (λ H=>?_))))))))))))))
  ·exact sr (ck 1 (en (re (qR (qr (by cases H;exact ro rfl rd))))))
  ·exact sk (qN (qz (rz (ck 3 (ae (by cases H;exact og (sg [2,3,5])))))))
 ·exact ex 0 (qx (by cases H;exact xo rfl (sg [])))
theorem QO {z} (H:JL n p0_ p1_=some z):AD Tryz.prog 13 [.agg (CS p0_),.agg (CS p1_)] (.d (.bool z)):=by
 refine fO 47 (Jjd p0_ p1_) Tryz.func13 (sr (ck 3 (en (sq (sr (ck 7 (gc 1 (!(!(p0_.Text==p1_.Text))) (sE (g:=(!(!(p0_.Text==p1_.Text)))) (λ hg=>AC (eL Ae) p0_.Costs) (ck 1 (gc 1 (!(!(p0_.Text==p1_.Text))) (sE (g:=(!(!(p0_.Text==p1_.Text)))) (λ hg=>AC (eL Ae) p1_.Costs) (gc 1 (!(!(p0_.Text==p1_.Text))) (pO (ck 2 (gc 1 (!((!(p0_.Text==p1_.Text))||(((p0_.Costs.length:Nat):Int) != ((p1_.Costs.length:Nat):Int)))) (ck 1 (gc 1 (!((!(p0_.Text==p1_.Text))||(((p0_.Costs.length:Nat):Int) != ((p1_.Costs.length:Nat):Int)))) (bx H λ r152 h527 H=>cG false (leZ) rfl (λ hg=>Eh (BA h527 hg)) (Or.inl rfl) (BS (λ hh=>hh) (BS (λ hh=>hh) (D0))) rfl (gc 1 (!((!(p0_.Text==p1_.Text))||(((p0_.Costs.length:Nat):Int) != ((p1_.Costs.length:Nat):Int)))) (pO (en (cn H (λ H=>?_) (λ H=>?_)))))))))))))))))))))))
 ·exact sr (ck 1 (en (re (qr (by cases H;exact pr rd)))))
 ·refine sk (qz (sq (sr (ck 1 (en (bk 0 (bx H λ y120 h531 H=>?_)))))))
  rcases y120 with y121|y122
  ·exact lX Mt h531 (sg [2,3,5]) rfl λ s hE98=>qH (qs (hE98) (sr (ck 1 (en (re (by cases H;exact pr rd))))))
  ·exact lR Mt h531 (sg [2,3,5]) rfl λ s hE99=>qR (qr (by cases H;exact pr hE99))
end
section
variable (p0_:Nf) (p1_:(List Int)) (p2_:Bz)
def JkQ:St:=⟨(0,.agg [.d (.int .u8 p0_.Base),.d (.int .u8 p0_.Drop),.d (.sl (p0_.More.map FG))])::(1,.d (.sl (p1_.map eU8)))::(2,.agg [.d (.int .u8 p2_.At),.d (.int .u8 p2_.Cut),.d (.sl (p2_.L.map eU8))])::[],[]⟩
variable {p0_ p1_ p2_}
theorem Mv {z} (H:D6 n p0_ p1_ p2_=some z):AD Tryz.prog 3 [.agg (Yn p0_),.d (.sl (p1_.map eU8)),.agg (K5 p2_)] (.d (.bool z)):=by
 exact fO 73 (JkQ p0_ p1_ p2_) Tryz.func3 (sr (ck 3 (en (sr (bx H λ r154 h532 H=>ca false (Tz h532) (ck 1 (en (sr (ck 1 (bx H λ r155 h533 H=>ca false (Xa h533) (ck 2 (en (sr (ck 2 (bx H λ r156 h534 H=>ca false (Mp h534) (ck 1 (en (sr (ck 2 (bx H λ r157 h535 H=>ca false (Mr h535) (ck 2 (en (sr (ck 3 (bx H λ r158 h536 H=>ca false (Xb h536) (ck 2 (en (sr (ck 3 (bx H λ r159 h537 H=>ca false (GT h537) (ck 8 (en (sr (ck 3 (bx H λ r160 h538 H=>ca false (TM h538) (ck 8 (en (sr (ck 3 (gc 1 r154 (pA (ck 2 (gc 1 (r154&&(r159.2.2==0)) (pA (ck 3 (bx H λ r161 h539 H=>cG false (leZ) rfl (λ hg=>QO (BA h539 hg)) (Or.inl rfl) (BS (λ hh=>hh) (BS (λ hh=>hh) (D0))) rfl (pA (ck 3 (gc 1 (((r154&&(r159.2.2==0))&&(r160.2.2==0))&&r161) (pA (ck 4 (bx H λ r162 h540 H=>cG false (leZ) rfl (λ hg=>Mr (BA h540 hg)) (Or.inl rfl) (BS (λ hh=>hh) (BS (λ hh=>hh) (D0))) rfl (bx H λ r163 h541 H=>cG false (leZ) rfl (λ hg=>QO (BA h541 hg)) (Or.inl rfl) (BS (λ hh=>hh) (BS (λ hh=>hh) (D0))) rfl (pA (ck 1 (en (re (by cases H;exact pr rd))))))))))))))))))))))))))))))))))))))))))))))))))))))))))
end
end Go.AI
end
