/- Part 5 of 7 of the proof: lemmas about the model and the program's functions, with no condition beyond those that each states. -/
import Derived.Test.YtjaogfjfamffnaaLD
section
namespace Go.AI
open Go.Proofs
set_option maxRecDepth 10000
theorem xok (n kl:Nat):XOK Try.prog (cxk n kl):=⟨tyOK,rfl⟩
theorem fO (k:Nat) (s:St) {fn:Func} {f:FuncId} {args:List AV} {r:AV} (hf:Try.prog.funcs[f]? = some fn) (h:WP (cxk k 0) (AA fn) [] (WA (cxk k 0).ty fn.results.toList r) s) (hb:fn.body=some (AA fn):=by kernel_rfl) (hnm:(fn.name == "runtime.NumGoroutine")=false:=by kernel_rfl) (hnt:(cxk k 0).nt.n=fn.ntmps:=by kernel_rfl) (hlen:Nat.ble args.length fn.ntmps=true:=by kernel_rfl) (hs:(⟨(List.range args.length).zip args,[]⟩:St)=s:=by kernel_rfl):AF Try.prog f args r:=fo follows (JfG k 0) hf h hb hnm hnt hlen hs
theorem fL (k nb:Nat) (s:St) {fn:Func} {f:FuncId} {args:List AV} {O0 O1:List (Option Ob)} {r:AV} (hf:Try.prog.funcs[f]? = some fn) (h:WP (cxk k nb) (AA fn) [] (T5 nb (cxk k nb).ty fn.results.toList r O1) s) (hb:fn.body=some (AA fn):=by kernel_rfl) (hnm:(fn.name == "runtime.NumGoroutine")=false:=by kernel_rfl) (hnt:(cxk k nb).nt=⟨fn.ntmps,[],nb⟩:=by kernel_rfl) (hlen:Nat.ble args.length fn.ntmps=true:=by kernel_rfl) (hs:(⟨(List.range args.length).zip args,O0⟩:St)=s:=by kernel_rfl):BC Try.prog f args O0 nb r O1:=fl follows (JfG k nb) hf h hb hnm hnt hlen hs
variable {n:Nat}
def Am (x:Ax):List D:=[.str x.Print,.sl (List.map eU8 x.Cells),.int .u8 x.Left,.int .u8 x.Right,.int .i64 x.From,.int .i64 x.To]
def Aj (x:Ab):List D:=[.int .i64 x.Mode,.int .i64 x.Last,.int .u8 x.Need]
def Ay (x:NL):List D:=[.str x.Print,.int .i64 x.Cells,.int .i64 x.To]
def LV (x:AD):List D:=[.sl (List.map Ae x.States),.sl (List.map Ae x.Costs)]
def Ai (x:A7):List D:=[.int .i64 x.Rule,.int .i64 x.To]
@[reducible] def Jj2 {α:Type} (e:α->List D) (x:FJ α):List D:=e x.a0++e x.a1
def FB (x:Dp):List D:=[.sl (List.map eU8 x.P),.sl (List.map eU8 x.C),.int .u8 x.L,.int .u8 x.R,.int .u8 x.W.a0,.int .u8 x.W.a1]
def Jj3 (x:MX):List D:=[.int .u8 x.Base,.int .u8 x.Drop,.sl (List.map FB x.More)]
def PG (x:BK):List D:=[.int .u8 x.At,.int .u8 x.Cut,.sl (List.map eU8 x.L)]
def FS (x:Ad) (v2:AV):List AV:=[.d (.int .i64 x.Modes),.d (.int .u8 x.Accept),v2]
def AK (x:Ad):List AV:=[.d (.int .i64 x.Modes),.d (.int .u8 x.Accept),.d (.sl (List.map Am x.Rules))]
def I9 (x:Ab):List AV:=[.d (.int .i64 x.Mode),.d (.int .i64 x.Last),.d (.int .u8 x.Need)]
def FT (x:Bj):List AV:=[.d (.str x.Text),.d (.sl (List.map (eL Ae) x.Costs)),.d (.sl (List.map Ae x.Least))]
def HA (x:B4):List AV:=[.d (.int .i64 x.At),.d (.int .i64 x.Cut),.d (.str x.Put)]
def LW (x:Ax):List AV:=[.d (.str x.Print),.d (.sl (List.map eU8 x.Cells)),.d (.int .u8 x.Left),.d (.int .u8 x.Right),.d (.int .i64 x.From),.d (.int .i64 x.To)]
def G4 (x:Af) (v5:AV) (v6:AV):List AV:=[.d (.int .i64 x.T.Modes),.d (.int .u8 x.T.Accept),.d (.sl (List.map Am x.T.Rules)),.d (.str x.S),.d (.sl (List.map Aj x.States)),v5,v6,.d (.int .i64 x.Last)]
def Al (x:Af) (v6:AV):List AV:=[.d (.int .i64 x.T.Modes),.d (.int .u8 x.T.Accept),.d (.sl (List.map Am x.T.Rules)),.d (.str x.S),.d (.sl (List.map Aj x.States)),.d (.sl (List.map (eL Ai) x.Arcs)),v6,.d (.int .i64 x.Last)]
def OK (x:Dp):List AV:=[.d (.sl (List.map eU8 x.P)),.d (.sl (List.map eU8 x.C)),.d (.int .u8 x.L),.d (.int .u8 x.R),.d (.int .u8 x.W.a0),.d (.int .u8 x.W.a1)]
def Rc (x:Ax) (v1:AV):List AV:=[.d (.str x.Print),v1,.d (.int .u8 x.Left),.d (.int .u8 x.Right),.d (.int .i64 x.From),.d (.int .i64 x.To)]
def X4 (x:MX):List AV:=[.d (.int .u8 x.Base),.d (.int .u8 x.Drop),.d (.sl (List.map FB x.More))]
def JgH (x:Sn):List AV:=[.d (.str x.S),.d (.int .i64 x.I),.d (.int .i64 x.State.Mode),.d (.int .i64 x.State.Last),.d (.int .u8 x.State.Need),.d (.sl (List.map Aj x.L))]
def FC (x:Bj) (v1:AV) (v2:AV):List AV:=[.d (.str x.Text),v1,v2]
def KW (x:BK):List AV:=[.d (.int .u8 x.At),.d (.int .u8 x.Cut),.d (.sl (List.map eU8 x.L))]
def Ac (x:AD):List AV:=[.own 1 (List.map Ae x.States),.own 1 (List.map Ae x.Costs)]
theorem So:∀ a b:Ab,AZ [.int .i64,.int .i64,.int .u8] ((Aj a).map .d) ((Aj b).map .d)=some (decide (a=b)):=by
  intro a b
  cases a;cases b
  simp [AZ,Aj,Bool.decide_and]
  try rfl
section
variable (t_1:Ad) (i_1:Int) (t_2:Ad)
def JgI:St:=⟨[],[]⟩
def JgJ:St:=⟨(0,.ptr 0 0)::(1,.ptr 1 0)::(2,.osl 2 1 0 (List.length ([[97],[98],[97,98]])))::(3,.osl 3 1 0 (List.length [1,3,7]))::(4,.d (.int .i64 i_1))::[],[some (.box [.d (.int .i64 0),.d (.int .u8 0),.osl 4 6 0 (List.length ([]:List Ax))]),some (.box (FS t_1 (.osl 5 6 0 (List.length t_1.Rules)))),some (.arr 1 (List.map eS ([[97],[98],[97,98]]))),some (.arr 1 (List.map eU8 [1,3,7])),some (.arr 6 (List.map Am ([]:List Ax))),some (.arr 6 (List.map Am t_1.Rules))]⟩
def JgK:St:=⟨(0,.ptr 0 0)::(1,.ptr 1 0)::[],[some (.box [.d (.int .i64 0),.d (.int .u8 0),.osl 2 6 0 (List.length ([]:List Ax))]),some (.box (FS t_2 (.osl 3 6 0 (List.length t_2.Rules)))),some (.arr 6 (List.map Am ([]:List Ax))),some (.arr 6 (List.map Am t_2.Rules))]⟩
def QK:Ad->Ex->St->Prop:=xX 0 0 (λ (y:Ad)=>JgK y)
def KX:(Ad×Int)->St:=(λ (x:(Ad×Int))=>JgJ x.1 x.2)
variable {t_1 i_1 t_2}
theorem PH (x:(Ad×Int)) (z:((Ad×Int)⊕Ad)) (H:GJ n x.1 x.2=some z):WP (cxk 28 0) (AA Try.f19) [1,1,1,1,0,1,0,0] (Av 0 (KX) (QK) z) (KX x):=by
 obtain ⟨t_1,i_1⟩:=x
 refine sq (sr (ck 2 (en (cn H (λ H=>?_) (λ H=>?_)))))
 ·exact sk (qz (sq (bk 1 (rz (ck 4 (bx H λ x1 h1 H=>sp (Az 2 1 h1) (sp (CK eS 2 0 (ty 9) h1) (ck 2 (bx H λ x2 h2 H=>sp (Az 3 1 h2) (sp (CK eU8 3 0 (ty 64) h2) (sF (ck 2 (bx H λ l1 h3 H=>sp (B3 Am 5 6 h3) (ck 2 (ae (qN (qz (rz (ck 3 (ae (by cases H;exact og (sg [0,1,2,3,4]))))))))))))))))))))))
 ·exact ex 0 (qx (by cases H;exact xo rfl (sg [0,1])))
theorem Ti {z} (H:Kc n=some z):AF Try.prog 19 [] (.agg [.d (.int .i64 z.Modes),.d (.int .u8 z.Accept),.own 6 (List.map Am z.Rules)]):=by
 exact fO 28 JgI Try.func19 (sr (ck 1 (en (sr (ck 3 (en (sr (ck 2 (en (sr (ck 2 (en (sq (sr (ck 1 (en (bk 0 (bx H λ y1 h4 H=>lX PH h4 (tr (tr (BI 0 2 6 (by kernel_rfl)) (BI 1 2 6 (by kernel_rfl))) (sg [0,1,2,3,4])) rfl λ s hE1=>qH (qs (hE1) (sr (ck 2 (en (re (by cases H;exact pr (rO (v:=.agg [.d (.int .i64 z.Modes),.d (.int .u8 z.Accept),.osl 3 6 0 (List.length z.Rules)]) [3] (a1 (c1 vd (c1 vd (c1 vo (c0))))))))))))))))))))))))))))))
end
section
variable (p0_:Int)
def JgL:St:=⟨(0,.d (.int .u8 p0_))::[],[]⟩
variable {p0_}
theorem NM {z} (H:DL n p0_=some z):AF Try.prog 44 [.d (.int .u8 p0_)] (.d (.bool z)):=by
 exact fO 12 (JgL p0_) Try.func44 (sr (ck 1 (en (sr (ck 3 (en (sr (ck 4 (gc 1 (decide (32≤Cg .u8 p0_ 127)) (pA (ck 1 (en (re (by cases H;exact pr rd))))))))))))))
end
section
variable (p0_:(List UInt8)) (x_1:Int)
def JgM:St:=⟨(0,.d (.str p0_))::[],[]⟩
def JgN:St:=⟨(0,.d (.str p0_))::(6,.d (.int .i64 ((List.length p0_:Nat):Int)))::(7,.d (.int .i64 x_1))::[],[]⟩
def JgO:St:=⟨(0,.d (.str p0_))::[],[]⟩
def Tj:(Unit⊕(Int×Int))->Ex->St->Prop:=xS (xX 0 0 (λ (y:Unit)=>JgO p0_)) (xR ty Try.f24 (λ (y:(Int×Int))=>.tup [.d (.int .i64 y.1),.d (.int .i64 y.2)]))
def Nl:Int->St:=(λ (x:Int)=>JgN p0_ x)
variable {p0_ x_1}
theorem LX (x:Int) (z:(Int⊕(Unit⊕(Int×Int)))) (H:Fq n p0_ x=some z):WP (cxk 19 0) (AA Try.f24) [1,0,1,0,0] (Av 0 (Nl p0_) (Tj p0_) z) (Nl p0_ x):=by
 revert H
 generalize x=x_1
 intro H
 refine sr (ck 1 (en (sq (cn H (λ H=>?_) (λ H=>?_)))))
 ·refine sk (qz (sq (bk 1 (sr (ck 2 (en (sr (ck 2 (bx H λ b1 h5 H=>sp (Hq h5) (bx H λ r1 h6 H=>ca false (NM h6) (ck 1 (en (cn H (λ H=>?_) (λ H=>?_))))))))))))))
  ·exact sr (ck 3 (en (re (qR (qr (by cases H;exact ro rfl rdT))))))
  ·exact sk (qN (qz (rz (ck 2 (ae (by cases H;exact og (sg [0,6,7])))))))
 ·exact ex 0 (qx (by cases H;exact xo rfl (sg [0])))
theorem IG {z} (H:FO n p0_=some z):AF Try.prog 24 [.d (.str p0_)] (.tup [.d (.int .i64 z.1),.d (.int .i64 z.2)]):=by
 refine fO 19 (JgM p0_) Try.func24 (sr (ck 2 (en (sq (sr (ck 3 (en (bk 0 (bx H λ y2 h7 H=>?_)))))))))
 rcases y2 with y3|y4
 ·exact lX LX h7 (sg [0,6,7]) rfl λ s hE2=>qH (qs (hE2) (sr (ck 4 (en (re (by cases H;exact pr rdT))))))
 ·exact lR LX h7 (sg [0,6,7]) rfl λ s hE3=>qR (qr (by cases H;exact pr hE3))
end
def JgP:St:=⟨[],[]⟩
theorem U4 {z} (H:JA n=some z):AF Try.prog 78 [] (.agg [.d (.int .i64 z.Mode),.d (.int .i64 z.Last),.d (.int .u8 z.Need)]):=by
 exact fO 2 JgP Try.func78 (sr (ck 1 (en (sr (ck 2 (en (re (by cases H;exact pr rd))))))))
section
variable (p0_:Int) (p1_:Int)
def JgQ:St:=⟨(0,.d (.int .u8 p0_))::(1,.d (.int .i64 p1_))::[],[]⟩
variable {p0_ p1_}
theorem Kh {z} (H:Hr n p0_ p1_=some z):AF Try.prog 68 [.d (.int .u8 p0_),.d (.int .i64 p1_)] (.d (.bool z)):=by
 exact fO 18 (JgQ p0_ p1_) Try.func68 (sr (ck 1 (en (sr (ck 4 (gc 1 (decide (0≤p1_)) (pA (ck 3 (bx H λ gd1 h8 H=>soG (λ hg=>HO (BO h8 hg)) (B6 (λ hh=>hh) (B6 (λ hh=>hh) (Em))) (gc 2 ((decide (0≤p1_))&&(decide (p1_<8))) (pA (ck 1 (en (re (by cases H;exact pr rd)))))))))))))))
end
section
variable (p0_:Int)
def JgR:St:=⟨(0,.d (.int .u8 p0_))::[],[]⟩
variable {p0_}
theorem HB {z} (H:Eo n p0_=some z):AF Try.prog 69 [.d (.int .u8 p0_)] (.d (.int .i64 z)):=by
 refine fO 30 (JgR p0_) Try.func69 (sr (ck 1 (en (sr (ck 3 (en (sq (bk 0 (sr (ck 4 (gc 1 (decide (97≤Cg .u8 p0_ 127)) (pA (ck 1 (en (cn H (λ H=>?_) (λ H=>?_))))))))))))))))
 ·exact sr (ck 1 (en (re (qR (qr (by cases H;exact pr rd))))))
 ·refine sr (ck 4 (gc 1 (decide (65≤Cg .u8 p0_ 127)) (pA (ck 1 (en (cn H (λ H=>?_) (λ H=>?_)))))))
  ·exact sr (ck 1 (en (re (qR (qr (by cases H;exact pr rd))))))
  ·refine sr (ck 4 (gc 1 (decide (48≤Cg .u8 p0_ 127)) (pA (ck 1 (en (cn H (λ H=>?_) (λ H=>?_)))))))
   ·exact sr (ck 1 (en (re (qR (qr (by cases H;exact pr rd))))))
   ·refine sr (ck 3 (en (cn H (λ H=>?_) (λ H=>?_))))
    ·exact sr (ck 1 (en (re (qR (qr (by cases H;exact pr rd))))))
    ·exact sk (qN (qz (sr (ck 1 (en (re (by cases H;exact pr rd)))))))
end
section
variable (p0_:Ad) (p1_:Ab) (p2_:Int)
def JgS:St:=⟨(0,.agg [.d (.int .i64 p0_.Modes),.d (.int .u8 p0_.Accept),.d (.sl (List.map Am p0_.Rules))])::(1,.agg [.d (.int .i64 p1_.Mode),.d (.int .i64 p1_.Last),.d (.int .u8 p1_.Need)])::(2,.d (.int .i64 p2_))::[],[]⟩
variable {p0_ p1_ p2_}
theorem LY {z} (H:GV n p0_ p1_ p2_=some z):AF Try.prog 47 [.agg (AK p0_),.agg (I9 p1_),.d (.int .i64 p2_)] (.tup [.agg [.d (.int .i64 z.1.Mode),.d (.int .i64 z.1.Last),.d (.int .u8 z.1.Need)],.d (.bool z.2)]):=by
 refine fO 78 (JgS p0_ p1_ p2_) Try.func47 (sr (ck 4 (en (sq (sr (ck 5 (gc 1 (!(decide (p2_<0))) (sE (g:=(!(decide (p2_<0)))) (λ hg=>AC Am p0_.Rules) (gc 1 (!(decide (p2_<0))) (pO (en (cn H (λ H=>?_) (λ H=>?_)))))))))))))
 ·exact sr (ck 3 (en (re (qr (by cases H;exact pr rdT)))))
 ·refine sk (qz (sr (ck 3 (bx H λ x3 h9 H=>sp (Aq Am h9) (ck 3 (en (sq (sr (ck 7 (gc 1 (!(x3.From != p1_.Mode)) (ck 1 (gc 1 (!(x3.From != p1_.Mode)) (bx H λ r2 h10 H=>cG false (leZ) rfl (λ hg=>Kh (BO h10 hg)) (Or.inl rfl) (B6 (λ hh=>hh) (B6 (λ hh=>hh) (Em))) rfl (gc 1 (!(x3.From != p1_.Mode)) (pO (en (cn H (λ H=>?_) (λ H=>?_))))))))))))))))))
  ·exact sr (ck 3 (en (re (qr (by cases H;exact pr rdT)))))
  ·refine sk (qz (sq (sr (ck 3 (en (cn H (λ H=>?_) (λ H=>?_)))))))
   ·refine sr (ck 6 (en (sq (sr (ck 2 (en (cn H (λ H=>?_) (λ H=>?_))))))))
    ·exact sr (ck 3 (en (re (qr (qr (by cases H;exact pr rdT))))))
    ·exact sk (qz (sr (ck 8 (en (re (qr (by cases H;exact pr rdT)))))))
   ·refine sk (qz (sq (sr (ck 4 (bx H λ b2 h11 H=>sp (Hq h11) (bx H λ r3 h12 H=>ca false (HB h12) (bx H λ r4 h13 H=>ca false (Kh h13) (ck 1 (en (cn H (λ H=>?_) (λ H=>?_)))))))))))
    ·exact sr (ck 3 (en (re (qr (by cases H;exact pr rdT)))))
    ·exact sk (qz (sr (ck 8 (bx H λ b3 h14 H=>sp (Hq h14) (bx H λ r5 h15 H=>ca false (HB h15) (ck 5 (en (re (by cases H;exact pr rdT)))))))))
end
section
variable (p0_:Ad) (states_1:(List Ab)) (from_1:(List (List Int))) (number_1:(List (Ab×Int))) (k_1:Int) (states_2:(List Ab)) (from_2:(List (List Int))) (states_3:(List Ab)) (from_3:(List (List Int))) (number_2:(List (Ab×Int))) (x_2:Int) (states_4:(List Ab)) (from_4:(List (List Int))) (number_3:(List (Ab×Int))) (states_5:(List Ab)) (from_5:(List (List Int))) (number_4:(List (Ab×Int))) (states_6:(List Ab)) (from_6:(List (List Int))) (number_5:(List (Ab×Int))) (n_1:Int)
def JgT:St:=⟨(0,.agg [.d (.int .i64 p0_.Modes),.d (.int .u8 p0_.Accept),.d (.sl (List.map Am p0_.Rules))])::[],[]⟩
def JgU:St:=⟨(1,.ptr 0 0)::(5,.osl 1 3 0 (List.length states_1))::(6,.osl 2 1 0 (List.length from_1))::(7,.mp 3)::(8,.d (.int .i64 k_1))::[],[some (.box (AK p0_)),some (.arr 3 (List.map Aj states_1)),some (.narr 1 (List.map (nL 1 Ae) from_1)),some (.map true false (En Aj Ae number_1))]⟩
def JgV:St:=⟨(5,.osl 0 3 0 (List.length states_2))::(6,.osl 1 1 0 (List.length from_2))::[],[some (.arr 3 (List.map Aj states_2)),some (.narr 1 (List.map (nL 1 Ae) from_2))]⟩
def JgW:St:=⟨(1,.ptr 0 0)::(5,.osl 1 3 0 (List.length states_3))::(6,.osl 2 1 0 (List.length from_3))::(7,.mp 3)::(8,.d (.int .i64 k_1))::(29,.d (.int .i64 ((List.length p0_.Rules:Nat):Int)))::(30,.d (.int .i64 x_2))::[],[some (.box (AK p0_)),some (.arr 3 (List.map Aj states_3)),some (.narr 1 (List.map (nL 1 Ae) from_3)),some (.map true false (En Aj Ae number_2))]⟩
def JgX:St:=⟨(1,.ptr 0 0)::(5,.osl 1 3 0 (List.length states_4))::(6,.osl 2 1 0 (List.length from_4))::(7,.mp 3)::(8,.d (.int .i64 k_1))::[],[some (.box (AK p0_)),some (.arr 3 (List.map Aj states_4)),some (.narr 1 (List.map (nL 1 Ae) from_4)),some (.map true false (En Aj Ae number_3))]⟩
def JgY:St:=⟨(1,.ptr 0 0)::(5,.osl 1 3 0 (List.length states_5))::(6,.osl 2 1 0 (List.length from_5))::(7,.mp 3)::(8,.d (.int .i64 k_1))::(29,.d (.int .i64 ((List.length p0_.Rules:Nat):Int)))::(30,.d (.int .i64 x_2))::[],[some (.box (AK p0_)),some (.arr 3 (List.map Aj states_5)),some (.narr 1 (List.map (nL 1 Ae) from_5)),some (.map true false (En Aj Ae number_4))]⟩
def JgZ:St:=⟨(1,.ptr 0 0)::(5,.osl 1 3 0 (List.length states_6))::(6,.osl 2 1 0 (List.length from_6))::(7,.mp 3)::(8,.d (.int .i64 k_1))::(12,.d (.int .i64 n_1))::(29,.d (.int .i64 ((List.length p0_.Rules:Nat):Int)))::(30,.d (.int .i64 x_2))::[],[some (.box (AK p0_)),some (.arr 3 (List.map Aj states_6)),some (.narr 1 (List.map (nL 1 Ae) from_6)),some (.map true false (En Aj Ae number_5))]⟩
def PJ:((List Ab)×(List (List Int))×(List (Ab×Int)))->Ex->St->Prop:=xX 0 2 (λ (y:((List Ab)×(List (List Int))×(List (Ab×Int))))=>JgX p0_ k_1 y.1 y.2.1 y.2.2)
def JG:((List Ab)×(List (List Int))×(List (Ab×Int))×Int)->St:=(λ (x:((List Ab)×(List (List Int))×(List (Ab×Int))×Int))=>JgW p0_ k_1 x.1 x.2.1 x.2.2.1 x.2.2.2)
def PK:((List Ab)×(List (List Int)))->Ex->St->Prop:=xX 0 0 (λ (y:((List Ab)×(List (List Int))))=>JgV y.1 y.2)
def JH:((List Ab)×(List (List Int))×(List (Ab×Int))×Int)->St:=(λ (x:((List Ab)×(List (List Int))×(List (Ab×Int))×Int))=>JgU p0_ x.1 x.2.1 x.2.2.1 x.2.2.2)
variable {p0_ states_1 from_1 number_1 k_1 states_2 from_2 states_3 from_3 number_2 x_2 states_4 from_4 number_3 states_5 from_5 number_4 states_6 from_6 number_5 n_1}
theorem OL (x:((List Ab)×(List (List Int))×(List (Ab×Int))×Int)) (z:(((List Ab)×(List (List Int))×(List (Ab×Int))×Int)⊕((List Ab)×(List (List Int))×(List (Ab×Int))))) (H:Bx n p0_ k_1 x.1 x.2.1 x.2.2.1 x.2.2.2=some z):WP (cxk 78 0) (AA Try.f67) [1,1,1,1,0,1,0,0,1,0,0,1,0,0] (Av 0 (JG p0_ k_1) (PJ p0_ k_1) z) (JG p0_ k_1 x):=by
 obtain ⟨states_3,from_3,number_2,x_2⟩:=x
 refine sr (ck 1 (en (sq (cn H (λ H=>?_) (λ H=>?_)))))
 ·refine sk (qz (sj (λ (x:((List Ab)×(List (List Int))×(List (Ab×Int))))=>JgY p0_ k_1 x_2 x.1 x.2.1 x.2.2) (λ (x:((List Ab)×(List (List Int))×(List (Ab×Int))))=>Ci n x_2 x.1 x.2.1 x.2.2) z ?_ (λ hFAu_explore_J1=>?_)))
  ·rintro ⟨states_5,from_5,number_4⟩ H
   exact rz (ck 2 (ae (by cases H;exact og (gP [1,5,6,7,8,29,30] [0,1,2,3] (po1 (po1 (pn1 (nL 1 Ae) from_5 (po1 (Pl.z)))))))))
  refine bk 3 (sr (ck 2 (en (sr (ck 3 (bx H λ x4 h17 H=>sp (Az 1 3 h17) (sp (CK Aj 1 0 (ty 87) h17) (ck 1 (bx H λ r7 h18 H=>ca false (LY h18) (ck 6 (en (sq (sr (ck 2 (en (cn H (λ H=>?_) (λ H=>?_)))))))))))))))))
  ·exact ex 3 (qx (qH (qs (gP [1,5,6,7,8,29,30] [0,1,2,3] (po1 (po1 (pn1 (nL 1 Ae) from_3 (po1 (Pl.z)))))) (hFAu_explore_J1 (states_3,from_3,number_2) H))))
  ·refine sk (qz (sr (ck 2 (sp (Sk (enc:=Ae) (encK:=Aj) (k:=3) (e1:=λ x=>.int .i64 x) (m:=number_2) (l:=[.d (.int .i64 r7.1.Mode),.d (.int .i64 r7.1.Last),.d (.int .u8 r7.1.Need)]) (key:=r7.1) (z:=0) (vz:=[.int .i64 0]) So true) (ck 5 (en (sj (λ (x:((List Ab)×(List (List Int))×(List (Ab×Int))×Int))=>JgZ p0_ k_1 x_2 x.1 x.2.1 x.2.2.1 x.2.2.2) (λ (x:((List Ab)×(List (List Int))×(List (Ab×Int))×Int))=>CL n k_1 x_2 x.1 x.2.1 x.2.2.1 x.2.2.2) z ?_ (λ hFAu_explore_J2=>?_))))))))
   ·rintro ⟨states_6,from_6,number_5,n_1⟩ H
    exact bx H λ x5 h19 H=>rg (tr (so1 (encN:=(nL 1 Ae)) 2 1 h19) (sno (encN:=(nL 1 Ae)) (enc:=Ae) h19 [.own 1 (List.map Ae x5)] x5 1 2 0 1)) (ck 4 (sp (Az 2 1 h19) (sp (Ch (encN:=(nL 1 Ae)) (row:=[.osl 4 1 0 (List.length x5)]) (k:=2) (sz:=1) (off:=0) (t:=ty 32) (v:=.osl 4 1 0 (List.length x5)) h19) (ck 2 (bx H λ l2 h20 H=>sp (B3 Ae 4 1 h20) (sp (Az 2 1 h19) (sp (LQ (encN:=(nL 1 Ae)) (row:=[.osl 4 1 0 (List.length x5)]) (row':=[.osl 6 1 0 (List.length l2)]) (k:=2) (sz:=1) (off:=0) (t:=ty 32) (v:=.osl 6 1 0 (List.length l2)) h19) (ae (qN (qs (tr (tr (tr (tr (tr (sni (encN:=(nL 1 Ae)) (xs:=from_6) (n:=n_1) (enc:=Ae) [.osl 6 1 0 (List.length l2)] l2 1 2 0 6 1) (scl (encN:=(nL 1 Ae)) (xss:=from_6) n_1 [.own 1 (List.map Ae l2)] 1 2 l2)) (sn 6 2 1 (lsS from_6 (Int.toNat n_1) l2))) (sn 65 2 1 (lsS from_6 (Int.toNat n_1) l2))) (sn 67 2 1 (lsS from_6 (Int.toNat n_1) l2))) (gP [1,5,6,7,8,29,30] [0,1,2,3] (po1 (po1 (pn1 (nL 1 Ae) (List.set from_6 (Int.toNat n_1) l2) (po1 (Pl.z))))))) (hFAu_explore_J1 (states_6,(List.set from_6 (Int.toNat n_1) l2),number_5) H)))))))))))
   refine sr (ck 2 (en (cn H (λ H=>?_) (λ H=>?_))))
   ·exact sr (ck 3 (en (sr (ck 3 (sp (Ra (enc:=Ae) (encK:=Aj) (k:=3) (e1:=λ x=>.int .i64 x) (m:=number_2) (l:=[.d (.int .i64 r7.1.Mode),.d (.int .i64 r7.1.Last),.d (.int .u8 r7.1.Need)]) (key:=r7.1) (y:=((List.length states_3:Nat):Int)) (v:=.d (.int .i64 ((List.length states_3:Nat):Int))) (vz:=[.int .i64 0]) So) (en (rz (ck 3 (bx H λ l3 h21 H=>sp (B3 Aj 1 3 h21) (ck 1 (sK false (bx H λ l4 h22 H=>sp (JeF (encN:=(nL 1 Ae)) (esz:=1) (k:=2) (e:=[.nil]) h22) (ck 2 (ae (qs (tr (Jgd (encN:=(nL 1 Ae)) (xss:=from_3) (yss:=l4) (y:=([]:(List Int))) (row:=[.own 0 []]) (sz:=1) 7 (by kernel_rfl) (Jew h22) (by kernel_rfl)) (gP [1,5,6,7,8,12,29,30] [0,6,7,3] (po1 (po1 (pn1 (nL 1 Ae) l4 (po1 (Pl.z))))))) (hFAu_explore_J2 (l3,l4,(LI r7.1 ((List.length states_3:Nat):Int) number_2),((List.length states_3:Nat):Int)) H))))))))))))))))
   ·exact sk (qs (gP [1,5,6,7,8,12,29,30] [0,1,2,3] (po1 (po1 (pn1 (nL 1 Ae) from_3 (po1 (Pl.z)))))) (hFAu_explore_J2 (states_3,from_3,number_2,(Option.getD (F5 r7.1 number_2) 0)) H))
 ·exact ex 2 (qx (by cases H;exact xo rfl (gP [1,5,6,7,8] [0,1,2,3] (po1 (po1 (pn1 (nL 1 Ae) from_3 (po1 (Pl.z))))))))
theorem OM (x:((List Ab)×(List (List Int))×(List (Ab×Int))×Int)) (z:(((List Ab)×(List (List Int))×(List (Ab×Int))×Int)⊕((List Ab)×(List (List Int))))) (H:Cj n p0_ x.1 x.2.1 x.2.2.1 x.2.2.2=some z):WP (cxk 78 0) (AA Try.f67) [1,1,1,1,0,1,0,0] (Av 0 (JH p0_) (PK) z) (JH p0_ x):=by
 obtain ⟨states_1,from_1,number_1,k_1⟩:=x
 refine sq (sr (ck 4 (en (cn H (λ H=>?_) (λ H=>?_)))))
 ·exact sk (qz (sq (bk 1 (sr (ck 2 (sp (AC Am p0_.Rules) (ck 1 (en (bk 2 (bx H λ y5 h23 H=>lX OL h23 (gP [1,5,6,7,8,29,30] [0,1,2,3] (po1 (po1 (pn1 (nL 1 Ae) from_1 (po1 (Pl.z)))))) rfl λ s hE4=>qH (qN (qs (hE4) (rz (ck 3 (ae (by cases H;exact og (gP [1,5,6,7,8] [0,1,2,3] (po1 (po1 (pn1 (nL 1 Ae) y5.2.1 (po1 (Pl.z))))))))))))))))))))))
 ·exact ex 0 (qx (by cases H;exact xo rfl (gP [5,6] [1,2] (po1 (pn1 (nL 1 Ae) from_1 (Pl.z))))))
theorem Sp {z} (H:Fr n p0_=some z):AF Try.prog 67 [.agg (AK p0_)] (.tup [.own 3 (List.map Aj z.1),.d (.sl (List.map (eL Ae) z.2))]):=by
 exact fO 78 (JgT p0_) Try.func67 (sr (ck 3 (en (sr (bx H λ r6 h16 H=>ca false (U4 h16) (ck 2 (en (sr (ck 2 (sK true (ck 2 (en (sq (rg (Jbe (sz:=1) (es:=[[.nil]]) 3 (List.map (nL 1 Ae) ([[]]:List (List Int))) (by kernel_rfl) (by kernel_rfl)) (ck 2 (sp (Ra (enc:=Ae) (encK:=Aj) (k:=4) (e1:=λ x=>.int .i64 x) (m:=[]) (l:=[.d (.int .i64 r6.Mode),.d (.int .i64 r6.Last),.d (.int .u8 r6.Need)]) (key:=r6) (y:=0) (v:=.d (.int .i64 0)) (vz:=[.int .i64 0]) So) (ck 2 (en (sq (sr (ck 1 (en (bk 0 (bx H λ y6 h24 H=>lX OM h24 (gP [1,5,6,7,8] [0,2,3,4] (po1 (po1 (pn1 (nL 1 Ae) ([[]]:List (List Int)) (po1 (Pl.z)))))) rfl λ s hE5=>qH (qs (hE5) (sr (ck 4 (ae (qs (YI (encN:=(nL 1 Ae)) (encD:=(eL Ae)) (xss:=y6.2) (k:=1) (sz:=1) 3 (by kernel_rfl) (λ _=>rfl) (λ _=>rfl)) (re (by cases H;exact pr (rT (vs:=[.osl 0 3 0 (List.length y6.1),.d (.sl (List.map (eL Ae) y6.2))]) [0] (t1 (ao vo) (t1 (ad vd) (t0)))))))))))))))))))))))))))))))))))
end
section
variable (p0_:Ad)
def Jg0:St:=⟨(0,.agg [.d (.int .i64 p0_.Modes),.d (.int .u8 p0_.Accept),.d (.sl (List.map Am p0_.Rules))])::[],[]⟩
variable {p0_}
theorem Nm {z} (H:Gx n p0_=some z):AF Try.prog 45 [.agg (AK p0_)] (.own 3 (List.map Aj z)):=by
 exact fO 11 (Jg0 p0_) Try.func45 (sr (ck 2 (en (sr (ck 1 (bx H λ r8 h25 H=>cl [List.length r8.1] (Sp h25) (ck 5 (en (sr (ck 2 (en (re (by cases H;exact pr (rO (v:=.osl 1 3 0 (List.length r8.1)) [1] (ao vo)))))))))))))))
end
section
variable (p0_:Ad) (p1_:Ab)
def Jg1:St:=⟨(0,.agg [.d (.int .i64 p0_.Modes),.d (.int .u8 p0_.Accept),.d (.sl (List.map Am p0_.Rules))])::(1,.agg [.d (.int .i64 p1_.Mode),.d (.int .i64 p1_.Last),.d (.int .u8 p1_.Need)])::[],[]⟩
variable {p0_ p1_}
theorem LZ {z} (H:Ea n p0_ p1_=some z):AF Try.prog 46 [.agg (AK p0_),.agg (I9 p1_)] (.d (.bool z)):=by
 exact fO 22 (Jg1 p0_ p1_) Try.func46 (sr (ck 3 (en (sr (ck 7 (gc 1 (decide (p1_.Mode<p0_.Modes)) (ck 1 (gc 1 (decide (p1_.Mode<p0_.Modes)) (bx H λ r9 h26 H=>cG false (leZ) rfl (λ hg=>Kh (BO h26 hg)) (Or.inl rfl) (B6 (λ hh=>hh) (B6 (λ hh=>hh) (Em))) rfl (pA (ck 2 (gc 1 ((decide (p1_.Mode<p0_.Modes))&&r9) (bx H λ r10 h27 H=>cG false (leZ) rfl (λ hg=>Kh (BO h27 hg)) (Or.inl rfl) (B6 (λ hh=>hh) (Em)) rfl (pA (ck 1 (en (re (by cases H;exact pr rd))))))))))))))))))
end
section
variable (p0_:(List UInt8)) (p1_:(List UInt8))
def Jg2:St:=⟨(0,.d (.str p0_))::(1,.d (.str p1_))::[],[]⟩
variable {p0_ p1_}
theorem PL {z} (H:EK n p0_ p1_=some z):AF Try.prog 70 [.d (.str p0_),.d (.str p1_)] (.d (.bool z)):=by
 exact fO 18 (Jg2 p0_ p1_) Try.func70 (sr (ck 1 (en (sr (ck 8 (gc 1 (decide (((List.length p0_:Nat):Int)≥((List.length p1_:Nat):Int))) (bx H λ s1 h36 H=>sE (λ hg=>GH (BO h36 hg)) (ck 1 (gc 1 (decide (((List.length p0_:Nat):Int)≥((List.length p1_:Nat):Int))) (pA (ck 1 (en (re (by cases H;exact pr rd))))))))))))))
end
section
variable (p0_:(List UInt8)) (p1_:(List UInt8))
def Jg3:St:=⟨(0,.d (.str p0_))::(1,.d (.str p1_))::[],[]⟩
variable {p0_ p1_}
theorem JI {z} (H:DS n p0_ p1_=some z):AF Try.prog 50 [.d (.str p0_),.d (.str p1_)] (.d (.bool z)):=by
 exact fO 8 (Jg3 p0_ p1_) Try.func50 (sr (ck 1 (en (sr (ck 2 (bx H λ r11 h37 H=>ca true (PL h37) (ck 1 (en (re (by cases H;exact pr rd))))))))))
end
section
variable (p0_:Ad) (x_4:AM) (r12:(List Ab)) (number_6:(List (Ab×Int))) (x_5:Int) (number_7:(List (Ab×Int))) (y8:(List (Ab×Int))) (g_1:AM) (x_6:Int) (g_2:AM) (x13:Ab) (g_3:AM) (x_7:Int) (g_4:AM) (g_5:AM)
def JbG:St:=⟨(0,.agg [.d (.int .i64 p0_.Modes),.d (.int .u8 p0_.Accept),.d (.sl (List.map Am p0_.Rules))])::[],[]⟩
def JbH:St:=⟨(2,.ptr 0 0)::[],[some (.box [.osl 1 1 0 (List.length x_4.Arcs),.osl 2 1 0 (List.length x_4.Accepts)]),some (.narr 1 (List.map (nL 3 Ay) x_4.Arcs)),some (.arr 1 (List.map eB x_4.Accepts))]⟩
def JbI:St:=⟨(1,.ptr 0 0)::(3,.d (.sl (List.map Aj r12)))::(4,.mp 1)::(19,.d (.sl (List.map Aj r12)))::(20,.d (.int .i64 ((List.length r12:Nat):Int)))::(21,.d (.int .i64 x_5))::[],[some (.box (AK p0_)),some (.map true false (En Aj Ae number_6))]⟩
def JbJ:St:=⟨(1,.ptr 0 0)::(3,.d (.sl (List.map Aj r12)))::(4,.mp 1)::[],[some (.box (AK p0_)),some (.map true false (En Aj Ae number_7))]⟩
def ON:(List (Ab×Int))->Ex->St->Prop:=xX 0 0 (λ (y:(List (Ab×Int)))=>JbJ p0_ r12 y)
def IH:((List (Ab×Int))×Int)->St:=(λ (x:((List (Ab×Int))×Int))=>JbI p0_ r12 x.1 x.2)
def JbK:St:=⟨(1,.ptr 0 0)::(4,.mp 1)::(7,.ptr 2 0)::(38,.d (.sl (List.map Aj r12)))::(39,.d (.int .i64 ((List.length r12:Nat):Int)))::(40,.d (.int .i64 x_6))::[],[some (.box (AK p0_)),some (.map true false (En Aj Ae y8)),some (.box [.osl 3 1 0 (List.length g_1.Arcs),.osl 4 1 0 (List.length g_1.Accepts)]),some (.narr 1 (List.map (nL 3 Ay) g_1.Arcs)),some (.arr 1 (List.map eB g_1.Accepts))]⟩
def JbL:St:=⟨(7,.ptr 0 0)::[],[some (.box [.osl 1 1 0 (List.length g_2.Arcs),.osl 2 1 0 (List.length g_2.Accepts)]),some (.narr 1 (List.map (nL 3 Ay) g_2.Arcs)),some (.arr 1 (List.map eB g_2.Accepts))]⟩
def JbM:St:=⟨(1,.ptr 0 0)::(4,.mp 1)::(7,.ptr 2 0)::(8,.d (.int .i64 x_6))::(9,.ptr 3 0)::(38,.d (.sl (List.map Aj r12)))::(39,.d (.int .i64 ((List.length r12:Nat):Int)))::(40,.d (.int .i64 x_6))::(55,.d (.sl (List.map Am p0_.Rules)))::(56,.d (.int .i64 ((List.length p0_.Rules:Nat):Int)))::(57,.d (.int .i64 x_7))::[],[some (.box (AK p0_)),some (.map true false (En Aj Ae y8)),some (.box [.osl 4 1 0 (List.length g_3.Arcs),.osl 5 1 0 (List.length g_3.Accepts)]),some (.box (I9 x13)),some (.narr 1 (List.map (nL 3 Ay) g_3.Arcs)),some (.arr 1 (List.map eB g_3.Accepts))]⟩
def JbN:St:=⟨(1,.ptr 0 0)::(4,.mp 1)::(7,.ptr 2 0)::(38,.d (.sl (List.map Aj r12)))::(39,.d (.int .i64 ((List.length r12:Nat):Int)))::(40,.d (.int .i64 x_6))::[],[some (.box (AK p0_)),some (.map true false (En Aj Ae y8)),some (.box [.osl 3 1 0 (List.length g_4.Arcs),.osl 4 1 0 (List.length g_4.Accepts)]),some (.narr 1 (List.map (nL 3 Ay) g_4.Arcs)),some (.arr 1 (List.map eB g_4.Accepts))]⟩
def JbO:St:=⟨(1,.ptr 0 0)::(4,.mp 1)::(7,.ptr 2 0)::(8,.d (.int .i64 x_6))::(9,.ptr 3 0)::(38,.d (.sl (List.map Aj r12)))::(39,.d (.int .i64 ((List.length r12:Nat):Int)))::(40,.d (.int .i64 x_6))::(55,.d (.sl (List.map Am p0_.Rules)))::(56,.d (.int .i64 ((List.length p0_.Rules:Nat):Int)))::(57,.d (.int .i64 x_7))::[],[some (.box (AK p0_)),some (.map true false (En Aj Ae y8)),some (.box [.osl 4 1 0 (List.length g_5.Arcs),.osl 5 1 0 (List.length g_5.Accepts)]),some (.box (I9 x13)),some (.narr 1 (List.map (nL 3 Ay) g_5.Arcs)),some (.arr 1 (List.map eB g_5.Accepts))]⟩
def OO:AM->Ex->St->Prop:=xX 0 4 (λ (y:AM)=>JbN p0_ r12 y8 x_6 y)
def II:(AM×Int)->St:=(λ (x:(AM×Int))=>JbM p0_ r12 y8 x_6 x13 x.1 x.2)
def OP:AM->Ex->St->Prop:=xX 0 2 (λ (y:AM)=>JbL y)
def IJ:(AM×Int)->St:=(λ (x:(AM×Int))=>JbK p0_ r12 y8 x.1 x.2)
variable {p0_ x_4 r12 number_6 x_5 number_7 y8 g_1 x_6 g_2 x13 g_3 x_7 g_4 g_5}
theorem NN (x:((List (Ab×Int))×Int)) (z:(((List (Ab×Int))×Int)⊕(List (Ab×Int)))) (H:BY n p0_ r12 x.1 x.2=some z):WP (cxk 97 0) (AA Try.f25) [1,1,1,0,1,0,0] (Av 0 (IH p0_ r12) (ON p0_ r12) z) (IH p0_ r12 x):=by
 obtain ⟨number_6,x_5⟩:=x
 refine sr (ck 1 (en (sq (cn H (λ H=>?_) (λ H=>?_)))))
 ·exact sk (qz (sq (bk 1 (sr (ck 1 (bx H λ x12 h44 H=>sp (Aq Aj h44) (ck 4 (en (rz (ck 3 (sp (Ra (enc:=Ae) (encK:=Aj) (k:=1) (e1:=λ x=>.int .i64 x) (m:=number_6) (l:=[.d (.int .i64 x12.Mode),.d (.int .i64 x12.Last),.d (.int .u8 x12.Need)]) (key:=x12) (y:=x_5) (v:=.d (.int .i64 x_5)) (vz:=[.int .i64 0]) So) (ae (qN (qz (rz (ck 2 (ae (by cases H;exact og (sg [1,3,4,19,20,21])))))))))))))))))))
 ·exact ex 0 (qx (by cases H;exact xo rfl (sg [1,3,4])))
theorem NO (x:(AM×Int)) (z:((AM×Int)⊕AM)) (H:BZ n p0_ r12 y8 x_6 x13 x.1 x.2=some z):WP (cxk 97 0) (AA Try.f25) [1,1,1,1,1,0,1,0,0,1,1,0,0,1,1,1,0,0] (Av 0 (II p0_ r12 y8 x_6 x13) (OO p0_ r12 y8 x_6) z) (II p0_ r12 y8 x_6 x13 x):=by
 obtain ⟨g_3,x_7⟩:=x
 refine sr (ck 1 (en (sq (cn H (λ H=>?_) (λ H=>?_)))))
 ·refine sk (qz (sj (λ (x:AM)=>JbO p0_ r12 y8 x_6 x13 x_7 x) (λ (x:AM)=>Cp n x_7 x) z ?_ (λ hFRv_newGraph_J1=>?_)))
  ·intro g_5 H
   exact rz (ck 2 (ae (by cases H;exact og (gP [1,4,7,8,9,38,39,40,55,56,57] [0,1,2,3,4,5] (po1 (po1 (po1 (po1 (pn1 (nL 3 Ay) g_5.Arcs (po1 (Pl.z)))))))))))
  refine bk 5 (sr (ck 1 (bx H λ x15 h52 H=>sp (Aq Am h52) (ck 4 (en (sr (ck 3 (bx H λ r14 h53 H=>ca false (LY h53) (ck 6 (en (sr (ck 1 (en (cn H (λ H=>?_) (λ H=>?_)))))))))))))))
  ·exact bx H λ x16 h54 H=>rg (tr (so1 (encN:=(nL 3 Ay)) 4 1 h54) (sno (encN:=(nL 3 Ay)) (enc:=Ay) h54 [.own 3 (List.map Ay x16)] x16 1 4 0 3)) (ck 10 (sp (Az 4 1 h54) (sp (Ch (encN:=(nL 3 Ay)) (row:=[.osl 8 3 0 (List.length x16)]) (k:=4) (sz:=1) (off:=0) (t:=ty 112) (v:=.osl 8 3 0 (List.length x16)) h54) (ck 4 (sp (AC eU8 x15.Cells) (ck 2 (sp (Sk (enc:=Ae) (encK:=Aj) (k:=1) (e1:=λ x=>.int .i64 x) (m:=y8) (l:=[.d (.int .i64 r14.1.Mode),.d (.int .i64 r14.1.Last),.d (.int .u8 r14.1.Need)]) (key:=r14.1) (z:=0) (vz:=[.int .i64 0]) So false) (ck 2 (bx H λ l12 h55 H=>sp (B3 Ay 8 3 h55) (sp (Az 4 1 h54) (sp (LQ (encN:=(nL 3 Ay)) (row:=[.osl 8 3 0 (List.length x16)]) (row':=[.osl 10 3 0 (List.length l12)]) (k:=4) (sz:=1) (off:=0) (t:=ty 112) (v:=.osl 10 3 0 (List.length l12)) h54) (ae (qN (qs (tr (tr (tr (tr (tr (sni (encN:=(nL 3 Ay)) (xs:=g_3.Arcs) (n:=x_6) (enc:=Ay) [.osl 10 3 0 (List.length l12)] l12 1 4 0 10 3) (scl (encN:=(nL 3 Ay)) (xss:=g_3.Arcs) x_6 [.own 3 (List.map Ay l12)] 1 4 l12)) (sn 73 4 1 (lsS g_3.Arcs (Int.toNat x_6) l12))) (sn 78 4 1 (lsS g_3.Arcs (Int.toNat x_6) l12))) (snc 2 0 4 1 (lsS g_3.Arcs (Int.toNat x_6) l12))) (gP [1,4,7,8,9,38,39,40,55,56,57] [0,1,2,3,4,5] (po1 (po1 (po1 (po1 (pn1 (nL 3 Ay) (List.set g_3.Arcs (Int.toNat x_6) l12) (po1 (Pl.z))))))))) (hFRv_newGraph_J1 ({ Arcs:=List.set g_3.Arcs (Int.toNat x_6) l12,Accepts:=g_3.Accepts }:AM) H)))))))))))))))
  ·exact sk (qN (qs (gP [1,4,7,8,9,38,39,40,55,56,57] [0,1,2,3,4,5] (po1 (po1 (po1 (po1 (pn1 (nL 3 Ay) g_3.Arcs (po1 (Pl.z)))))))) (hFRv_newGraph_J1 g_3 H)))
 ·exact ex 4 (qx (by cases H;exact xo rfl (gP [1,4,7,38,39,40] [0,1,2,4,5] (po1 (po1 (po1 (pn1 (nL 3 Ay) g_3.Arcs (po1 (Pl.z)))))))))
theorem NP (x:(AM×Int)) (z:((AM×Int)⊕AM)) (H:Cq n p0_ r12 y8 x.1 x.2=some z):WP (cxk 97 0) (AA Try.f25) [1,1,1,1,1,0,1,0,0] (Av 0 (IJ p0_ r12 y8) (OP) z) (IJ p0_ r12 y8 x):=by
 obtain ⟨g_1,x_6⟩:=x
 refine sr (ck 1 (en (sq (cn H (λ H=>?_) (λ H=>?_)))))
 ·exact sk (qz (sq (bk 3 (sr (ck 1 (bx H λ x13 h48 H=>sp (Aq Aj h48) (ck 4 (en (sr (ck 7 (bx H λ r13 h49 H=>ca false (LZ h49) (bx H λ x14 h50 H=>sp (Az 4 1 h50) (bx H λ l11 h51 H=>stA eB 4 0 (ty 4) h50 h51 (en (sq (rg (tr (sn 48 4 1 (Bf h51)) (snc 2 1 4 1 (Bf h51))) (ck 2 (sp (AC Am p0_.Rules) (ck 1 (en (bk 4 (bx H λ y9 h56 H=>lX NO h56 (gP [1,4,7,8,9,38,39,40,55,56,57] [0,1,2,5,3,4] (po1 (po1 (po1 (po1 (pn1 (nL 3 Ay) g_1.Arcs (po1 (Pl.z)))))))) rfl λ s hE8=>qH (qN (qs (hE8) (rz (ck 2 (ae (by cases H;exact og (gP [1,4,7,38,39,40] [0,1,2,3,4] (po1 (po1 (po1 (pn1 (nL 3 Ay) y9.Arcs (po1 (Pl.z)))))))))))))))))))))))))))))))))))
 ·exact ex 2 (qx (by cases H;exact xo rfl (gP [7] [2,3,4] (po1 (pn1 (nL 3 Ay) g_1.Arcs (po1 (Pl.z)))))))
theorem KY {z} (H:DD n p0_=some z):BC Try.prog 25 [.agg (AK p0_)] [] 0 (.ptr 0 0) [some (.box [.osl 1 1 0 (List.length z.Arcs),.osl 2 1 0 (List.length z.Accepts)]),some (.narr 1 (List.map (nL 3 Ay) z.Arcs)),some (.arr 1 (List.map eB z.Accepts))]:=by
 exact fL 97 0 (JbG p0_) Try.func25 (sr (ck 2 (en (sr (ck 1 (bx H λ r12 h43 H=>ca false (Nm h43) (ck 1 (en (sr (ck 1 (sp (AC Aj r12) (ck 2 (en (sq (sr (ck 1 (sp (AC Aj r12) (ck 1 (en (bk 0 (bx H λ y8 h45 H=>lX NN h45 (sg [1,3,4,19,20,21]) rfl λ s hE7=>qH (qs (hE7) (sr (ck 1 (sp (AC Aj r12) (bx H λ l9 h46 H=>sp (Sm 1 (ez:=[.nil]) h46) (ck 1 (sp (AC Aj r12) (bx H λ l10 h47 H=>sp (Uc eB 1 h47) (ck 3 (en (sq (sq (rg (tr (tr (UZ (encN:=(nL 3 Ay)) (sz:=1) (z:=[.nil]) (n:=((List.length r12:Nat):Int)) 2 (My h46) (by kernel_rfl) (by kernel_rfl)) (sn 32 2 1 (GI h46))) (snc 4 0 2 1 (GI h46))) (ck 1 (sp (AC Aj r12) (ck 1 (en (bk 2 (bx H λ y10 h57 H=>lX NP h57 (gP [1,4,7,38,39,40] [0,1,4,2,3] (po1 (po1 (po1 (pn1 (nL 3 Ay) l9 (po1 (Pl.z))))))) rfl λ s hE9=>qH (qs (hE9) (sr (ck 2 (en (re (by cases H;exact pL (rl (s':=JbH z) (gP [2] [0,1,2] (po1 (pn1 (nL 3 Ay) z.Arcs (po1 (Pl.z))))))))))))))))))))))))))))))))))))))))))))))))))))
end
section
variable (p1_:(List UInt8)) (b0_:AM) (x_8:(List (Nat×Nat))) (x_9:(List Int)) (x_10:(List Int)) (l14:(List Int)) (l15:(List Int)) (m_3:(List (Nat×Nat))) (x_11:Int) (m_4:(List (Nat×Nat)))
def JbP:St:=⟨(0,.ptr 0 0)::(1,.d (.str p1_))::[],[some (.box [.d (.sl (List.map (eL Ay) b0_.Arcs)),.d (.sl (List.map eB b0_.Accepts))])]⟩
def JbQ:St:=⟨(4,.ptr 1 0)::[],[some (.box [.d (.sl (List.map (eL Ay) b0_.Arcs)),.d (.sl (List.map eB b0_.Accepts))]),some (.box [.d (.str p1_),.osl 2 1 0 (List.length x_8),.osl 3 1 0 (List.length x_9)]),some (.cut 4 1 x_8),some (.arr 1 (List.map Ae x_9)),some (.arr 1 (List.map Ae x_10))]⟩
def JbR:St:=⟨(4,.ptr 1 0)::(5,.d (.int .i64 ((List.length b0_.Arcs:Nat):Int)))::(7,.ptr 2 0)::(8,.osl 3 1 0 (List.length l15))::(28,.d (.int .i64 (Au .i64 ((List.length p1_:Nat):Int) 1)))::(29,.d (.int .i64 x_11))::[],[some (.box [.d (.sl (List.map (eL Ay) b0_.Arcs)),.d (.sl (List.map eB b0_.Accepts))]),some (.box [.d (.str []),.osl 4 1 0 (List.length ([]:List (List Int))),.osl 5 1 0 (List.length ([]:List Int))]),some (.box [.d (.str p1_),.osl 6 1 0 (List.length m_3),.osl 7 1 0 (List.length l14)]),some (.arr 1 (List.map Ae l15)),some (.arr 1 (List.map (eL Ae) ([]:List (List Int)))),some (.arr 1 (List.map Ae ([]:List Int))),some (.cut 3 1 m_3),some (.arr 1 (List.map Ae l14))]⟩
def JbS:St:=⟨(4,.ptr 1 0)::(7,.ptr 2 0)::[],[some (.box [.d (.sl (List.map (eL Ay) b0_.Arcs)),.d (.sl (List.map eB b0_.Accepts))]),some (.box [.d (.str []),.osl 3 1 0 (List.length ([]:List (List Int))),.osl 4 1 0 (List.length ([]:List Int))]),some (.box [.d (.str p1_),.osl 5 1 0 (List.length m_4),.osl 6 1 0 (List.length l14)]),some (.arr 1 (List.map (eL Ae) ([]:List (List Int)))),some (.arr 1 (List.map Ae ([]:List Int))),some (.cut 7 1 m_4),some (.arr 1 (List.map Ae l14)),some (.arr 1 (List.map Ae l15))]⟩
def Li:(List (Nat×Nat))->Ex->St->Prop:=xX 1 0 (λ (y:(List (Nat×Nat)))=>JbS p1_ b0_ l14 l15 y)
def F7:((List (Nat×Nat))×Int)->St:=(λ (x:((List (Nat×Nat))×Int))=>JbR p1_ b0_ l14 l15 x.1 x.2)
variable {p1_ b0_ x_8 x_9 x_10 l14 l15 m_3 x_11 m_4}
theorem Ki (x:((List (Nat×Nat))×Int)) (z:(((List (Nat×Nat))×Int)⊕(List (Nat×Nat)))) (H:BD n p1_ b0_ l14 l15 x.1 x.2=some z):WP (cxk 51 1) (AA Try.f26) [1,1,1,1,0,1,0,0] (Av 1 (F7 p1_ b0_ l14 l15) (Li p1_ b0_ l14 l15) z) (F7 p1_ b0_ l14 l15 x):=by
 obtain ⟨m_3,x_11⟩:=x
 refine sr (ck 1 (en (sq (cn H (λ H=>?_) (λ H=>?_)))))
 ·exact sk (qz (sq (bk 1 (sr (ck 2 (en (rg (OF (xs:=m_3) 6 3 1 (by kernel_rfl)) (ck 15 (bx H λ gd3 h61 H=>sp (Jgp 3 1 (List.length l15) h61) (bx H λ x17 h62 H=>sp (Az 6 1 h62) (bx H λ l16 h63 H=>sp (Jgq (t:=ty 32) 6 3 1 ((0+Int.toNat (Kb .i64 x_11 ((List.length b0_.Arcs:Nat):Int)),Int.toNat (Kb .i64 (Au .i64 x_11 1) ((List.length b0_.Arcs:Nat):Int))-Int.toNat (Kb .i64 x_11 ((List.length b0_.Arcs:Nat):Int))):Nat×Nat).1 ((0+Int.toNat (Kb .i64 x_11 ((List.length b0_.Arcs:Nat):Int)),Int.toNat (Kb .i64 (Au .i64 x_11 1) ((List.length b0_.Arcs:Nat):Int))-Int.toNat (Kb .i64 x_11 ((List.length b0_.Arcs:Nat):Int))):Nat×Nat).2 h63) (ae (qN (qz (rg (tr (tr (Nj (xs:=l16) 6 3 1 (by kernel_rfl)) (sn 33 6 1 (Bf h63))) (snc 2 1 6 1 (Bf h63))) (ck 2 (ae (by cases H;exact og (sg [4,5,7,8,28,29])))))))))))))))))))
 ·exact ex 0 (qx (by cases H;exact xo rfl (sg [4,7])))
theorem Hj {z} (H:B7 n p1_ b0_=some z):BC Try.prog 26 [.ptr 0 0,.d (.str p1_)] [some (.box [.d (.sl (List.map (eL Ay) b0_.Arcs)),.d (.sl (List.map eB b0_.Accepts))])] 1 (.agg [.d (.str p1_),.osl 2 1 0 (List.length z.1),.osl 3 1 0 (List.length z.2.1)]) [some (.box [.d (.sl (List.map (eL Ay) b0_.Arcs)),.d (.sl (List.map eB b0_.Accepts))]),some (.box [.d (.str p1_),.osl 2 1 0 (List.length z.1),.osl 3 1 0 (List.length z.2.1)]),some (.cut 4 1 z.1),some (.arr 1 (List.map Ae z.2.1)),some (.arr 1 (List.map Ae z.2.2))]:=by
 exact fL 51 1 (JbP p1_ b0_) Try.func26 (sr (ck 1 (en (sr (ck 4 (sp (AC (eL Ay) b0_.Arcs) (ck 5 (en (sr (ck 2 (bx H λ l13 h58 H=>sp (Sm 1 (ez:=[.nil]) h58) (ck 1 (bx H λ l14 h59 H=>sp (Uc Ae 1 h59) (ck 3 (en (sr (ck 3 (bx H λ l15 h60 H=>sp (Uc Ae 1 h60) (ck 1 (en (sq (sq (rg (tr (tr (tr (Jgr (zs:=l13) 2 5 1 (My h58) (by kernel_rfl)) (Nj (xs:=List.replicate (List.length l13) ((0,0):Nat×Nat)) 2 5 1 (by kernel_rfl))) (sn 20 2 1 ((GI h58).trans (lrN (x:=((0,0):Nat×Nat)))))) (snc 4 1 2 1 ((GI h58).trans (lrN (x:=((0,0):Nat×Nat)))))) (ck 2 (en (bk 0 (bx H λ y11 h64 H=>lX Ki h64 (tr (tr (BI 1 1 1 (by kernel_rfl)) (BI 1 2 1 (by kernel_rfl))) (sg [4,5,7,8,28,29])) rfl λ s hE10=>qH (qs (hE10) (sr (ck 2 (en (re (by cases H;exact pL (rl (s':=JbQ p1_ b0_ y11 l14 l15) (sg [4])))))))))))))))))))))))))))))))))))
end
section
variable (p1_0_:(List UInt8)) (b0_:AM) (o1_:(List (Nat×Nat))) (o2_:(List Int)) (o3_:(List Int))
def JbT:St:=⟨(0,.ptr 0 0)::(1,.agg [.d (.str p1_0_),.osl 1 1 0 (List.length o1_),.osl 2 1 0 (List.length o2_)])::[],[some (.box [.d (.sl (List.map (eL Ay) b0_.Arcs)),.d (.sl (List.map eB b0_.Accepts))]),some (.cut 3 1 o1_),some (.arr 1 (List.map Ae o2_)),some (.arr 1 (List.map Ae o3_))]⟩
def JbU:St:=⟨(4,.clo 48 [.ptr 4 0,.ptr 5 0])::[],[some (.box [.d (.sl (List.map (eL Ay) b0_.Arcs)),.d (.sl (List.map eB b0_.Accepts))]),some (.cut 3 1 o1_),some (.arr 1 (List.map Ae o2_)),some (.arr 1 (List.map Ae o3_)),some (.box [.d (.str p1_0_),.osl 1 1 0 (List.length o1_),.osl 2 1 0 (List.length o2_)]),some (.box [.ptr 0 0])]⟩
variable {p1_0_ b0_ o1_ o2_ o3_}
theorem G5 {z} (H:C3 n p1_0_ b0_ o1_ o2_ o3_=some z):BC Try.prog 27 [.ptr 0 0,.agg [.d (.str p1_0_),.osl 1 1 0 (List.length o1_),.osl 2 1 0 (List.length o2_)]] [some (.box [.d (.sl (List.map (eL Ay) b0_.Arcs)),.d (.sl (List.map eB b0_.Accepts))]),some (.cut 3 1 o1_),some (.arr 1 (List.map Ae o2_)),some (.arr 1 (List.map Ae o3_))] 4 (.clo 48 [.ptr 4 0,.ptr 5 0]) [some (.box [.d (.sl (List.map (eL Ay) b0_.Arcs)),.d (.sl (List.map eB b0_.Accepts))]),some (.cut 3 1 o1_),some (.arr 1 (List.map Ae o2_)),some (.arr 1 (List.map Ae o3_)),some (.box [.d (.str p1_0_),.osl 1 1 0 (List.length o1_),.osl 2 1 0 (List.length o2_)]),some (.box [.ptr 0 0])]:=by
 exact fL 6 4 (JbT p1_0_ b0_ o1_ o2_ o3_) Try.func27 (sr (ck 3 (en (sr (xm (xok _ _) (ck 1 (en (re (by cases H;exact pL (rl (s':=JbU p1_0_ b0_ o1_ o2_ o3_) (sg [4])))))))))))
end
section
variable (p0_0_:(List UInt8)) (p1_:Int) (p2_:Int) (o0_:(List (Nat×Nat))) (o1_:(List Int)) (o2_:(List Int)) (x_12:Int)
def JbV:St:=⟨(0,.agg [.d (.str p0_0_),.osl 0 1 0 (List.length o0_),.osl 1 1 0 (List.length o1_)])::(1,.d (.int .i64 p1_))::(2,.d (.int .i64 p2_))::[],[some (.cut 2 1 o0_),some (.arr 1 (List.map Ae o1_)),some (.arr 1 (List.map Ae o2_))]⟩
def WJ:St:=⟨(6,.d (.int .i64 x_12))::[],[some (.cut 2 1 o0_),some (.arr 1 (List.map Ae o1_)),some (.arr 1 (List.map Ae o2_))]⟩
variable {p0_0_ p1_ p2_ o0_ o1_ o2_ x_12}
theorem Sq {z} (H:Fs n p0_0_ p1_ p2_ o0_ o1_ o2_=some z):BC Try.prog 51 [.agg [.d (.str p0_0_),.osl 0 1 0 (List.length o0_),.osl 1 1 0 (List.length o1_)],.d (.int .i64 p1_),.d (.int .i64 p2_)] [some (.cut 2 1 o0_),some (.arr 1 (List.map Ae o1_)),some (.arr 1 (List.map Ae o2_))] 3 (.d (.int .i64 z)) [some (.cut 2 1 o0_),some (.arr 1 (List.map Ae o1_)),some (.arr 1 (List.map Ae o2_))]:=by
 refine fL 30 3 (JbV p0_0_ p1_ p2_ o0_ o1_ o2_) Try.func51 (sr (ck 2 (en (sq (sq (rg (OF (xs:=o0_) 0 2 1 (by kernel_rfl)) (ck 3 (bx H λ x18 h65 H=>sp (Az 0 1 h65) (sp (PA (t:=ty 32) 0 2 1 h65) (ck 1 (bx H λ x19 h66 H=>sp (E4 2 1 x18.1 x18.2 (Gw h66)) (sp (LS Ae 2 0 (ty 3) (E5 h66)) (ck 1 (en (cn H (λ H=>?_) (λ H=>?_))))))))))))))))
 ·exact sq (rg (Nj (xs:=o0_) 0 2 1 (by kernel_rfl)) (ck 1 (en (re (qr (by cases H;exact pL (rl (s':=WJ o0_ o1_ o2_ (-1)) (sg [6]))))))))
 ·exact sk (qz (sq (rg (tr (Nj (xs:=o0_) 0 2 1 (by kernel_rfl)) (OF (xs:=o0_) 0 2 1 (by kernel_rfl))) (ck 3 (bx H λ x20 h67 H=>sp (Az 1 1 h67) (sp (CK Ae 1 0 (ty 3) h67) (ck 3 (bx H λ x21 h68 H=>sp (Az 0 1 h68) (sp (PA (t:=ty 32) 0 2 1 h68) (ck 1 (bx H λ x22 h69 H=>sp (E4 2 1 x21.1 x21.2 (Gw h69)) (sp (LS Ae 2 0 (ty 3) (E5 h69)) (ck 2 (en (re (by cases H;exact pL (rl (s':=WJ o0_ o1_ o2_ (Au .i64 x20 x22)) (tr (Nj (xs:=o0_) 0 2 1 (by kernel_rfl)) (sg [6])))))))))))))))))))
end
section
variable (p0_:Int) (p1_:Int) (p2_:Int) (b0_0_:(Nat×Nat)) (o1_:(List Int)) (x_13:(List Int)) (x_14:Bool)
def JbW:St:=⟨(0,.d (.int .i64 p0_))::(1,.d (.int .i64 p1_))::(2,.d (.int .i64 p2_))::(3,.ptr 0 0)::[],[some (.box [.osl 1 1 b0_0_.1 b0_0_.2]),some (.arr 1 (List.map Ae o1_))]⟩
def WK:St:=⟨(7,.d (.bool x_14))::[],[some (.box [.osl 1 1 b0_0_.1 b0_0_.2]),some (.arr 1 (List.map Ae x_13))]⟩
variable {p0_ p1_ p2_ b0_0_ o1_ x_13 x_14}
theorem EO {z} (H:Br n p0_ p1_ p2_ b0_0_ o1_=some z):BC Try.prog 49 [.d (.int .i64 p0_),.d (.int .i64 p1_),.d (.int .i64 p2_),.ptr 0 0] [some (.box [.osl 1 1 b0_0_.1 b0_0_.2]),some (.arr 1 (List.map Ae o1_))] 2 (.d (.bool z.2)) [some (.box [.osl 1 1 b0_0_.1 b0_0_.2]),some (.arr 1 (List.map Ae z.1))]:=by
 refine fL 33 2 (JbW p0_ p1_ p2_ b0_0_ o1_) Try.func49 (sr (ck 1 (en (sq (sr (ck 5 (bx H λ x23 h70 H=>sE (λ hg=>E4 1 1 b0_0_.1 b0_0_.2 (Gw (BO h70 hg))) (sE (g:=(!(decide (p1_<0)))) (λ hg=>LS Ae 1 0 (ty 3) (E5 (BO h70 hg))) (gc 2 (!(decide (p1_<0))) (ck 2 (bx H λ x24 h71 H=>sE (λ hg=>E4 1 1 b0_0_.1 b0_0_.2 (Gw (BO h71 hg))) (sE (g:=((!(decide (p1_<0)))&&(decide (x23≥0)))) (λ hg=>LS Ae 1 0 (ty 3) (E5 (BO h71 hg))) (ck 2 (gc 2 ((!(decide (p1_<0)))&&(decide (x23≥0))) (pG (g:=(!(decide (p1_<0)))) (v:=.d (.bool ((decide (x23≥0))&&(decide (x24≤Au .i64 p1_ p2_))))) (λ hg=>Gu (c:=.gv (!(decide (p1_<0))) (.d (.bool (decide (x23≥0))))) (a:=.gv ((!(decide (p1_<0)))&&(decide (x23≥0))) (.d (.bool (decide (x24≤Au .i64 p1_ p2_))))) (b:=.d (.bool false)) rfl rfl rfl ((λ hh=>hh) hg) (λ ht=>by rw [(λ hh=>hh) hg,ht];rfl) trivial) (pO (en (cn H (λ H=>?_) (λ H=>?_)))))))))))))))))))
 ·exact sr (ck 1 (en (re (qr (by cases H;exact pL (rl (s':=WK b0_0_ o1_ false) (sg [7])))))))
 ·exact sk (qz (sr (ck 5 (bx H λ x25 h72 H=>sp (E4 1 1 b0_0_.1 b0_0_.2 (Gw h72)) (bx H λ l17 h73 H=>stP Ae 1 0 (b0_0_.1+Int.toNat p0_) (ty 3) (E5 h72) h73 (en (sr (ck 1 (en (re (by cases H;exact pL (rl (s':=WK b0_0_ l17 true) (sg [7])))))))))))))
end
section
variable (p0_:(Nat×Nat)) (o0_:(List Int)) (x_15:(List Int)) (x_16:Int) (least_1:Int) (x_17:Int) (least_2:Int) (least_3:Int) (y12:Int) (column_1:(List Int)) (x_18:Int) (x_19:(List Int)) (column_2:(List Int))
def JbX:St:=⟨(0,.osl 0 1 p0_.1 p0_.2)::[],[some (.arr 1 (List.map Ae o0_))]⟩
def JbY:St:=⟨(2,.d (.int .i64 x_16))::[],[some (.arr 1 (List.map Ae x_15))]⟩
def JbZ:St:=⟨(0,.osl 0 1 p0_.1 p0_.2)::(3,.d (.int .i64 least_1))::(8,.osl 0 1 p0_.1 p0_.2)::(9,.d (.int .i64 ((p0_.2:Nat):Int)))::(10,.d (.int .i64 x_17))::[],[some (.arr 1 (List.map Ae o0_))]⟩
def Jb0:St:=⟨(0,.osl 0 1 p0_.1 p0_.2)::(3,.d (.int .i64 least_2))::[],[some (.arr 1 (List.map Ae o0_))]⟩
def Jb1:St:=⟨(0,.osl 0 1 p0_.1 p0_.2)::(3,.d (.int .i64 least_3))::(8,.osl 0 1 p0_.1 p0_.2)::(9,.d (.int .i64 ((p0_.2:Nat):Int)))::(10,.d (.int .i64 x_17))::[],[some (.arr 1 (List.map Ae o0_))]⟩
def QL:Int->Ex->St->Prop:=xX 1 0 (λ (y:Int)=>Jb0 p0_ o0_ y)
def KZ:(Int×Int)->St:=(λ (x:(Int×Int))=>JbZ p0_ o0_ x.1 x.2)
def Jb2:St:=⟨(0,.osl 0 1 p0_.1 p0_.2)::(3,.d (.int .i64 y12))::(27,.osl 0 1 p0_.1 p0_.2)::(28,.d (.int .i64 ((p0_.2:Nat):Int)))::(29,.d (.int .i64 x_18))::[],[some (.arr 1 (List.map Ae column_1))]⟩
def Jb3:St:=⟨(3,.d (.int .i64 y12))::[],[some (.arr 1 (List.map Ae x_19))]⟩
def Jb4:St:=⟨(0,.osl 0 1 p0_.1 p0_.2)::(3,.d (.int .i64 y12))::(27,.osl 0 1 p0_.1 p0_.2)::(28,.d (.int .i64 ((p0_.2:Nat):Int)))::(29,.d (.int .i64 x_18))::[],[some (.arr 1 (List.map Ae column_2))]⟩
def QM:(List Int)->Ex->St->Prop:=xX 1 2 (λ (y:(List Int))=>Jb3 y12 y)
def K0:((List Int)×Int)->St:=(λ (x:((List Int)×Int))=>Jb2 p0_ y12 x.1 x.2)
variable {p0_ o0_ x_15 x_16 least_1 x_17 least_2 least_3 y12 column_1 x_18 x_19 column_2}
theorem PM (x:(Int×Int)) (z:((Int×Int)⊕Int)) (H:CD n p0_ o0_ x.1 x.2=some z):WP (cxk 44 1) (AA Try.f52) [1,1,0,1,0,0] (Av 1 (KZ p0_ o0_) (QL p0_ o0_) z) (KZ p0_ o0_ x):=by
 obtain ⟨least_1,x_17⟩:=x
 refine sr (ck 1 (en (sq (cn H (λ H=>?_) (λ H=>?_)))))
 ·refine sk (qz (sj (λ (x:Int)=>Jb1 p0_ o0_ x_17 x) (λ (x:Int)=>C6 n x_17 x) z ?_ (λ hFRv_reduce_J1=>?_)))
  ·intro least_3 H
   exact rz (ck 2 (ae (by cases H;exact og (sg [0,3,8,9,10]))))
  refine bk 1 (sr (bx H λ x26 h74 H=>sp (E4 0 1 p0_.1 p0_.2 (Gw h74)) (sp (LS Ae 0 0 (ty 3) (E5 h74)) (ck 1 (en (sr (ck 4 (gc 2 (decide (x26≥0)) (ck 2 (gc 1 ((decide (x26≥0))&&!(decide (least_1<0))) (pG (g:=decide (x26≥0)) (v:=.d (.bool ((decide (least_1<0))||(decide (x26<least_1))))) (λ hg=>Gu (c:=.gv (decide (x26≥0)) (.d (.bool (decide (least_1<0))))) (a:=.d (.bool true)) (b:=.gv ((decide (x26≥0))&&!(decide (least_1<0))) (.d (.bool (decide (x26<least_1))))) rfl rfl rfl ((λ hh=>hh) hg) trivial (λ ht=>by rw [(λ hh=>hh) hg,ht];rfl)) (pA (en (cn H (λ H=>?_) (λ H=>?_)))))))))))))))
  ·exact rz (ck 2 (ae (qN (qs (sg [0,3,8,9,10]) (hFRv_reduce_J1 x26 H)))))
  ·exact sk (qN (qs (sg [0,3,8,9,10]) (hFRv_reduce_J1 least_1 H)))
 ·exact ex 0 (qx (by cases H;exact xo rfl (sg [0,3])))
theorem PN (x:((List Int)×Int)) (z:(((List Int)×Int)⊕(List Int))) (H:CE n p0_ y12 x.1 x.2=some z):WP (cxk 44 1) (AA Try.f52) [1,1,1,0,1,0,0] (Av 1 (K0 p0_ y12) (QM y12) z) (K0 p0_ y12 x):=by
 obtain ⟨column_1,x_18⟩:=x
 refine sr (ck 1 (en (sq (cn H (λ H=>?_) (λ H=>?_)))))
 ·refine sk (qz (sj (λ (x:(List Int))=>Jb4 p0_ y12 x_18 x) (λ (x:(List Int))=>C7 n x_18 x) z ?_ (λ hFRv_reduce_J2=>?_)))
  ·intro column_2 H
   exact rz (ck 2 (ae (by cases H;exact og (sg [0,3,27,28,29]))))
  refine bk 3 (sr (ck 1 (bx H λ x27 h76 H=>sp (E4 0 1 p0_.1 p0_.2 (Gw h76)) (sp (LS Ae 0 0 (ty 3) (E5 h76)) (ck 2 (en (sr (ck 2 (en (cn H (λ H=>?_) (λ H=>?_)))))))))))
  ·exact rz (ck 5 (bx H λ x28 h77 H=>sp (E4 0 1 p0_.1 p0_.2 (Gw h77)) (bx H λ l18 h78 H=>stP Ae 0 0 (p0_.1+Int.toNat x_18) (ty 3) (E5 h77) h78 (ae (qN (qs (sg [0,3,27,28,29]) (hFRv_reduce_J2 l18 H)))))))
  ·exact sk (qN (qs (sg [0,3,27,28,29]) (hFRv_reduce_J2 column_1 H)))
 ·exact ex 2 (qx (by cases H;exact xo rfl (sg [3])))
theorem Tk {z} (H:HR n p0_ o0_=some z):BC Try.prog 52 [.osl 0 1 p0_.1 p0_.2] [some (.arr 1 (List.map Ae o0_))] 1 (.d (.int .i64 z.2)) [some (.arr 1 (List.map Ae z.1))]:=by
 exact fL 44 1 (JbX p0_ o0_) Try.func52 (sr (ck 1 (en (sr (ck 1 (en (sq (sr (ck 3 (en (bk 0 (bx H λ y12 h75 H=>lX PM h75 (sg [0,3,8,9,10]) rfl λ s hE11=>qH (qs (hE11) (sq (sr (ck 3 (en (bk 2 (bx H λ y13 h79 H=>lX PN h79 (sg [0,3,27,28,29]) rfl λ s hE12=>qH (qs (hE12) (sr (ck 2 (en (re (by cases H;exact pL (rl (s':=JbY y13 y12) (sg [2])))))))))))))))))))))))))))
end
section
variable (p0_:Int) (b0_0_:(List UInt8)) (b4_:AM) (o2_:(List (Nat×Nat))) (o3_:(List Int)) (o5_:(List Int)) (x_20:(List Int)) (x_21:Int) (x29:(Nat×Nat)) (column_3:(List Int)) (x_22:Int) (column_4:(List Int)) (column_5:(List Int)) (column_6:(List Int)) (x_23:Int) (column_7:(List Int)) (x33:(List NL)) (column_8:(List Int)) (x_24:Int) (column_9:(List Int)) (column_10:(List Int)) (column_11:(List Int)) (better_1:Bool) (column_12:(List Int)) (column_13:(List Int)) (better_2:Bool) (x_25:Int) (column_14:(List Int)) (better_3:Bool) (x35:(List NL)) (column_15:(List Int)) (better_4:Bool) (x_26:Int) (column_16:(List Int)) (better_5:Bool) (column_17:(List Int)) (better_6:Bool)
def Jb5:St:=⟨(0,.d (.int .i64 p0_))::(1,.ptr 0 0)::(2,.ptr 1 0)::[],[some (.box [.d (.str b0_0_),.osl 2 1 0 (List.length o2_),.osl 3 1 0 (List.length o3_)]),some (.box [.ptr 4 0]),some (.cut 5 1 o2_),some (.arr 1 (List.map Ae o3_)),some (.box [.d (.sl (List.map (eL Ay) b4_.Arcs)),.d (.sl (List.map eB b4_.Accepts))]),some (.arr 1 (List.map Ae o5_))]⟩
def Jb6:St:=⟨(4,.d (.int .i64 x_21))::[],[some (.box [.d (.str b0_0_),.osl 2 1 0 (List.length o2_),.osl 3 1 0 (List.length o3_)]),some (.box [.ptr 4 0]),some (.cut 5 1 o2_),some (.arr 1 (List.map Ae o3_)),some (.box [.d (.sl (List.map (eL Ay) b4_.Arcs)),.d (.sl (List.map eB b4_.Accepts))]),some (.arr 1 (List.map Ae x_20))]⟩
def Jb7:St:=⟨(0,.d (.int .i64 p0_))::(1,.ptr 0 0)::(2,.ptr 1 0)::(5,.ptr 6 0)::(23,.d (.int .i64 ((x29.2:Nat):Int)))::(24,.d (.int .i64 x_22))::[],[some (.box [.d (.str b0_0_),.osl 2 1 0 (List.length o2_),.osl 3 1 0 (List.length o3_)]),some (.box [.ptr 4 0]),some (.cut 5 1 o2_),some (.arr 1 (List.map Ae o3_)),some (.box [.d (.sl (List.map (eL Ay) b4_.Arcs)),.d (.sl (List.map eB b4_.Accepts))]),some (.arr 1 (List.map Ae column_3)),some (.box [.osl 5 1 x29.1 x29.2])]⟩
def Jb8:St:=⟨(0,.d (.int .i64 p0_))::(1,.ptr 0 0)::(2,.ptr 1 0)::(5,.ptr 6 0)::[],[some (.box [.d (.str b0_0_),.osl 2 1 0 (List.length o2_),.osl 3 1 0 (List.length o3_)]),some (.box [.ptr 4 0]),some (.cut 5 1 o2_),some (.arr 1 (List.map Ae o3_)),some (.box [.d (.sl (List.map (eL Ay) b4_.Arcs)),.d (.sl (List.map eB b4_.Accepts))]),some (.arr 1 (List.map Ae column_4)),some (.box [.osl 5 1 x29.1 x29.2])]⟩
def Jb9:St:=⟨(0,.d (.int .i64 p0_))::(1,.ptr 0 0)::(2,.ptr 1 0)::(5,.ptr 6 0)::(23,.d (.int .i64 ((x29.2:Nat):Int)))::(24,.d (.int .i64 x_22))::[],[some (.box [.d (.str b0_0_),.osl 2 1 0 (List.length o2_),.osl 3 1 0 (List.length o3_)]),some (.box [.ptr 4 0]),some (.cut 5 1 o2_),some (.arr 1 (List.map Ae o3_)),some (.box [.d (.sl (List.map (eL Ay) b4_.Arcs)),.d (.sl (List.map eB b4_.Accepts))]),some (.arr 1 (List.map Ae column_5)),some (.box [.osl 5 1 x29.1 x29.2])]⟩
def Ja:(List Int)->Ex->St->Prop:=xX 6 0 (λ (y:(List Int))=>Jb8 p0_ b0_0_ b4_ o2_ o3_ x29 y)
def EP:((List Int)×Int)->St:=(λ (x:((List Int)×Int))=>Jb7 p0_ b0_0_ b4_ o2_ o3_ x29 x.1 x.2)
def Jca:St:=⟨(0,.d (.int .i64 p0_))::(1,.ptr 0 0)::(2,.ptr 1 0)::(5,.ptr 6 0)::(7,.clo 49 [.ptr 6 0])::(52,.d (.sl (List.map (eL Ay) b4_.Arcs)))::(53,.d (.int .i64 ((List.length b4_.Arcs:Nat):Int)))::(54,.d (.int .i64 x_23))::[],[some (.box [.d (.str b0_0_),.osl 2 1 0 (List.length o2_),.osl 3 1 0 (List.length o3_)]),some (.box [.ptr 4 0]),some (.cut 5 1 o2_),some (.arr 1 (List.map Ae o3_)),some (.box [.d (.sl (List.map (eL Ay) b4_.Arcs)),.d (.sl (List.map eB b4_.Accepts))]),some (.arr 1 (List.map Ae column_6)),some (.box [.osl 5 1 x29.1 x29.2])]⟩
def Jcb:St:=⟨(2,.ptr 1 0)::(5,.ptr 6 0)::(7,.clo 49 [.ptr 6 0])::[],[some (.box [.d (.str b0_0_),.osl 2 1 0 (List.length o2_),.osl 3 1 0 (List.length o3_)]),some (.box [.ptr 4 0]),some (.cut 5 1 o2_),some (.arr 1 (List.map Ae o3_)),some (.box [.d (.sl (List.map (eL Ay) b4_.Arcs)),.d (.sl (List.map eB b4_.Accepts))]),some (.arr 1 (List.map Ae column_7)),some (.box [.osl 5 1 x29.1 x29.2])]⟩
def Jcc:St:=⟨(0,.d (.int .i64 p0_))::(1,.ptr 0 0)::(2,.ptr 1 0)::(5,.ptr 6 0)::(7,.clo 49 [.ptr 6 0])::(8,.d (.int .i64 x_23))::(52,.d (.sl (List.map (eL Ay) b4_.Arcs)))::(53,.d (.int .i64 ((List.length b4_.Arcs:Nat):Int)))::(54,.d (.int .i64 x_23))::(59,.d (.sl (List.map Ay x33)))::(60,.d (.int .i64 ((List.length x33:Nat):Int)))::(61,.d (.int .i64 x_24))::[],[some (.box [.d (.str b0_0_),.osl 2 1 0 (List.length o2_),.osl 3 1 0 (List.length o3_)]),some (.box [.ptr 4 0]),some (.cut 5 1 o2_),some (.arr 1 (List.map Ae o3_)),some (.box [.d (.sl (List.map (eL Ay) b4_.Arcs)),.d (.sl (List.map eB b4_.Accepts))]),some (.arr 1 (List.map Ae column_8)),some (.box [.osl 5 1 x29.1 x29.2])]⟩
def Jcd:St:=⟨(0,.d (.int .i64 p0_))::(1,.ptr 0 0)::(2,.ptr 1 0)::(5,.ptr 6 0)::(7,.clo 49 [.ptr 6 0])::(52,.d (.sl (List.map (eL Ay) b4_.Arcs)))::(53,.d (.int .i64 ((List.length b4_.Arcs:Nat):Int)))::(54,.d (.int .i64 x_23))::[],[some (.box [.d (.str b0_0_),.osl 2 1 0 (List.length o2_),.osl 3 1 0 (List.length o3_)]),some (.box [.ptr 4 0]),some (.cut 5 1 o2_),some (.arr 1 (List.map Ae o3_)),some (.box [.d (.sl (List.map (eL Ay) b4_.Arcs)),.d (.sl (List.map eB b4_.Accepts))]),some (.arr 1 (List.map Ae column_9)),some (.box [.osl 5 1 x29.1 x29.2])]⟩
def ZJ:St:=⟨(0,.d (.int .i64 p0_))::(1,.ptr 0 0)::(2,.ptr 1 0)::(5,.ptr 6 0)::(7,.clo 49 [.ptr 6 0])::(8,.d (.int .i64 x_23))::(52,.d (.sl (List.map (eL Ay) b4_.Arcs)))::(53,.d (.int .i64 ((List.length b4_.Arcs:Nat):Int)))::(54,.d (.int .i64 x_23))::(59,.d (.sl (List.map Ay x33)))::(60,.d (.int .i64 ((List.length x33:Nat):Int)))::(61,.d (.int .i64 x_24))::[],[some (.box [.d (.str b0_0_),.osl 2 1 0 (List.length o2_),.osl 3 1 0 (List.length o3_)]),some (.box [.ptr 4 0]),some (.cut 5 1 o2_),some (.arr 1 (List.map Ae o3_)),some (.box [.d (.sl (List.map (eL Ay) b4_.Arcs)),.d (.sl (List.map eB b4_.Accepts))]),some (.arr 1 (List.map Ae column_10)),some (.box [.osl 5 1 x29.1 x29.2])]⟩
def Jb:(List Int)->Ex->St->Prop:=xX 6 4 (λ (y:(List Int))=>Jcd p0_ b0_0_ b4_ o2_ o3_ x29 x_23 y)
def EQ:((List Int)×Int)->St:=(λ (x:((List Int)×Int))=>Jcc p0_ b0_0_ b4_ o2_ o3_ x29 x_23 x33 x.1 x.2)
def Jc:(List Int)->Ex->St->Prop:=xX 6 2 (λ (y:(List Int))=>Jcb b0_0_ b4_ o2_ o3_ x29 y)
def ES:((List Int)×Int)->St:=(λ (x:((List Int)×Int))=>Jca p0_ b0_0_ b4_ o2_ o3_ x29 x.1 x.2)
def ZK:St:=⟨(2,.ptr 1 0)::(5,.ptr 6 0)::(7,.clo 49 [.ptr 6 0])::(12,.d (.bool better_1))::[],[some (.box [.d (.str b0_0_),.osl 2 1 0 (List.length o2_),.osl 3 1 0 (List.length o3_)]),some (.box [.ptr 4 0]),some (.cut 5 1 o2_),some (.arr 1 (List.map Ae o3_)),some (.box [.d (.sl (List.map (eL Ay) b4_.Arcs)),.d (.sl (List.map eB b4_.Accepts))]),some (.arr 1 (List.map Ae column_11)),some (.box [.osl 5 1 x29.1 x29.2])]⟩
def ZL:St:=⟨(5,.ptr 6 0)::[],[some (.box [.d (.str b0_0_),.osl 2 1 0 (List.length o2_),.osl 3 1 0 (List.length o3_)]),some (.box [.ptr 4 0]),some (.cut 5 1 o2_),some (.arr 1 (List.map Ae o3_)),some (.box [.d (.sl (List.map (eL Ay) b4_.Arcs)),.d (.sl (List.map eB b4_.Accepts))]),some (.arr 1 (List.map Ae column_12)),some (.box [.osl 5 1 x29.1 x29.2])]⟩
def ZM:St:=⟨(2,.ptr 1 0)::(5,.ptr 6 0)::(7,.clo 49 [.ptr 6 0])::(12,.d (.bool better_2))::(97,.d (.sl (List.map (eL Ay) b4_.Arcs)))::(98,.d (.int .i64 ((List.length b4_.Arcs:Nat):Int)))::(99,.d (.int .i64 x_25))::[],[some (.box [.d (.str b0_0_),.osl 2 1 0 (List.length o2_),.osl 3 1 0 (List.length o3_)]),some (.box [.ptr 4 0]),some (.cut 5 1 o2_),some (.arr 1 (List.map Ae o3_)),some (.box [.d (.sl (List.map (eL Ay) b4_.Arcs)),.d (.sl (List.map eB b4_.Accepts))]),some (.arr 1 (List.map Ae column_13)),some (.box [.osl 5 1 x29.1 x29.2])]⟩
def ZN:St:=⟨(2,.ptr 1 0)::(5,.ptr 6 0)::(7,.clo 49 [.ptr 6 0])::(12,.d (.bool better_3))::[],[some (.box [.d (.str b0_0_),.osl 2 1 0 (List.length o2_),.osl 3 1 0 (List.length o3_)]),some (.box [.ptr 4 0]),some (.cut 5 1 o2_),some (.arr 1 (List.map Ae o3_)),some (.box [.d (.sl (List.map (eL Ay) b4_.Arcs)),.d (.sl (List.map eB b4_.Accepts))]),some (.arr 1 (List.map Ae column_14)),some (.box [.osl 5 1 x29.1 x29.2])]⟩
def ZO:St:=⟨(2,.ptr 1 0)::(5,.ptr 6 0)::(7,.clo 49 [.ptr 6 0])::(12,.d (.bool better_4))::(13,.d (.int .i64 x_25))::(97,.d (.sl (List.map (eL Ay) b4_.Arcs)))::(98,.d (.int .i64 ((List.length b4_.Arcs:Nat):Int)))::(99,.d (.int .i64 x_25))::(104,.d (.sl (List.map Ay x35)))::(105,.d (.int .i64 ((List.length x35:Nat):Int)))::(106,.d (.int .i64 x_26))::[],[some (.box [.d (.str b0_0_),.osl 2 1 0 (List.length o2_),.osl 3 1 0 (List.length o3_)]),some (.box [.ptr 4 0]),some (.cut 5 1 o2_),some (.arr 1 (List.map Ae o3_)),some (.box [.d (.sl (List.map (eL Ay) b4_.Arcs)),.d (.sl (List.map eB b4_.Accepts))]),some (.arr 1 (List.map Ae column_15)),some (.box [.osl 5 1 x29.1 x29.2])]⟩
def ZP:St:=⟨(2,.ptr 1 0)::(5,.ptr 6 0)::(7,.clo 49 [.ptr 6 0])::(12,.d (.bool better_5))::(97,.d (.sl (List.map (eL Ay) b4_.Arcs)))::(98,.d (.int .i64 ((List.length b4_.Arcs:Nat):Int)))::(99,.d (.int .i64 x_25))::[],[some (.box [.d (.str b0_0_),.osl 2 1 0 (List.length o2_),.osl 3 1 0 (List.length o3_)]),some (.box [.ptr 4 0]),some (.cut 5 1 o2_),some (.arr 1 (List.map Ae o3_)),some (.box [.d (.sl (List.map (eL Ay) b4_.Arcs)),.d (.sl (List.map eB b4_.Accepts))]),some (.arr 1 (List.map Ae column_16)),some (.box [.osl 5 1 x29.1 x29.2])]⟩
def ZQ:St:=⟨(2,.ptr 1 0)::(5,.ptr 6 0)::(7,.clo 49 [.ptr 6 0])::(12,.d (.bool better_6))::(13,.d (.int .i64 x_25))::(97,.d (.sl (List.map (eL Ay) b4_.Arcs)))::(98,.d (.int .i64 ((List.length b4_.Arcs:Nat):Int)))::(99,.d (.int .i64 x_25))::(104,.d (.sl (List.map Ay x35)))::(105,.d (.int .i64 ((List.length x35:Nat):Int)))::(106,.d (.int .i64 x_26))::[],[some (.box [.d (.str b0_0_),.osl 2 1 0 (List.length o2_),.osl 3 1 0 (List.length o3_)]),some (.box [.ptr 4 0]),some (.cut 5 1 o2_),some (.arr 1 (List.map Ae o3_)),some (.box [.d (.sl (List.map (eL Ay) b4_.Arcs)),.d (.sl (List.map eB b4_.Accepts))]),some (.arr 1 (List.map Ae column_17)),some (.box [.osl 5 1 x29.1 x29.2])]⟩
def Jd:((List Int)×Bool)->Ex->St->Prop:=xX 6 10 (λ (y:((List Int)×Bool))=>ZP b0_0_ b4_ o2_ o3_ x29 x_25 y.1 y.2)
def ET:((List Int)×Bool×Int)->St:=(λ (x:((List Int)×Bool×Int))=>ZO b0_0_ b4_ o2_ o3_ x29 x_25 x35 x.1 x.2.1 x.2.2)
def Je:((List Int)×Bool)->Ex->St->Prop:=xX 6 8 (λ (y:((List Int)×Bool))=>ZN b0_0_ b4_ o2_ o3_ x29 y.1 y.2)
def EU:((List Int)×Bool×Int)->St:=(λ (x:((List Int)×Bool×Int))=>ZM b0_0_ b4_ o2_ o3_ x29 x.1 x.2.1 x.2.2)
def Jf:(List Int)->Ex->St->Prop:=xX 6 6 (λ (y:(List Int))=>ZL b0_0_ b4_ o2_ o3_ x29 y)
def EV:((List Int)×Bool)->St:=(λ (x:((List Int)×Bool))=>ZK b0_0_ b4_ o2_ o3_ x29 x.1 x.2)
variable {p0_ b0_0_ b4_ o2_ o3_ o5_ x_20 x_21 x29 column_3 x_22 column_4 column_5 column_6 x_23 column_7 x33 column_8 x_24 column_9 column_10 column_11 better_1 column_12 column_13 better_2 x_25 column_14 better_3 x35 column_15 better_4 x_26 column_16 better_5 column_17 better_6}
theorem Ib (x:((List Int)×Int)) (z:(((List Int)×Int)⊕(List Int))) (H:A9 n p0_ b0_0_ b4_ o2_ o3_ x29 x.1 x.2=some z):WP (cxk 129 6) (AA Try.f48) [1,1,0,1,0,0] (Av 6 (EP p0_ b0_0_ b4_ o2_ o3_ x29) (Ja p0_ b0_0_ b4_ o2_ o3_ x29) z) (EP p0_ b0_0_ b4_ o2_ o3_ x29 x):=by
 obtain ⟨column_3,x_22⟩:=x
 refine sr (ck 1 (en (sq (cn H (λ H=>?_) (λ H=>?_)))))
 ·refine sk (qz (sj (λ (x:(List Int))=>Jb9 p0_ b0_0_ b4_ o2_ o3_ x29 x_22 x) (λ (x:(List Int))=>Bn n x_22 x) z ?_ (λ hFRv_graph_columns_1_J1=>?_)))
  ·intro column_5 H
   exact rz (ck 2 (ae (by cases H;exact og (sg [0,1,2,5,23,24]))))
  refine bk 1 (sr (ck 2 (en (sr (ck 2 (bx H λ x30 h81 H=>sp (E4 5 1 x29.1 x29.2 (Gw h81)) (bx H λ l19 h82 H=>stP Ae 5 0 (x29.1+Int.toNat x_22) (ty 3) (E5 h81) h82 (en (sr (ck 7 (gc 3 (p0_==((List.length b0_0_:Nat):Int)) (ck 1 (bx H λ x31 h83 H=>sE (λ hg=>Aq eB (BO h83 hg)) (gc 1 (p0_==((List.length b0_0_:Nat):Int)) (pA (en (cn H (λ H=>?_) (λ H=>?_))))))))))))))))))
  ·exact rz (ck 2 (bx H λ x32 h84 H=>sp (E4 5 1 x29.1 x29.2 (Gw h84)) (bx H λ l20 h85 H=>stP Ae 5 0 (x29.1+Int.toNat x_22) (ty 3) (E5 h84) h85 (ae (qN (qs (sg [0,1,2,5,23,24]) (hFRv_graph_columns_1_J1 l20 H)))))))
  ·exact sk (qN (qs (sg [0,1,2,5,23,24]) (hFRv_graph_columns_1_J1 l19 H)))
 ·exact ex 0 (qx (by cases H;exact xo rfl (sg [0,1,2,5])))
theorem Ic (x:((List Int)×Int)) (z:(((List Int)×Int)⊕(List Int))) (H:Ba n p0_ b0_0_ b4_ o2_ o3_ x29 x_23 x33 x.1 x.2=some z):WP (cxk 129 6) (AA Try.f48) [1,1,1,1,0,1,0,0,1,1,0,0,1,1,0,0] (Av 6 (EQ p0_ b0_0_ b4_ o2_ o3_ x29 x_23 x33) (Jb p0_ b0_0_ b4_ o2_ o3_ x29 x_23) z) (EQ p0_ b0_0_ b4_ o2_ o3_ x29 x_23 x33 x):=by
 obtain ⟨column_8,x_24⟩:=x
 refine sr (ck 1 (en (sq (cn H (λ H=>?_) (λ H=>?_)))))
 ·refine sk (qz (sj (λ (x:(List Int))=>ZJ p0_ b0_0_ b4_ o2_ o3_ x29 x_23 x33 x_24 x) (λ (x:(List Int))=>Bo n x_24 x) z ?_ (λ hFRv_graph_columns_1_J2=>?_)))
  ·intro column_10 H
   exact rz (ck 2 (ae (by cases H;exact og (sg [0,1,2,5,7,8,52,53,54,59,60,61]))))
  refine bk 5 (sr (bx H λ x34 h88 H=>sp (Aq Ay h88) (ck 3 (en (sr (ck 5 (gc 1 (!(x34.Print==[])) (ck 1 (bx H λ s2 h89 H=>sE (λ hg=>GH (BO h89 hg)) (ck 1 (gc 1 (!(x34.Print==[])) (bx H λ r15 h90 H=>cG false (leZ) rfl (λ hg=>JI (BO h90 hg)) (Or.inl rfl) (B6 (λ hh=>hh) (B6 (λ hh=>hh) (Em))) rfl (pA (en (cn H (λ H=>?_) (λ H=>?_))))))))))))))))
  ·exact rx 10 (.refl _) (ck 10 (bx H λ r16 h91 H=>xs (xok _ _) (g:=true) rfl (Em) [2,3,5] (Sq h91) rfl (ck 2 (mx 13 (bx H λ r17 h92 H=>xc (xok _ _) [6,5] (EO h92) (ax (qN (qs (sg [0,1,2,5,7,8,52,53,54,59,60,61]) (hFRv_graph_columns_1_J2 r17.1 H)))))))))
  ·exact sk (qN (qs (sg [0,1,2,5,7,8,52,53,54,59,60,61]) (hFRv_graph_columns_1_J2 column_8 H)))
 ·exact ex 4 (qx (by cases H;exact xo rfl (sg [0,1,2,5,7,52,53,54])))
theorem Id (x:((List Int)×Int)) (z:(((List Int)×Int)⊕(List Int))) (H:Bb n p0_ b0_0_ b4_ o2_ o3_ x29 x.1 x.2=some z):WP (cxk 129 6) (AA Try.f48) [1,1,1,1,0,1,0,0] (Av 6 (ES p0_ b0_0_ b4_ o2_ o3_ x29) (Jc b0_0_ b4_ o2_ o3_ x29) z) (ES p0_ b0_0_ b4_ o2_ o3_ x29 x):=by
 obtain ⟨column_6,x_23⟩:=x
 refine sr (ck 1 (en (sq (cn H (λ H=>?_) (λ H=>?_)))))
 ·exact sk (qz (sq (bk 3 (sr (ck 1 (bx H λ x33 h87 H=>sp (Aq (eL Ay) h87) (ck 3 (en (sr (ck 1 (sp (AC Ay x33) (ck 1 (en (bk 4 (bx H λ y15 h93 H=>lX Ic h93 (sg [0,1,2,5,7,8,52,53,54,59,60,61]) rfl λ s hE14=>qH (qN (qs (hE14) (rz (ck 2 (ae (by cases H;exact og (sg [0,1,2,5,7,52,53,54]))))))))))))))))))))))
 ·exact ex 2 (qx (by cases H;exact xo rfl (sg [2,5,7])))
theorem Ie (x:((List Int)×Bool×Int)) (z:(((List Int)×Bool×Int)⊕((List Int)×Bool))) (H:Bc n b0_0_ b4_ o2_ o3_ x29 x_25 x35 x.1 x.2.1 x.2.2=some z):WP (cxk 129 6) (AA Try.f48) [1,1,1,1,1,0,1,0,0,1,0,1,1,0,0,1,1,0,0,1,1,0,0] (Av 6 (ET b0_0_ b4_ o2_ o3_ x29 x_25 x35) (Jd b0_0_ b4_ o2_ o3_ x29 x_25) z) (ET b0_0_ b4_ o2_ o3_ x29 x_25 x35 x):=by
 obtain ⟨column_15,better_4,x_26⟩:=x
 refine sr (ck 1 (en (sq (cn H (λ H=>?_) (λ H=>?_)))))
 ·refine sk (qz (sj (λ (x:((List Int)×Bool))=>ZQ b0_0_ b4_ o2_ o3_ x29 x_25 x35 x_26 x.1 x.2) (λ (x:((List Int)×Bool))=>A5 n x_26 x.1 x.2) z ?_ (λ hFRv_graph_columns_1_J3=>?_)))
  ·rintro ⟨column_17,better_6⟩ H
   exact rz (ck 2 (ae (by cases H;exact og (sg [2,5,7,12,13,97,98,99,104,105,106]))))
  refine bk 11 (sr (bx H λ x36 h96 H=>sp (Aq Ay h96) (ck 3 (en (sq (rx 13 (.refl _) (ck 8 (gc 1 (x36.Print==[]) (bx H λ x37 h97 H=>sE (λ hg=>E4 5 1 x29.1 x29.2 (Gw (BO h97 hg))) (sE (g:=(x36.Print==[])) (λ hg=>LS Ae 5 0 (ty 3) (E5 (BO h97 hg))) (ck 1 (gc 1 (x36.Print==[]) (gsp (x36.Print==[]) H (λ hg H=>?_) (λ hg H=>?_))))))))))))))
  ·refine bx H λ r18 h98 H=>xs (xok _ _) hg (B6 (λ hh=>hh) (B6 (λ hh=>hh) (B6 (λ hh=>hh) (B6 (λ hh=>hh) (Em))))) [6,5] (EO h98) rfl (mx 14 (pA (ax (qz (cn H (λ H=>?_) (λ H=>?_))))))
   ·exact rz (ck 1 (ae (qN (qs (sg [2,5,7,12,13,97,98,99,104,105,106]) (hFRv_graph_columns_1_J3 (r18.1,true) H)))))
   ·exact sk (qN (qs (sg [2,5,7,12,13,97,98,99,104,105,106]) (hFRv_graph_columns_1_J3 (r18.1,better_4) H)))
  ·refine gsk hg (.d (.bool false)) (mx 14 (pA (ax (qz (cn H (λ H=>?_) (λ H=>?_))))))
   ·exact rz (ck 1 (ae (qN (qs (sg [2,5,7,12,13,97,98,99,104,105,106]) (hFRv_graph_columns_1_J3 (column_15,true) H)))))
   ·exact sk (qN (qs (sg [2,5,7,12,13,97,98,99,104,105,106]) (hFRv_graph_columns_1_J3 (column_15,better_4) H)))
 ·exact ex 10 (qx (by cases H;exact xo rfl (sg [2,5,7,12,97,98,99])))
theorem If (x:((List Int)×Bool×Int)) (z:(((List Int)×Bool×Int)⊕((List Int)×Bool))) (H:Bd n b0_0_ b4_ o2_ o3_ x29 x.1 x.2.1 x.2.2=some z):WP (cxk 129 6) (AA Try.f48) [1,1,1,1,1,0,1,0,0,1,0,1,1,0,0] (Av 6 (EU b0_0_ b4_ o2_ o3_ x29) (Je b0_0_ b4_ o2_ o3_ x29) z) (EU b0_0_ b4_ o2_ o3_ x29 x):=by
 obtain ⟨column_13,better_2,x_25⟩:=x
 refine sr (ck 1 (en (sq (cn H (λ H=>?_) (λ H=>?_)))))
 ·exact sk (qz (sq (bk 9 (sr (ck 1 (bx H λ x35 h95 H=>sp (Aq (eL Ay) h95) (ck 3 (en (sr (ck 1 (sp (AC Ay x35) (ck 1 (en (bk 10 (bx H λ y17 h99 H=>lX Ie h99 (sg [2,5,7,12,13,97,98,99,104,105,106]) rfl λ s hE16=>qH (qN (qs (hE16) (rz (ck 2 (ae (by cases H;exact og (sg [2,5,7,12,97,98,99]))))))))))))))))))))))
 ·exact ex 8 (qx (by cases H;exact xo rfl (sg [2,5,7,12])))
theorem Ig (x:((List Int)×Bool)) (z:(((List Int)×Bool)⊕(List Int))) (H:Bp n b0_0_ b4_ o2_ o3_ x29 x.1 x.2=some z):WP (cxk 129 6) (AA Try.f48) [1,1,1,1,1,0,1,0,0] (Av 6 (EV b0_0_ b4_ o2_ o3_ x29) (Jf b0_0_ b4_ o2_ o3_ x29) z) (EV b0_0_ b4_ o2_ o3_ x29 x):=by
 obtain ⟨column_11,better_1⟩:=x
 refine sq (sr (ck 1 (en (cn H (λ H=>?_) (λ H=>?_)))))
 ·exact sk (qz (bk 7 (sr (ck 1 (en (sr (ck 4 (sp (AC (eL Ay) b4_.Arcs) (ck 1 (en (bk 8 (bx H λ y18 h100 H=>lX If h100 (sg [2,5,7,12,97,98,99]) rfl λ s hE17=>qH (qN (by cases H;exact og (tr (hE17) (sg [2,5,7,12]))))))))))))))))
 ·exact ex 6 (qx (by cases H;exact xo rfl (sg [5])))
theorem FU {z} (H:BE n p0_ b0_0_ b4_ o2_ o3_ o5_=some z):BC Try.prog 48 [.d (.int .i64 p0_),.ptr 0 0,.ptr 1 0] [some (.box [.d (.str b0_0_),.osl 2 1 0 (List.length o2_),.osl 3 1 0 (List.length o3_)]),some (.box [.ptr 4 0]),some (.cut 5 1 o2_),some (.arr 1 (List.map Ae o3_)),some (.box [.d (.sl (List.map (eL Ay) b4_.Arcs)),.d (.sl (List.map eB b4_.Accepts))]),some (.arr 1 (List.map Ae o5_))] 6 (.d (.int .i64 z.2)) [some (.box [.d (.str b0_0_),.osl 2 1 0 (List.length o2_),.osl 3 1 0 (List.length o3_)]),some (.box [.ptr 4 0]),some (.cut 5 1 o2_),some (.arr 1 (List.map Ae o3_)),some (.box [.d (.sl (List.map (eL Ay) b4_.Arcs)),.d (.sl (List.map eB b4_.Accepts))]),some (.arr 1 (List.map Ae z.1))]:=by
 exact fL 129 6 (Jb5 p0_ b0_0_ b4_ o2_ o3_ o5_) Try.func48 (sr (ck 1 (en (sq (rg (OF (xs:=o2_) 2 5 1 (by kernel_rfl)) (ck 3 (bx H λ x29 h80 H=>sp (Az 2 1 h80) (sp (PA (t:=ty 32) 2 5 1 h80) (ck 2 (en (sq (sq (rg (Nj (xs:=o2_) 2 5 1 (by kernel_rfl)) (ck 3 (en (bk 0 (bx H λ y14 h86 H=>lX Ib h86 (sg [0,1,2,5,23,24]) rfl λ s hE13=>qH (qs (hE13) (sr (xm (xok _ _) (ck 1 (en (sq (sr (ck 4 (sp (AC (eL Ay) b4_.Arcs) (ck 1 (en (bk 2 (bx H λ y16 h94 H=>lX Id h94 (sg [0,1,2,5,7,52,53,54]) rfl λ s hE15=>qH (qs (hE15) (sq (sr (ck 1 (en (bk 6 (bx H λ y19 h101 H=>lX Ig h101 (sg [2,5,7,12]) rfl λ s hE18=>qH (qs (hE18) (sr (ck 1 (bx H λ r19 h102 H=>lt [5] (Tk h102) (ck 1 (en (re (by cases H;exact pL (rl (s':=Jb6 b0_0_ b4_ o2_ o3_ r19.1 r19.2) (sg [4])))))))))))))))))))))))))))))))))))))))))))))))
end
section
variable (p0_:Ad) (p1_:(List UInt8)) (r21:AM) (r22:((List (Nat×Nat))×(List Int)×(List Int))) (m_5:(List Int)) (x_27:(List Int)) (i_2:Int) (m_6:(List Int)) (x_28:(List Int))
def Jj4:St:=⟨(0,.agg [.d (.int .i64 p0_.Modes),.d (.int .u8 p0_.Accept),.d (.sl (List.map Am p0_.Rules))])::(1,.d (.str p1_))::[],[]⟩
def Jj5:St:=⟨(4,.ptr 0 0)::(9,.ptr 1 0)::(10,.clo 48 [.ptr 2 0,.ptr 3 0])::(11,.d (.int .i64 i_2))::[],[some (.box [.d (.str []),.osl 4 1 0 (List.length ([]:List (List Int))),.osl 5 1 0 (List.length ([]:List Int))]),some (.box [.d (.str p1_),.osl 6 1 0 (List.length r22.1),.osl 7 1 0 (List.length m_5)]),some (.box [.d (.str p1_),.osl 6 1 0 (List.length r22.1),.osl 7 1 0 (List.length m_5)]),some (.box [.ptr 8 0]),some (.arr 1 (List.map (eL Ae) ([]:List (List Int)))),some (.arr 1 (List.map Ae ([]:List Int))),some (.cut 9 1 r22.1),some (.arr 1 (List.map Ae m_5)),some (.box [.d (.sl (List.map (eL Ay) r21.Arcs)),.d (.sl (List.map eB r21.Accepts))]),some (.arr 1 (List.map Ae x_27))]⟩
def Jj6:St:=⟨(4,.ptr 0 0)::(9,.ptr 1 0)::[],[some (.box [.d (.str []),.osl 2 1 0 (List.length ([]:List (List Int))),.osl 3 1 0 (List.length ([]:List Int))]),some (.box [.d (.str p1_),.osl 4 1 0 (List.length r22.1),.osl 5 1 0 (List.length m_6)]),some (.arr 1 (List.map (eL Ae) ([]:List (List Int)))),some (.arr 1 (List.map Ae ([]:List Int))),some (.cut 6 1 r22.1),some (.arr 1 (List.map Ae m_6)),some (.arr 1 (List.map Ae x_28))]⟩
def Sr:((List Int)×(List Int))->Ex->St->Prop:=xX 0 0 (λ (y:((List Int)×(List Int)))=>Jj6 p1_ r22 y.1 y.2)
def L3:((List Int)×(List Int)×Int)->St:=(λ (x:((List Int)×(List Int)×Int))=>Jj5 p1_ r21 r22 x.1 x.2.1 x.2.2)
variable {p0_ p1_ r21 r22 m_5 x_27 i_2 m_6 x_28}
theorem QN (x:((List Int)×(List Int)×Int)) (z:(((List Int)×(List Int)×Int)⊕((List Int)×(List Int)))) (H:Hs n p1_ r21 r22 x.1 x.2.1 x.2.2=some z):WP (cxk 43 0) (AA Try.f8) [1,1,1,1,1,0,1,0,0] (Av 0 (L3 p1_ r21 r22) (Sr p1_ r22) z) (L3 p1_ r21 r22 x):=by
 obtain ⟨m_5,x_27,i_2⟩:=x
 refine sq (sr (ck 2 (en (cn H (λ H=>?_) (λ H=>?_)))))
 ·exact sk (qz (sq (bk 1 (rx 5 (.refl _) (ck 5 (bx H λ r24 h107 H=>xs (xok _ _) (g:=true) rfl (Em) [2,3,6,7,8,9] (FU h107) rfl (bx H λ x38 h108 H=>sp (Az 7 1 h108) (mx 7 (bx H λ l21 h109 H=>stA Ae 7 0 (ty 3) h108 h109 (ax (qN (qz (rg (tr (tr (sn 36 7 1 (Bf h109)) (snc 1 2 7 1 (Bf h109))) (snc 2 2 7 1 (Bf h109))) (ck 3 (ae (by cases H;exact og (sg [4,9,10,11])))))))))))))))))
 ·exact ex 0 (qx (by cases H;exact xo rfl (sg [4,9])))
theorem Kj {z} (H:HI n p0_ p1_=some z):AF Try.prog 8 [.agg (AK p0_),.d (.str p1_)] (.tup [.agg [.d (.str z.1.Text),.d (.sl (List.map (eL Ae) z.1.Costs)),.own 1 (List.map Ae z.1.Least)],.d (.int .i64 z.2)]):=by
 refine fO 43 (Jj4 p0_ p1_) Try.func8 (sr (ck 3 (en (sq (sr (ck 1 (bx H λ r20 h103 H=>ca true (IG h103) (ck 5 (en (sr (ck 2 (en (cn H (λ H=>?_) (λ H=>?_))))))))))))))
 ·exact sr (ck 4 (en (re (qr (by cases H;exact pr (rT (vs:=[.agg [.d (.str []),.d (.nil),.d (.nil)],.d (.int .i64 r20.2)]) [] (t1 (a1 (c1 vd (c1 vn (c1 vz (c0))))) (t1 (ad vd) (t0)))))))))
 ·exact sk (qz (sr (ck 1 (bx H λ r21 h104 H=>lt [] (KY h104) (tb (f:=Dy (Ct [] 2 0)) [some (.box (AK p0_)),some (.box [.d (.str []),.d (.nil),.d (.nil)]),some (.box [.osl 3 1 0 (List.length r21.Arcs),.osl 4 1 0 (List.length r21.Accepts)]),some (.narr 1 (List.map (nL 3 Ay) r21.Arcs)),some (.arr 1 (List.map eB r21.Accepts))] (po1 (po1 (po1 (pn1 (nL 3 Ay) r21.Arcs (po1 (Pl.z)))))) (ck 1 (en (sq (rg (tr (OD (encN:=(nL 3 Ay)) (encD:=(eL Ay)) (xss:=r21.Arcs) (sz:=1) 2 0 3 (by kernel_rfl) (by kernel_rfl) (λ _=>rfl) (λ _=>rfl)) (fzc (enc:=eB) (xs:=r21.Accepts) 2 1 4 1)) (ck 2 (bx H λ r22 h105 H=>lt [2] (Hj h105) (ck 2 (en (sr (ck 2 (bx H λ r23 h106 H=>lt [2,6,7,8] (G5 h106) (ck 1 (en (sq (sr (ck 3 (en (bk 0 (bx H λ y20 h110 H=>lX QN h110 (tr (tr (BI 1 1 1 (by kernel_rfl)) (BI 1 2 1 (by kernel_rfl))) (sg [4,9,10,11])) rfl λ s hE19=>qH (qs (hE19) (sr (ck 3 (ae (bx H λ _ h111 H=>qs (tr (tr (OF (xs:=r22.1) 4 6 1 (by kernel_rfl)) (WF (enc:=Ae) (ys:=y20.2) (xs:=r22.1) 6 4 1 h111 (by kernel_rfl) (by kernel_rfl))) (Ue (sz:=1) (encN:=JeK Ae) (encD:=(eL Ae)) (xss:=Pz y20.2 r22.1) 0 1 4 WH (by kernel_rfl) (by kernel_rfl) (λ _=>rfl) (λ _=>rfl))) (re (by cases H;exact pr (rT (vs:=[.agg [.d (.str p1_),.d (.sl (List.map (eL Ae) (Pz y20.2 r22.1))),.osl 5 1 0 (List.length y20.1)],.d (.int .i64 0)]) [5] (t1 (a1 (c1 vd (c1 vd (c1 vo (c0))))) (t1 (ad vd) (t0)))))))))))))))))))))))))))))))))))
end
section
variable (p1_:Bj) (b0_:AM) (x_31:Bool) (x_32:Int)
def Jce:St:=⟨(0,.ptr 0 0)::(1,.agg [.d (.str p1_.Text),.d (.sl (List.map (eL Ae) p1_.Costs)),.d (.sl (List.map Ae p1_.Least))])::[],[some (.box [.osl 1 1 0 (List.length b0_.Arcs),.osl 2 1 0 (List.length b0_.Accepts)]),some (.narr 1 (List.map (nL 3 Ay) b0_.Arcs)),some (.arr 1 (List.map eB b0_.Accepts))]⟩
def Ss:St:=⟨(4,.d (.bool x_31))::[],[some (.box [.osl 1 1 0 (List.length b0_.Arcs),.osl 2 1 0 (List.length b0_.Accepts)]),some (.narr 1 (List.map (nL 3 Ay) b0_.Arcs)),some (.arr 1 (List.map eB b0_.Accepts))]⟩
def Jcf:St:=⟨(0,.ptr 0 0)::(26,.d (.sl (List.map (eL Ae) p1_.Costs)))::(27,.d (.int .i64 ((List.length p1_.Costs:Nat):Int)))::(28,.d (.int .i64 x_32))::[],[some (.box [.osl 1 1 0 (List.length b0_.Arcs),.osl 2 1 0 (List.length b0_.Accepts)]),some (.narr 1 (List.map (nL 3 Ay) b0_.Arcs)),some (.arr 1 (List.map eB b0_.Accepts))]⟩
def Jcg:St:=⟨[],[some (.box [.osl 1 1 0 (List.length b0_.Arcs),.osl 2 1 0 (List.length b0_.Accepts)]),some (.narr 1 (List.map (nL 3 Ay) b0_.Arcs)),some (.arr 1 (List.map eB b0_.Accepts))]⟩
def MY:(Unit⊕Bool)->Ex->St->Prop:=xS (xX 3 0 (λ (y:Unit)=>Jcg b0_)) (xL 3 ty Try.f38 (λ (y:Bool)=>.d (.bool y)) (λ (y:Bool)=>[some (.box [.osl 1 1 0 (List.length b0_.Arcs),.osl 2 1 0 (List.length b0_.Accepts)]),some (.narr 1 (List.map (nL 3 Ay) b0_.Arcs)),some (.arr 1 (List.map eB b0_.Accepts))]))
def Hk:Int->St:=(λ (x:Int)=>Jcf p1_ b0_ x)
variable {p1_ b0_ x_31 x_32}
theorem G6 (x:Int) (z:(Int⊕(Unit⊕Bool))) (H:BV n p1_ b0_ x=some z):WP (cxk 41 3) (AA Try.f38) [1,1,0,1,0,0] (Av 3 (Hk p1_ b0_) (MY b0_) z) (Hk p1_ b0_ x):=by
 revert H
 generalize x=x_32
 intro H
 refine sr (ck 1 (en (sq (cn H (λ H=>?_) (λ H=>?_)))))
 ·refine sk (qz (sq (bk 1 (sr (bx H λ x48 h125 H=>sp (Aq (eL Ae) h125) (ck 2 (en (sr (ck 1 (sp (AC Ae x48) (ck 6 (en (cn H (λ H=>?_) (λ H=>?_))))))))))))))
  ·exact sr (ck 1 (en (re (qR (qr (by cases H;exact lo rfl (rl (s':=Ss b0_ false) (gP [4] [0,1,2] (po1 (pn1 (nL 3 Ay) b0_.Arcs (po1 (Pl.z))))))))))))
  ·exact sk (qN (qz (rz (ck 2 (ae (by cases H;exact og (gP [0,26,27,28] [0,1,2] (po1 (pn1 (nL 3 Ay) b0_.Arcs (po1 (Pl.z)))))))))))
 ·exact ex 0 (qx (by cases H;exact xo rfl (gP [] [0,1,2] (po1 (pn1 (nL 3 Ay) b0_.Arcs (po1 (Pl.z)))))))
theorem OQ {z} (H:Dq n p1_ b0_=some z):BC Try.prog 38 [.ptr 0 0,.agg (FT p1_)] [some (.box [.osl 1 1 0 (List.length b0_.Arcs),.osl 2 1 0 (List.length b0_.Accepts)]),some (.narr 1 (List.map (nL 3 Ay) b0_.Arcs)),some (.arr 1 (List.map eB b0_.Accepts))] 3 (.d (.bool z)) [some (.box [.osl 1 1 0 (List.length b0_.Arcs),.osl 2 1 0 (List.length b0_.Accepts)]),some (.narr 1 (List.map (nL 3 Ay) b0_.Arcs)),some (.arr 1 (List.map eB b0_.Accepts))]:=by
 refine fL 41 3 (Jce p1_ b0_) Try.func38 (sr (ck 2 (en (sq (sr (ck 2 (sp (AC (eL Ae) p1_.Costs) (ck 7 (gc 1 (!(((List.length p1_.Costs:Nat):Int) != (Au .i64 ((List.length p1_.Text:Nat):Int) 1))) (sE (g:=(!(((List.length p1_.Costs:Nat):Int) != (Au .i64 ((List.length p1_.Text:Nat):Int) 1)))) (λ hg=>AC Ae p1_.Least) (ck 1 (gc 4 (!(((List.length p1_.Costs:Nat):Int) != (Au .i64 ((List.length p1_.Text:Nat):Int) 1))) (pO (en (cn H (λ H=>?_) (λ H=>?_))))))))))))))))
 ·exact sr (ck 1 (en (re (qr (by cases H;exact pL (rl (s':=Ss b0_ false) (gP [4] [0,1,2] (po1 (pn1 (nL 3 Ay) b0_.Arcs (po1 (Pl.z)))))))))))
 ·refine sk (qz (sq (sr (ck 2 (sp (AC (eL Ae) p1_.Costs) (ck 1 (en (bk 0 (bx H λ y30 h126 H=>?_)))))))))
  rcases y30 with y31|y32
  ·exact lX G6 h126 (gP [0,26,27,28] [0,1,2] (po1 (pn1 (nL 3 Ay) b0_.Arcs (po1 (Pl.z))))) rfl λ s hE26=>qH (qs (hE26) (sr (ck 1 (en (re (by cases H;exact pL (rl (s':=Ss b0_ true) (gP [4] [0,1,2] (po1 (pn1 (nL 3 Ay) b0_.Arcs (po1 (Pl.z))))))))))))
  ·exact lL G6 h126 (gP [0,26,27,28] [0,1,2] (po1 (pn1 (nL 3 Ay) b0_.Arcs (po1 (Pl.z))))) rfl λ s hE27=>qR (qr (by cases H;exact pL hE27))
end
section
variable (p0_:(List Int)) (p1_:(Nat×Nat)) (o0_:(List Int)) (x_33:Bool) (x_34:Int)
def Jch:St:=⟨(0,.d (.sl (List.map Ae p0_)))::(1,.osl 0 1 p1_.1 p1_.2)::[],[some (.arr 1 (List.map Ae o0_))]⟩
def Su:St:=⟨(4,.d (.bool x_33))::[],[some (.arr 1 (List.map Ae o0_))]⟩
def Jci:St:=⟨(0,.d (.sl (List.map Ae p0_)))::(1,.osl 0 1 p1_.1 p1_.2)::(12,.d (.int .i64 ((List.length p0_:Nat):Int)))::(13,.d (.int .i64 x_34))::[],[some (.arr 1 (List.map Ae o0_))]⟩
def Jcj:St:=⟨[],[some (.arr 1 (List.map Ae o0_))]⟩
def JJ:(Unit⊕Bool)->Ex->St->Prop:=xS (xX 1 0 (λ (y:Unit)=>Jcj o0_)) (xL 1 ty Try.f64 (λ (y:Bool)=>.d (.bool y)) (λ (y:Bool)=>[some (.arr 1 (List.map Ae o0_))]))
def FD:Int->St:=(λ (x:Int)=>Jci p0_ p1_ o0_ x)
variable {p0_ p1_ o0_ x_33 x_34}
theorem EW (x:Int) (z:(Int⊕(Unit⊕Bool))) (H:Bs n p0_ p1_ o0_ x=some z):WP (cxk 26 1) (AA Try.f64) [1,1,0,1,0,0] (Av 1 (FD p0_ p1_ o0_) (JJ o0_) z) (FD p0_ p1_ o0_ x):=by
 revert H
 generalize x=x_34
 intro H
 refine sr (ck 1 (en (sq (cn H (λ H=>?_) (λ H=>?_)))))
 ·refine sk (qz (sq (bk 1 (sr (ck 2 (en (sr (ck 2 (bx H λ x49 h127 H=>sp (Aq Ae h127) (ck 3 (bx H λ x50 h128 H=>sp (E4 0 1 p1_.1 p1_.2 (Gw h128)) (sp (LS Ae 0 0 (ty 3) (E5 h128)) (ck 1 (en (cn H (λ H=>?_) (λ H=>?_))))))))))))))))
  ·exact sr (ck 1 (en (re (qR (qr (by cases H;exact lo rfl (rl (s':=Su o0_ false) (sg [4]))))))))
  ·exact sk (qN (qz (rz (ck 2 (ae (by cases H;exact og (sg [0,1,12,13])))))))
 ·exact ex 0 (qx (by cases H;exact xo rfl (sg [])))
theorem Lj {z} (H:B8 n p0_ p1_ o0_=some z):BC Try.prog 64 [.d (.sl (List.map Ae p0_)),.osl 0 1 p1_.1 p1_.2] [some (.arr 1 (List.map Ae o0_))] 1 (.d (.bool z)) [some (.arr 1 (List.map Ae o0_))]:=by
 refine fL 26 1 (Jch p0_ p1_ o0_) Try.func64 (sr (ck 1 (en (sq (sr (ck 1 (sp (AC Ae p0_) (ck 3 (en (cn H (λ H=>?_) (λ H=>?_)))))))))))
 ·exact sr (ck 1 (en (re (qr (by cases H;exact pL (rl (s':=Su o0_ false) (sg [4])))))))
 ·refine sk (qz (sq (sr (ck 1 (sp (AC Ae p0_) (ck 1 (en (bk 0 (bx H λ y33 h129 H=>?_)))))))))
  rcases y33 with y34|y35
  ·exact lX EW h129 (sg [0,1,12,13]) rfl λ s hE28=>qH (qs (hE28) (sr (ck 1 (en (re (by cases H;exact pL (rl (s':=Su o0_ true) (sg [4]))))))))
  ·exact lL EW h129 (sg [0,1,12,13]) rfl λ s hE29=>qR (qr (by cases H;exact pL hE29))
end
section
variable (p0_:Bj) (p1_0_:(List UInt8)) (p2_:Int) (o0_:(List (Nat×Nat))) (o1_:(List Int)) (o2_:(List Int)) (x_35:Int) (x_36:Bool) (shift_4:Int) (known_3:Bool) (j_2:Int) (shift_5:Int) (shift_6:Int) (known_4:Bool)
def Jck:St:=⟨(0,.agg [.d (.str p0_.Text),.d (.sl (List.map (eL Ae) p0_.Costs)),.d (.sl (List.map Ae p0_.Least))])::(1,.agg [.d (.str p1_0_),.osl 0 1 0 (List.length o0_),.osl 1 1 0 (List.length o1_)])::(2,.d (.int .i64 p2_))::[],[some (.cut 2 1 o0_),some (.arr 1 (List.map Ae o1_)),some (.arr 1 (List.map Ae o2_))]⟩
def Sv:St:=⟨(6,.d (.int .i64 x_35))::(7,.d (.bool x_36))::[],[some (.cut 2 1 o0_),some (.arr 1 (List.map Ae o1_)),some (.arr 1 (List.map Ae o2_))]⟩
def Jcl:St:=⟨(2,.d (.int .i64 p2_))::(3,.ptr 3 0)::(4,.ptr 4 0)::(8,.d (.int .i64 shift_4))::(9,.d (.bool known_3))::(10,.d (.int .i64 j_2))::[],[some (.cut 2 1 o0_),some (.arr 1 (List.map Ae o1_)),some (.arr 1 (List.map Ae o2_)),some (.box (FT p0_)),some (.box [.d (.str p1_0_),.osl 0 1 0 (List.length o0_),.osl 1 1 0 (List.length o1_)])]⟩
def Jcm:St:=⟨(8,.d (.int .i64 shift_5))::[],[some (.cut 2 1 o0_),some (.arr 1 (List.map Ae o1_)),some (.arr 1 (List.map Ae o2_))]⟩
def Jcn:St:=⟨(2,.d (.int .i64 p2_))::(3,.ptr 3 0)::(4,.ptr 4 0)::(8,.d (.int .i64 shift_6))::(9,.d (.bool known_4))::(10,.d (.int .i64 j_2))::[],[some (.cut 2 1 o0_),some (.arr 1 (List.map Ae o1_)),some (.arr 1 (List.map Ae o2_)),some (.box (FT p0_)),some (.box [.d (.str p1_0_),.osl 0 1 0 (List.length o0_),.osl 1 1 0 (List.length o1_)])]⟩
def OR:(Int⊕(Int×Bool))->Ex->St->Prop:=xS (xX 3 0 (λ (y:Int)=>Jcm o0_ o1_ o2_ y)) (xL 3 ty Try.f39 (λ (y:(Int×Bool))=>.tup [.d (.int .i64 y.1),.d (.bool y.2)]) (λ (y:(Int×Bool))=>[some (.cut 2 1 o0_),some (.arr 1 (List.map Ae o1_)),some (.arr 1 (List.map Ae o2_))]))
def IK:(Int×Bool×Int)->St:=(λ (x:(Int×Bool×Int))=>Jcl p0_ p1_0_ p2_ o0_ o1_ o2_ x.1 x.2.1 x.2.2)
variable {p0_ p1_0_ p2_ o0_ o1_ o2_ x_35 x_36 shift_4 known_3 j_2 shift_5 shift_6 known_4}
theorem HU (x:(Int×Bool×Int)) (z:((Int×Bool×Int)⊕(Int⊕(Int×Bool)))) (H:Cs n p0_ p1_0_ p2_ o0_ o1_ o2_ x.1 x.2.1 x.2.2=some z):WP (cxk 64 3) (AA Try.f39) [1,1,0,1,0,0] (Av 3 (IK p0_ p1_0_ p2_ o0_ o1_ o2_) (OR o0_ o1_ o2_) z) (IK p0_ p1_0_ p2_ o0_ o1_ o2_ x):=by
 obtain ⟨shift_4,known_3,j_2⟩:=x
 refine sq (sr (ck 4 (en (cn H (λ H=>?_) (λ H=>?_)))))
 ·refine sk (qz (sj (λ (x:(Int×Bool))=>Jcn p0_ p1_0_ p2_ o0_ o1_ o2_ j_2 x.1 x.2) (λ (x:(Int×Bool))=>Cr n j_2 x.1 x.2) z ?_ (λ hFRv_settledx_J1=>?_)))
  ·rintro ⟨shift_6,known_4⟩ H
   exact rz (ck 3 (ae (by cases H;exact og (sg [2,3,4,8,9,10]))))
  refine bk 1 (sq (sq (rx 10 (OF (xs:=o0_) 0 2 1 (by kernel_rfl)) (ck 3 (bx H λ x51 h130 H=>sp (Aq (eL Ae) h130) (ck 4 (bx H λ x52 h131 H=>sp (Az 0 1 h131) (sp (PA (t:=ty 32) 0 2 1 h131) (bx H λ r26 h132 H=>xs (xok _ _) (g:=true) rfl (Em) [2] (Lj h132) rfl (mx 11 (ck 1 (ax (qz (cn H (λ H=>?_) (λ H=>?_)))))))))))))))
  ·exact sq (rg (Nj (xs:=o0_) 0 2 1 (by kernel_rfl)) (ck 2 (en (re (qr (qR (qr (by cases H;exact lo rfl (rl (s':=Sv o0_ o1_ o2_ 0 false) (sg [6,7]))))))))))
  ·refine sk (qz (sq (sq (rg (Nj (xs:=o0_) 0 2 1 (by kernel_rfl)) (ck 3 (bx H λ x53 h133 H=>sp (Aq Ae h133) (ck 4 (gc 1 (!(decide (x53<0))) (ck 1 (bx H λ x54 h134 H=>sE (λ hg=>Az 1 1 (BO h134 hg)) (sE (g:=(!(decide (x53<0)))) (λ hg=>CK Ae 1 0 (ty 3) (BO h134 hg)) (gc 1 (!(decide (x53<0))) (pO (en (cn H (λ H=>?_) (λ H=>?_))))))))))))))))
   ·exact ex 1 (qx (qH (qs (sg [2,3,4,8,9,10]) (hFRv_settledx_J1 (shift_4,known_3) H))))
   ·refine sk (qz (sr (ck 3 (bx H λ x55 h135 H=>sp (Az 1 1 h135) (sp (CK Ae 1 0 (ty 3) h135) (ck 3 (bx H λ x56 h136 H=>sp (Aq Ae h136) (ck 3 (en (sq (sr (ck 4 (gc 1 known_3 (pA (en (cn H (λ H=>?_) (λ H=>?_)))))))))))))))))
    ·exact sr (ck 2 (en (re (qr (qR (qr (by cases H;exact lo rfl (rl (s':=Sv o0_ o1_ o2_ 0 false) (sg [6,7])))))))))
    ·exact sk (qz (rz (ck 3 (ae (qN (qs (sg [2,3,4,8,9,10]) (hFRv_settledx_J1 ((Dw .i64 x55 x56),true) H)))))))
 ·exact ex 0 (qx (by cases H;exact xo rfl (sg [8])))
theorem QO {z} (H:Ep n p0_ p1_0_ p2_ o0_ o1_ o2_=some z):BC Try.prog 39 [.agg (FT p0_),.agg [.d (.str p1_0_),.osl 0 1 0 (List.length o0_),.osl 1 1 0 (List.length o1_)],.d (.int .i64 p2_)] [some (.cut 2 1 o0_),some (.arr 1 (List.map Ae o1_)),some (.arr 1 (List.map Ae o2_))] 3 (.tup [.d (.int .i64 z.1),.d (.bool z.2)]) [some (.cut 2 1 o0_),some (.arr 1 (List.map Ae o1_)),some (.arr 1 (List.map Ae o2_))]:=by
 refine fL 64 3 (Jck p0_ p1_0_ p2_ o0_ o1_ o2_) Try.func39 (sr (ck 4 (en (sr (ck 2 (en (sq (sr (ck 2 (en (bk 0 (bx H λ y36 h137 H=>?_))))))))))))
 rcases y36 with y37|y38
 ·exact lX HU h137 (sg [2,3,4,8,9,10]) rfl λ s hE30=>qH (qs (hE30) (sr (ck 3 (en (re (by cases H;exact pL (rl (s':=Sv o0_ o1_ o2_ y37 true) (sg [6,7]))))))))
 ·exact lL HU h137 (sg [2,3,4,8,9,10]) rfl λ s hE31=>qR (qr (by cases H;exact pL hE31))
end
section
variable (p0_:Ad) (p1_:Bj) (p2_:B4) (s6:(List UInt8)) (r28:AM) (r30:((List (Nat×Nat))×(List Int)×(List Int))) (result_1:(List Int)) (x_37:(List Int)) (i_3:Int) (result_2:(List Int)) (x_38:(List Int)) (result_3:(List Int)) (x_39:(List Int)) (count_1:Int) (i_4:Int) (result_4:(List Int)) (x_40:(List Int)) (count_2:Int) (rest_1:Int) (shift_7:Int) (result_5:(List Int)) (x_41:(List Int)) (y40:((List Int)×(List Int)×Int×Int×Int)) (result_6:(List Int)) (x_42:(List Int)) (x_43:Int) (result_7:(List Int)) (x_44:(List Int)) (result_8:(List Int)) (x_45:(List Int))
def Jg4:St:=⟨(0,.agg [.d (.int .i64 p0_.Modes),.d (.int .u8 p0_.Accept),.d (.sl (List.map Am p0_.Rules))])::(1,.agg [.d (.str p1_.Text),.d (.sl (List.map (eL Ae) p1_.Costs)),.d (.sl (List.map Ae p1_.Least))])::(2,.agg [.d (.int .i64 p2_.At),.d (.int .i64 p2_.Cut),.d (.str p2_.Put)])::[],[]⟩
def Jg5:St:=⟨(4,.ptr 0 0)::(5,.ptr 1 0)::(6,.ptr 2 0)::(10,.d (.str s6))::(13,.ptr 3 0)::(14,.ptr 4 0)::(15,.d (.int .i64 (Au .i64 p2_.At ((List.length p2_.Put:Nat):Int))))::(16,.d (.int .i64 i_3))::[],[some (.box (FT p1_)),some (.box (HA p2_)),some (.box [.d (.str []),.osl 5 1 0 (List.length ([]:List (List Int))),.osl 6 1 0 (List.length ([]:List Int))]),some (.box [.d (.sl (List.map (eL Ay) r28.Arcs)),.d (.sl (List.map eB r28.Accepts))]),some (.box [.d (.str s6),.osl 7 1 0 (List.length r30.1),.osl 8 1 0 (List.length result_1)]),some (.arr 1 (List.map (eL Ae) ([]:List (List Int)))),some (.arr 1 (List.map Ae ([]:List Int))),some (.cut 9 1 r30.1),some (.arr 1 (List.map Ae result_1)),some (.arr 1 (List.map Ae x_37))]⟩
def Jg6:St:=⟨(4,.ptr 0 0)::(5,.ptr 1 0)::(6,.ptr 2 0)::(13,.ptr 3 0)::(14,.ptr 4 0)::(15,.d (.int .i64 (Au .i64 p2_.At ((List.length p2_.Put:Nat):Int))))::[],[some (.box (FT p1_)),some (.box (HA p2_)),some (.box [.d (.str []),.osl 5 1 0 (List.length ([]:List (List Int))),.osl 6 1 0 (List.length ([]:List Int))]),some (.box [.d (.sl (List.map (eL Ay) r28.Arcs)),.d (.sl (List.map eB r28.Accepts))]),some (.box [.d (.str s6),.osl 7 1 0 (List.length r30.1),.osl 8 1 0 (List.length result_2)]),some (.arr 1 (List.map (eL Ae) ([]:List (List Int)))),some (.arr 1 (List.map Ae ([]:List Int))),some (.cut 9 1 r30.1),some (.arr 1 (List.map Ae result_2)),some (.arr 1 (List.map Ae x_38))]⟩
def QP:((List Int)×(List Int))->Ex->St->Prop:=xX 0 0 (λ (y:((List Int)×(List Int)))=>Jg6 p1_ p2_ s6 r28 r30 y.1 y.2)
def K1:((List Int)×(List Int)×Int)->St:=(λ (x:((List Int)×(List Int)×Int))=>Jg5 p1_ p2_ s6 r28 r30 x.1 x.2.1 x.2.2)
def Jg7:St:=⟨(4,.ptr 0 0)::(5,.ptr 1 0)::(6,.ptr 2 0)::(14,.ptr 3 0)::(18,.clo 48 [.ptr 4 0,.ptr 5 0])::(19,.d (.int .i64 count_1))::(20,.d (.int .i64 0))::(21,.d (.int .i64 0))::(22,.d (.int .i64 i_4))::[],[some (.box (FT p1_)),some (.box (HA p2_)),some (.box [.d (.str []),.osl 6 1 0 (List.length ([]:List (List Int))),.osl 7 1 0 (List.length ([]:List Int))]),some (.box [.d (.str s6),.osl 8 1 0 (List.length r30.1),.osl 9 1 0 (List.length result_3)]),some (.box [.d (.str s6),.osl 8 1 0 (List.length r30.1),.osl 9 1 0 (List.length result_3)]),some (.box [.ptr 10 0]),some (.arr 1 (List.map (eL Ae) ([]:List (List Int)))),some (.arr 1 (List.map Ae ([]:List Int))),some (.cut 11 1 r30.1),some (.arr 1 (List.map Ae result_3)),some (.box [.d (.sl (List.map (eL Ay) r28.Arcs)),.d (.sl (List.map eB r28.Accepts))]),some (.arr 1 (List.map Ae x_39))]⟩
def Jg8:St:=⟨(4,.ptr 0 0)::(6,.ptr 1 0)::(14,.ptr 2 0)::(19,.d (.int .i64 count_2))::(20,.d (.int .i64 rest_1))::(21,.d (.int .i64 shift_7))::[],[some (.box (FT p1_)),some (.box [.d (.str []),.osl 3 1 0 (List.length ([]:List (List Int))),.osl 4 1 0 (List.length ([]:List Int))]),some (.box [.d (.str s6),.osl 5 1 0 (List.length r30.1),.osl 6 1 0 (List.length result_4)]),some (.arr 1 (List.map (eL Ae) ([]:List (List Int)))),some (.arr 1 (List.map Ae ([]:List Int))),some (.cut 7 1 r30.1),some (.arr 1 (List.map Ae result_4)),some (.arr 1 (List.map Ae x_40))]⟩
def Jg9:St:=⟨(4,.ptr 0 0)::(5,.ptr 1 0)::(6,.ptr 2 0)::(14,.ptr 3 0)::(18,.clo 48 [.ptr 4 0,.ptr 5 0])::(19,.d (.int .i64 (Au .i64 count_1 1)))::(20,.d (.int .i64 0))::(21,.d (.int .i64 0))::(22,.d (.int .i64 i_4))::[],[some (.box (FT p1_)),some (.box (HA p2_)),some (.box [.d (.str []),.osl 6 1 0 (List.length ([]:List (List Int))),.osl 7 1 0 (List.length ([]:List Int))]),some (.box [.d (.str s6),.osl 8 1 0 (List.length r30.1),.osl 9 1 0 (List.length result_5)]),some (.box [.d (.str s6),.osl 8 1 0 (List.length r30.1),.osl 9 1 0 (List.length result_5)]),some (.box [.ptr 10 0]),some (.arr 1 (List.map (eL Ae) ([]:List (List Int)))),some (.arr 1 (List.map Ae ([]:List Int))),some (.cut 11 1 r30.1),some (.arr 1 (List.map Ae result_5)),some (.box [.d (.sl (List.map (eL Ay) r28.Arcs)),.d (.sl (List.map eB r28.Accepts))]),some (.arr 1 (List.map Ae x_41))]⟩
def QQ:((List Int)×(List Int)×Int×Int×Int)->Ex->St->Prop:=xX 0 2 (λ (y:((List Int)×(List Int)×Int×Int×Int))=>Jg8 p1_ s6 r30 y.1 y.2.1 y.2.2.1 y.2.2.2.1 y.2.2.2.2)
def K2:((List Int)×(List Int)×Int×Int)->St:=(λ (x:((List Int)×(List Int)×Int×Int))=>Jg7 p1_ p2_ s6 r28 r30 x.1 x.2.1 x.2.2.1 x.2.2.2)
def Jha:St:=⟨(4,.ptr 0 0)::(6,.ptr 1 0)::(14,.ptr 2 0)::(19,.d (.int .i64 y40.2.2.1))::(21,.d (.int .i64 y40.2.2.2.2))::(163,.d (.int .i64 y40.2.2.2.1))::(164,.d (.int .i64 x_43))::[],[some (.box (FT p1_)),some (.box [.d (.str []),.osl 3 1 0 (List.length ([]:List (List Int))),.osl 4 1 0 (List.length ([]:List Int))]),some (.box [.d (.str s6),.osl 5 1 0 (List.length r30.1),.osl 6 1 0 (List.length result_6)]),some (.arr 1 (List.map (eL Ae) ([]:List (List Int)))),some (.arr 1 (List.map Ae ([]:List Int))),some (.cut 7 1 r30.1),some (.arr 1 (List.map Ae result_6)),some (.arr 1 (List.map Ae x_42))]⟩
def Jhb:St:=⟨(6,.ptr 0 0)::(14,.ptr 1 0)::(19,.d (.int .i64 y40.2.2.1))::[],[some (.box [.d (.str []),.osl 2 1 0 (List.length ([]:List (List Int))),.osl 3 1 0 (List.length ([]:List Int))]),some (.box [.d (.str s6),.osl 4 1 0 (List.length r30.1),.osl 5 1 0 (List.length result_7)]),some (.arr 1 (List.map (eL Ae) ([]:List (List Int)))),some (.arr 1 (List.map Ae ([]:List Int))),some (.cut 6 1 r30.1),some (.arr 1 (List.map Ae result_7)),some (.arr 1 (List.map Ae x_44))]⟩
def Jhc:St:=⟨(4,.ptr 0 0)::(6,.ptr 1 0)::(14,.ptr 2 0)::(19,.d (.int .i64 y40.2.2.1))::(21,.d (.int .i64 y40.2.2.2.2))::(163,.d (.int .i64 y40.2.2.2.1))::(164,.d (.int .i64 x_43))::[],[some (.box (FT p1_)),some (.box [.d (.str []),.osl 3 1 0 (List.length ([]:List (List Int))),.osl 4 1 0 (List.length ([]:List Int))]),some (.box [.d (.str s6),.osl 5 1 0 (List.length r30.1),.osl 6 1 0 (List.length result_8)]),some (.arr 1 (List.map (eL Ae) ([]:List (List Int)))),some (.arr 1 (List.map Ae ([]:List Int))),some (.cut 7 1 r30.1),some (.arr 1 (List.map Ae result_8)),some (.arr 1 (List.map Ae x_45))]⟩
def QR:((List Int)×(List Int))->Ex->St->Prop:=xX 0 4 (λ (y:((List Int)×(List Int)))=>Jhb s6 r30 y40 y.1 y.2)
def K3:((List Int)×(List Int)×Int)->St:=(λ (x:((List Int)×(List Int)×Int))=>Jha p1_ s6 r30 y40 x.1 x.2.1 x.2.2)
variable {p0_ p1_ p2_ s6 r28 r30 result_1 x_37 i_3 result_2 x_38 result_3 x_39 count_1 i_4 result_4 x_40 count_2 rest_1 shift_7 result_5 x_41 y40 result_6 x_42 x_43 result_7 x_44 result_8 x_45}
theorem PO (x:((List Int)×(List Int)×Int)) (z:(((List Int)×(List Int)×Int)⊕((List Int)×(List Int)))) (H:CF n p1_ p2_ s6 r28 r30 x.1 x.2.1 x.2.2=some z):WP (cxk 204 0) (AA Try.f17) [1,0,1,1,1,1,1,1,1,1,0,1,0,0] (Av 0 (K1 p1_ p2_ s6 r28 r30) (QP p1_ p2_ s6 r28 r30) z) (K1 p1_ p2_ s6 r28 r30 x):=by
 obtain ⟨result_1,x_37,i_3⟩:=x
 refine sq (sr (ck 4 (en (cn H (λ H=>?_) (λ H=>?_)))))
 ·exact sk (qz (sq (bk 1 (sr (ck 9 (en (sq (rx 11 (OF (xs:=r30.1) 7 9 1 (by kernel_rfl)) (ck 3 (bx H λ x57 h146 H=>sp (Az 7 1 h146) (sp (PA (t:=ty 32) 7 9 1 h146) (ck 3 (bx H λ x58 h147 H=>sp (Aq (eL Ae) h147) (ck 1 (mx 10 (bx H λ l22 h148 H=>xpP (xok _ _) Ae 9 1 x57.1 x57.2 h148 Jju (λ _=>rfl) (ax (qz (rg (Nj (xs:=r30.1) 7 9 1 (by kernel_rfl)) (ck 6 (bx H λ x59 h149 H=>sp (Aq Ae h149) (ck 1 (bx H λ x60 h150 H=>sp (Az 8 1 h150) (bx H λ l23 h151 H=>stA Ae 8 0 (ty 3) h150 h151 (ae (qN (qz (rg (tr (sn 122 8 1 (Bf h151)) (snc 4 2 8 1 (Bf h151))) (ck 3 (ae (by cases H;exact og (sg [4,5,6,10,13,14,15,16]))))))))))))))))))))))))))))))))
 ·exact ex 0 (qx (by cases H;exact xo rfl (sg [4,5,6,13,14,15])))
theorem PP (x:((List Int)×(List Int)×Int×Int)) (z:(((List Int)×(List Int)×Int×Int)⊕((List Int)×(List Int)×Int×Int×Int))) (H:C9 n p1_ p2_ s6 r28 r30 x.1 x.2.1 x.2.2.1 x.2.2.2=some z):WP (cxk 204 0) (AA Try.f17) [1,0,1,1,1,1,1,1,1,1,1,1,1,1,0,1,0,0] (Av 0 (K2 p1_ p2_ s6 r28 r30) (QQ p1_ s6 r30) z) (K2 p1_ p2_ s6 r28 r30 x):=by
 obtain ⟨result_3,x_39,count_1,i_4⟩:=x
 refine sq (sr (ck 2 (en (cn H (λ H=>?_) (λ H=>?_)))))
 ·refine sk (qz (sj (λ (x:((List Int)×(List Int)))=>Jg9 p1_ p2_ s6 r28 r30 count_1 i_4 x.1 x.2) (λ (x:((List Int)×(List Int)))=>C8 n count_1 i_4 x.1 x.2) z ?_ (λ hFRv_Change_J1=>?_)))
  ·rintro ⟨result_5,x_41⟩ H
   exact rz (ck 3 (ae (by cases H;exact og (sg [4,5,6,14,18,19,20,21,22]))))
  refine bk 3 (sq (rx 5 (.refl _) (ck 5 (bx H λ r32 h154 H=>xs (xok _ _) (g:=true) rfl (Em) [4,5,8,9,10,11] (FU h154) rfl (bx H λ x61 h155 H=>sp (Az 9 1 h155) (mx 7 (bx H λ l24 h156 H=>stA Ae 9 0 (ty 3) h155 h156 (ax (qz (sq (rg (tr (tr (sn 140 9 1 (Bf h156)) (snc 3 2 9 1 (Bf h156))) (snc 4 2 9 1 (Bf h156))) (ck 3 (en (sq (sr (ck 5 (en (cn H (λ H=>?_) (λ H=>?_)))))))))))))))))))
  ·exact ex 3 (qx (qH (qs (sg [4,5,6,14,18,19,20,21,22]) (hFRv_Change_J1 (l24,r32.1) H))))
  ·refine sk (qz (sr (ck 3 (bx H λ r33 h157 H=>lt [8,9,11] (QO h157) (ck 5 (en (sr (ck 1 (en (cn H (λ H=>?_) (λ H=>?_)))))))))))
   ·exact sr (ck 4 (en (ex 2 (qX rfl (qx (by cases H;exact xo rfl (sg [4,6,14,19,20,21])))))))
   ·exact sk (qN (qs (sg [4,5,6,14,18,19,20,21,22]) (hFRv_Change_J1 (l24,r32.1) H)))
 ·exact ex 2 (qx (by cases H;exact xo rfl (sg [4,6,14,19,20,21])))
theorem PR (x:((List Int)×(List Int)×Int)) (z:(((List Int)×(List Int)×Int)⊕((List Int)×(List Int)))) (H:CG n p1_ s6 r30 y40 x.1 x.2.1 x.2.2=some z):WP (cxk 204 0) (AA Try.f17) [1,0,1,1,1,1,1,1,1,1,1,1,1,1,1,0,1,0,0] (Av 0 (K3 p1_ s6 r30 y40) (QR s6 r30 y40) z) (K3 p1_ s6 r30 y40 x):=by
 obtain ⟨result_6,x_42,x_43⟩:=x
 refine sr (ck 1 (en (sq (cn H (λ H=>?_) (λ H=>?_)))))
 ·refine sk (qz (sj (λ (x:((List Int)×(List Int)))=>Jhc p1_ s6 r30 y40 x_43 x.1 x.2) (λ (x:((List Int)×(List Int)))=>Da n x_43 x.1 x.2) z ?_ (λ hFRv_Change_J2=>?_)))
  ·rintro ⟨result_8,x_45⟩ H
   exact rz (ck 2 (ae (by cases H;exact og (sg [4,6,14,19,21,163,164]))))
  refine bk 5 (sr (ck 2 (en (sq (rx 11 (OF (xs:=r30.1) 5 7 1 (by kernel_rfl)) (ck 3 (bx H λ x62 h159 H=>sp (Az 5 1 h159) (sp (PA (t:=ty 32) 5 7 1 h159) (ck 3 (bx H λ x63 h160 H=>sp (Aq (eL Ae) h160) (ck 1 (mx 10 (bx H λ l25 h161 H=>xpP (xok _ _) Ae 7 1 x62.1 x62.2 h161 Jju (λ _=>rfl) (ax (qz (sq (rg (Nj (xs:=r30.1) 5 7 1 (by kernel_rfl)) (ck 6 (bx H λ x64 h162 H=>sp (Aq Ae h162) (ck 1 (bx H λ x65 h163 H=>sp (Az 6 1 h163) (bx H λ l26 h164 H=>stA Ae 6 0 (ty 3) h163 h164 (en (sq (rg (tr (sn 179 6 1 (Bf h164)) (snc 2 2 6 1 (Bf h164))) (ck 3 (bx H λ x66 h165 H=>sp (Aq Ae h165) (ck 2 (en (cn H (λ H=>?_) (λ H=>?_)))))))))))))))))))))))))))))))
  ·exact rz (ck 3 (bx H λ x67 h166 H=>sp (Az 6 1 h166) (sp (CK Ae 6 0 (ty 3) h166) (ck 2 (bx H λ x68 h167 H=>sp (Az 6 1 h167) (bx H λ l27 h168 H=>stA Ae 6 0 (ty 3) h167 h168 (ae (qN (qs (tr (tr (tr (sn 179 6 1 (Bf h168)) (sn 194 6 1 (Bf h168))) (snc 2 2 6 1 (Bf h168))) (sg [4,6,14,19,21,163,164])) (hFRv_Change_J2 (l27,l25) H))))))))))
  ·exact sk (qN (qs (sg [4,6,14,19,21,163,164]) (hFRv_Change_J2 (l26,l25) H)))
 ·exact ex 4 (qx (by cases H;exact xo rfl (sg [6,14,19])))
theorem DU {z} (H:CM n p0_ p1_ p2_=some z):AF Try.prog 17 [.agg (AK p0_),.agg (FT p1_),.agg (HA p2_)] (.tup [.agg [.d (.str z.1.Text),.d (.sl (List.map (eL Ae) z.1.Costs)),.own 1 (List.map Ae z.1.Least)],.d (.int .i64 z.2.1),.d (.int .i64 z.2.2)]):=by
 refine fO 204 (Jg4 p0_ p1_ p2_) Try.func17 (sr (ck 6 (en (sc (sr (ck 4 (en (sq (sr (ck 5 (gc 2 (!(decide (p2_.At<0))) (pO (ck 2 (gc 1 (!((decide (p2_.At<0))||(decide (p2_.Cut<0)))) (ck 1 (gc 1 (!((decide (p2_.At<0))||(decide (p2_.Cut<0)))) (pO (ck 2 (gc 1 (!(((decide (p2_.At<0))||(decide (p2_.Cut<0)))||(decide (p2_.At>((List.length p1_.Text:Nat):Int))))) (ck 2 (gc 3 (!(((decide (p2_.At<0))||(decide (p2_.Cut<0)))||(decide (p2_.At>((List.length p1_.Text:Nat):Int))))) (pO (en (cn H (λ H=>?_) (λ H=>?_)))))))))))))))))))))))))
 ·exact sr (ck 4 (en (re (qr (by cases H;exact pr (rT (vs:=[.agg [.d (.str []),.d (.nil),.d (.nil)],.d (.int .i64 0),.d (.int .i64 1)]) [] (t1 (a1 (c1 vd (c1 vn (c1 vz (c0))))) (t1 (ad vd) (t1 (ad vd) (t0))))))))))
 ·refine sk (qz (sr (ck 4 (bx H λ s3 h138 H=>sp (GH h138) (ck 2 (bx H λ s4 h139 H=>sp (Py h139) (ck 7 (bx H λ s5 h140 H=>sp (GH h140) (bx H λ s6 h141 H=>sp (Py h141) (ck 1 (en (sq (sr (ck 1 (bx H λ r27 h142 H=>ca true (IG h142) (ck 5 (en (sr (ck 2 (en (cn H (λ H=>?_) (λ H=>?_))))))))))))))))))))))
  ·exact sr (ck 5 (en (re (qr (by cases H;exact pr (rT (vs:=[.agg [.d (.str []),.d (.nil),.d (.nil)],.d (.int .i64 0),.d (.int .i64 r27.2)]) [] (t1 (a1 (c1 vd (c1 vn (c1 vz (c0))))) (t1 (ad vd) (t1 (ad vd) (t0))))))))))
  ·refine sk (qz (sr (ck 1 (bx H λ r28 h143 H=>lt [] (KY h143) (tb (f:=Dy (Ct [] 4 0)) [some (.box (AK p0_)),some (.box (FT p1_)),some (.box (HA p2_)),some (.box [.d (.str []),.d (.nil),.d (.nil)]),some (.box [.osl 5 1 0 (List.length r28.Arcs),.osl 6 1 0 (List.length r28.Accepts)]),some (.narr 1 (List.map (nL 3 Ay) r28.Arcs)),some (.arr 1 (List.map eB r28.Accepts))] (po1 (po1 (po1 (po1 (po1 (pn1 (nL 3 Ay) r28.Arcs (po1 (Pl.z)))))))) (ck 1 (en (sq (sr (ck 2 (bx H λ r29 h144 H=>ltP [4,5,6] (OQ h144) (po1 (pn1 (nL 3 Ay) r28.Arcs (po1 (Pl.z)))) (tb (f:=Dy (Ct [4,5,6] 7 3)) [some (.box (AK p0_)),some (.box (FT p1_)),some (.box (HA p2_)),some (.box [.d (.str []),.d (.nil),.d (.nil)]),some (.box [.osl 5 1 0 (List.length r28.Arcs),.osl 6 1 0 (List.length r28.Accepts)]),some (.narr 1 (List.map (nL 3 Ay) r28.Arcs)),some (.arr 1 (List.map eB r28.Accepts))] (po1 (po1 (po1 (po1 (po1 (pn1 (nL 3 Ay) r28.Arcs (po1 (Pl.z)))))))) (ck 1 (en (cn H (λ H=>?_) (λ H=>?_))))))))))))))))
   ·exact sr (ck 4 (en (re (qr (by cases H;exact pr (rT (vs:=[.agg [.d (.str []),.d (.nil),.d (.nil)],.d (.int .i64 0),.d (.int .i64 1)]) [] (t1 (a1 (c1 vd (c1 vn (c1 vz (c0))))) (t1 (ad vd) (t1 (ad vd) (t0))))))))))
   ·exact sk (qz (sq (rg (tr (OD (encN:=(nL 3 Ay)) (encD:=(eL Ay)) (xss:=r28.Arcs) (sz:=1) 4 0 5 (by kernel_rfl) (by kernel_rfl) (λ _=>rfl) (λ _=>rfl)) (fzc (enc:=eB) (xs:=r28.Accepts) 4 1 6 1)) (ck 2 (bx H λ r30 h145 H=>lt [4] (Hj h145) (ck 2 (en (sr (ck 7 (en (sq (sr (ck 2 (en (bk 0 (bx H λ y39 h152 H=>lX PO h152 (tr (tr (BI 3 1 1 (by kernel_rfl)) (BI 3 2 1 (by kernel_rfl))) (sg [4,5,6,10,13,14,15,16])) rfl λ s hE32=>qH (qs (hE32) (sr (ck 2 (bx H λ r31 h153 H=>lt [3,7,8,9] (G5 h153) (ck 1 (en (sr (ck 3 (en (sq (lbl (qz (sq (sr (ck 3 (en (bk 2 (bx H λ y40 h158 H=>lX PP h158 (sg [4,5,6,14,18,19,20,21,22]) rfl λ s hE33=>qH (qs (hE33) (sq (sr (ck 2 (en (bk 4 (bx H λ y41 h169 H=>lX PR h169 (sg [4,6,14,19,21,163,164]) rfl λ s hE34=>qH (qs (hE34) (sr (ck 5 (ae (bx H λ _ h170 H=>qs (tr (tr (OF (xs:=r30.1) 4 6 1 (by kernel_rfl)) (WF (enc:=Ae) (ys:=y41.2) (xs:=r30.1) 6 4 1 h170 (by kernel_rfl) (by kernel_rfl))) (Ue (sz:=1) (encN:=JeK Ae) (encD:=(eL Ae)) (xss:=Pz y41.2 r30.1) 0 1 4 WH (by kernel_rfl) (by kernel_rfl) (λ _=>rfl) (λ _=>rfl))) (re (by cases H;exact pr (rT (vs:=[.agg [.d (.str s6),.d (.sl (List.map (eL Ae) (Pz y41.2 r30.1))),.osl 5 1 0 (List.length y41.1)],.d (.int .i64 y40.2.2.1),.d (.int .i64 0)]) [5] (t1 (a1 (c1 vd (c1 vd (c1 vo (c0))))) (t1 (ad vd) (t1 (ad vd) (t0)))))))))))))))))))))))))))))))))))))))))))))))))))))
end
section
variable (p0_:(List UInt8)) (x_46:Int)
def Jhd:St:=⟨(0,.d (.str p0_))::[],[]⟩
def Jhe:St:=⟨(0,.d (.str p0_))::(5,.d (.int .i64 ((List.length p0_:Nat):Int)))::(6,.d (.int .i64 x_46))::[],[]⟩
def Jhf:St:=⟨[],[]⟩
def OS:(Unit⊕Bool)->Ex->St->Prop:=xS (xX 0 0 (λ (y:Unit)=>Jhf)) (xR ty Try.f84 (λ (y:Bool)=>.d (.bool y)))
def IL:Int->St:=(λ (x:Int)=>Jhe p0_ x)
variable {p0_ x_46}
theorem HV (x:Int) (z:(Int⊕(Unit⊕Bool))) (H:E6 n p0_ x=some z):WP (cxk 15 0) (AA Try.f84) [1,0,1,0,0] (Av 0 (IL p0_) (OS) z) (IL p0_ x):=by
 revert H
 generalize x=x_46
 intro H
 refine sr (ck 1 (en (sq (cn H (λ H=>?_) (λ H=>?_)))))
 ·refine sk (qz (sq (bk 1 (sr (ck 2 (en (sr (ck 2 (bx H λ b4 h171 H=>sp (Hq h171) (bx H λ r34 h172 H=>ca false (HB h172) (ck 1 (en (cn H (λ H=>?_) (λ H=>?_))))))))))))))
  ·exact sr (ck 1 (en (re (qR (qr (by cases H;exact ro rfl rd))))))
  ·exact sk (qN (qz (rz (ck 2 (ae (by cases H;exact og (sg [0,5,6])))))))
 ·exact ex 0 (qx (by cases H;exact xo rfl (sg [])))
theorem QS {z} (H:Ht n p0_=some z):AF Try.prog 84 [.d (.str p0_)] (.d (.bool z)):=by
 refine fO 15 (Jhd p0_) Try.func84 (sr (ck 1 (en (sq (sr (ck 3 (en (bk 0 (bx H λ y42 h173 H=>?_)))))))))
 rcases y42 with y43|y44
 ·exact lX HV h173 (sg [0,5,6]) rfl λ s hE35=>qH (qs (hE35) (sr (ck 1 (en (re (by cases H;exact pr rd))))))
 ·exact lR HV h173 (sg [0,5,6]) rfl λ s hE36=>qR (qr (by cases H;exact pr hE36))
end
section
variable (p0_:Int)
def Jhg:St:=⟨(0,.d (.int .u8 p0_))::[],[]⟩
variable {p0_}
theorem U5 {z} (H:Mz n p0_=some z):AF Try.prog 85 [.d (.int .u8 p0_)] (.d (.bool z)):=by
 exact fO 5 (Jhg p0_) Try.func85 (sr (ck 1 (en (sr (ck 3 (en (re (by cases H;exact pr rd))))))))
end
section
variable (p0_:Ax) (p1_:Int) (x_47:Int)
def Jhh:St:=⟨(0,.agg [.d (.str p0_.Print),.d (.sl (List.map eU8 p0_.Cells)),.d (.int .u8 p0_.Left),.d (.int .u8 p0_.Right),.d (.int .i64 p0_.From),.d (.int .i64 p0_.To)])::(1,.d (.int .i64 p1_))::[],[]⟩
def Jhi:St:=⟨(92,.d (.sl (List.map eU8 p0_.Cells)))::(93,.d (.int .i64 ((List.length p0_.Cells:Nat):Int)))::(94,.d (.int .i64 x_47))::[],[]⟩
def Jhj:St:=⟨[],[]⟩
def Sw:(Unit⊕Bool)->Ex->St->Prop:=xS (xX 0 0 (λ (y:Unit)=>Jhj)) (xR ty Try.f79 (λ (y:Bool)=>.d (.bool y)))
def L4:Int->St:=(λ (x:Int)=>Jhi p0_ x)
variable {p0_ p1_ x_47}
theorem K4 (x:Int) (z:(Int⊕(Unit⊕Bool))) (H:Hu n p0_ x=some z):WP (cxk 110 0) (AA Try.f79) [1,1,1,1,1,1,0,1,0,0] (Av 0 (L4 p0_) (Sw) z) (L4 p0_ x):=by
 revert H
 generalize x=x_47
 intro H
 refine sr (ck 1 (en (sq (cn H (λ H=>?_) (λ H=>?_)))))
 ·refine sk (qz (sq (bk 1 (sr (bx H λ x70 h177 H=>sp (Aq eU8 h177) (ck 2 (en (sr (ck 1 (bx H λ r37 h178 H=>ca false (U5 h178) (ck 3 (gc 1 (!(!r37)) (pO (ck 2 (gc 1 (!((!r37)||(x70==63))) (pO (en (cn H (λ H=>?_) (λ H=>?_)))))))))))))))))))
  ·exact sr (ck 1 (en (re (qR (qr (by cases H;exact ro rfl rd))))))
  ·exact sk (qN (qz (rz (ck 2 (ae (by cases H;exact og (sg [92,93,94])))))))
 ·exact ex 0 (qx (by cases H;exact xo rfl (sg [])))
theorem U6 {z} (H:MA n p0_ p1_=some z):AF Try.prog 79 [.agg (LW p0_),.d (.int .i64 p1_)] (.d (.bool z)):=by
 refine fO 110 (Jhh p0_ p1_) Try.func79 (sr (ck 2 (en (sq (sr (ck 6 (gc 1 (!(decide (((List.length p0_.Print:Nat):Int)>4))) (sE (g:=(!(decide (((List.length p0_.Print:Nat):Int)>4)))) (λ hg=>AC eU8 p0_.Cells) (gc 1 (!(decide (((List.length p0_.Print:Nat):Int)>4))) (pO (ck 2 (gc 1 (!((decide (((List.length p0_.Print:Nat):Int)>4))||(decide (((List.length p0_.Cells:Nat):Int)<1)))) (sE (g:=(!((decide (((List.length p0_.Print:Nat):Int)>4))||(decide (((List.length p0_.Cells:Nat):Int)<1))))) (λ hg=>AC eU8 p0_.Cells) (gc 1 (!((decide (((List.length p0_.Print:Nat):Int)>4))||(decide (((List.length p0_.Cells:Nat):Int)<1)))) (pO (en (cn H (λ H=>?_) (λ H=>?_))))))))))))))))))
 ·exact sr (ck 1 (en (re (qr (by cases H;exact pr rd)))))
 ·refine sk (qz (sq (sr (ck 2 (bx H λ r35 h174 H=>ca false (IG h174) (ck 5 (en (sr (ck 2 (en (cn H (λ H=>?_) (λ H=>?_))))))))))))
  ·exact sr (ck 1 (en (re (qr (by cases H;exact pr rd)))))
  ·refine sk (qz (sq (sr (ck 5 (gc 2 (!(decide (p0_.Left<1))) (pO (ck 2 (gc 2 (!((decide (p0_.Left<1))||(decide (p0_.Left>63)))) (pO (ck 2 (gc 2 (!(((decide (p0_.Left<1))||(decide (p0_.Left>63)))||(decide (p0_.Right<1)))) (pO (en (cn H (λ H=>?_) (λ H=>?_)))))))))))))))
   ·exact sr (ck 1 (en (re (qr (by cases H;exact pr rd)))))
   ·refine sk (qz (sq (sr (ck 5 (gc 1 (!(decide (p0_.From<0))) (ck 1 (gc 1 (!(decide (p0_.From<0))) (pO (ck 2 (gc 2 (!((decide (p0_.From<0))||(decide (p0_.From≥p1_)))) (pO (ck 2 (gc 1 (!(((decide (p0_.From<0))||(decide (p0_.From≥p1_)))||(decide (p0_.To<0)))) (ck 1 (gc 1 (!(((decide (p0_.From<0))||(decide (p0_.From≥p1_)))||(decide (p0_.To<0)))) (pO (en (cn H (λ H=>?_) (λ H=>?_)))))))))))))))))))
    ·exact sr (ck 1 (en (re (qr (by cases H;exact pr rd)))))
    ·refine sk (qz (sq (sr (ck 2 (bx H λ r36 h175 H=>ca false (QS h175) (en (cn H (λ H=>?_) (λ H=>?_))))))))
     ·exact sr (ck 6 (gc 1 (((List.length p0_.Print:Nat):Int)==1) (sE (g:=(((List.length p0_.Print:Nat):Int)==1)) (λ hg=>AC eU8 p0_.Cells) (gc 1 (((List.length p0_.Print:Nat):Int)==1) (pA (ck 2 (gc 1 ((((List.length p0_.Print:Nat):Int)==1)&&(((List.length p0_.Cells:Nat):Int)==1)) (bx H λ x69 h176 H=>sE (λ hg=>Aq eU8 (BO h176 hg)) (gc 2 ((((List.length p0_.Print:Nat):Int)==1)&&(((List.length p0_.Cells:Nat):Int)==1)) (pA (ck 1 (en (re (qr (by cases H;exact pr rd)))))))))))))))
     ·refine sk (qz (sq (sr (ck 2 (sp (AC eU8 p0_.Cells) (ck 1 (en (bk 0 (bx H λ y45 h179 H=>?_)))))))))
      rcases y45 with y46|y47
      ·exact lX K4 h179 (sg [92,93,94]) rfl λ s hE37=>qH (qs (hE37) (sr (ck 1 (en (re (by cases H;exact pr rd))))))
      ·exact lR K4 h179 (sg [92,93,94]) rfl λ s hE38=>qR (qr (by cases H;exact pr hE38))
end
section
variable (p0_:(List Int)) (p1_:(List Int)) (x_48:Int)
def Jhk:St:=⟨(0,.d (.sl (List.map eU8 p0_)))::(1,.d (.sl (List.map eU8 p1_)))::[],[]⟩
def Jhl:St:=⟨(0,.d (.sl (List.map eU8 p0_)))::(1,.d (.sl (List.map eU8 p1_)))::(12,.d (.int .i64 ((List.length p0_:Nat):Int)))::(13,.d (.int .i64 x_48))::[],[]⟩
def Jhm:St:=⟨[],[]⟩
def Sx:(Unit⊕Bool)->Ex->St->Prop:=xS (xX 0 0 (λ (y:Unit)=>Jhm)) (xR ty Try.f86 (λ (y:Bool)=>.d (.bool y)))
def L5:Int->St:=(λ (x:Int)=>Jhl p0_ p1_ x)
variable {p0_ p1_ x_48}
theorem K5 (x:Int) (z:(Int⊕(Unit⊕Bool))) (H:Hv n p0_ p1_ x=some z):WP (cxk 26 0) (AA Try.f86) [1,1,0,1,0,0] (Av 0 (L5 p0_ p1_) (Sx) z) (L5 p0_ p1_ x):=by
 revert H
 generalize x=x_48
 intro H
 refine sr (ck 1 (en (sq (cn H (λ H=>?_) (λ H=>?_)))))
 ·refine sk (qz (sq (bk 1 (sr (ck 2 (en (sr (ck 2 (bx H λ x71 h180 H=>sp (Aq eU8 h180) (ck 3 (bx H λ x72 h181 H=>sp (Aq eU8 h181) (ck 2 (en (cn H (λ H=>?_) (λ H=>?_)))))))))))))))
  ·exact sr (ck 1 (en (re (qR (qr (by cases H;exact ro rfl rd))))))
  ·exact sk (qN (qz (rz (ck 2 (ae (by cases H;exact og (sg [0,1,12,13])))))))
 ·exact ex 0 (qx (by cases H;exact xo rfl (sg [])))
theorem U7 {z} (H:MB n p0_ p1_=some z):AF Try.prog 86 [.d (.sl (List.map eU8 p0_)),.d (.sl (List.map eU8 p1_))] (.d (.bool z)):=by
 refine fO 26 (Jhk p0_ p1_) Try.func86 (sr (ck 1 (en (sq (sr (ck 1 (sp (AC eU8 p0_) (ck 1 (sp (AC eU8 p1_) (ck 1 (en (cn H (λ H=>?_) (λ H=>?_)))))))))))))
 ·exact sr (ck 1 (en (re (qr (by cases H;exact pr rd)))))
 ·refine sk (qz (sq (sr (ck 1 (sp (AC eU8 p0_) (ck 1 (en (bk 0 (bx H λ y48 h182 H=>?_)))))))))
  rcases y48 with y49|y50
  ·exact lX K5 h182 (sg [0,1,12,13]) rfl λ s hE39=>qH (qs (hE39) (sr (ck 1 (en (re (by cases H;exact pr rd))))))
  ·exact lR K5 h182 (sg [0,1,12,13]) rfl λ s hE40=>qR (qr (by cases H;exact pr hE40))
end
section
variable (p0_:Ax) (p1_:Ax)
def Jhn:St:=⟨(0,.agg [.d (.str p0_.Print),.d (.sl (List.map eU8 p0_.Cells)),.d (.int .u8 p0_.Left),.d (.int .u8 p0_.Right),.d (.int .i64 p0_.From),.d (.int .i64 p0_.To)])::(1,.agg [.d (.str p1_.Print),.d (.sl (List.map eU8 p1_.Cells)),.d (.int .u8 p1_.Left),.d (.int .u8 p1_.Right),.d (.int .i64 p1_.From),.d (.int .i64 p1_.To)])::[],[]⟩
variable {p0_ p1_}
theorem U9 {z} (H:MC n p0_ p1_=some z):AF Try.prog 80 [.agg (LW p0_),.agg (LW p1_)] (.d (.bool z)):=by
 exact fO 45 (Jhn p0_ p1_) Try.func80 (sr (ck 3 (en (sr (ck 7 (gc 1 (p0_.From==p1_.From) (ck 1 (gc 2 (p0_.From==p1_.From) (pA (ck 2 (gc 1 ((p0_.From==p1_.From)&&(p0_.To==p1_.To)) (ck 1 (gc 2 ((p0_.From==p1_.From)&&(p0_.To==p1_.To)) (pA (ck 2 (gc 1 (((p0_.From==p1_.From)&&(p0_.To==p1_.To))&&(p0_.Left==p1_.Left)) (ck 1 (gc 2 (((p0_.From==p1_.From)&&(p0_.To==p1_.To))&&(p0_.Left==p1_.Left)) (pA (ck 2 (gc 1 ((((p0_.From==p1_.From)&&(p0_.To==p1_.To))&&(p0_.Left==p1_.Left))&&(p0_.Right==p1_.Right)) (ck 1 (gc 2 ((((p0_.From==p1_.From)&&(p0_.To==p1_.To))&&(p0_.Left==p1_.Left))&&(p0_.Right==p1_.Right)) (pA (ck 2 (gc 1 (((((p0_.From==p1_.From)&&(p0_.To==p1_.To))&&(p0_.Left==p1_.Left))&&(p0_.Right==p1_.Right))&&(p0_.Print==p1_.Print)) (ck 1 (gc 1 (((((p0_.From==p1_.From)&&(p0_.To==p1_.To))&&(p0_.Left==p1_.Left))&&(p0_.Right==p1_.Right))&&(p0_.Print==p1_.Print)) (bx H λ r38 h183 H=>cG false (leZ) rfl (λ hg=>U7 (BO h183 hg)) (Or.inl rfl) (B6 (λ hh=>hh) (B6 (λ hh=>hh) (Em))) rfl (pA (ck 1 (en (re (by cases H;exact pr rd))))))))))))))))))))))))))))))))))
end
section
variable (p0_:Ad) (x_49:Int) (x73:Ax) (l28:(List Ax)) (x_50:Int)
def Jho:St:=⟨(0,.agg [.d (.int .i64 p0_.Modes),.d (.int .u8 p0_.Accept),.d (.sl (List.map Am p0_.Rules))])::[],[]⟩
def Jhp:St:=⟨(1,.ptr 0 0)::(39,.d (.sl (List.map Am p0_.Rules)))::(40,.d (.int .i64 ((List.length p0_.Rules:Nat):Int)))::(41,.d (.int .i64 x_49))::[],[some (.box (AK p0_))]⟩
def Jhq:St:=⟨[],[]⟩
def Jhr:St:=⟨(1,.ptr 0 0)::(4,.d (.int .i64 x_49))::(5,.ptr 1 0)::(39,.d (.sl (List.map Am p0_.Rules)))::(40,.d (.int .i64 ((List.length p0_.Rules:Nat):Int)))::(41,.d (.int .i64 x_49))::(55,.d (.sl (List.map Am l28)))::(56,.d (.int .i64 ((List.length l28:Nat):Int)))::(57,.d (.int .i64 x_50))::[],[some (.box (AK p0_)),some (.box (LW x73))]⟩
def Jhs:St:=⟨(1,.ptr 0 0)::(39,.d (.sl (List.map Am p0_.Rules)))::(40,.d (.int .i64 ((List.length p0_.Rules:Nat):Int)))::(41,.d (.int .i64 x_49))::[],[some (.box (AK p0_))]⟩
def Sy:(Unit⊕(Int×Int))->Ex->St->Prop:=xS (xX 0 2 (λ (y:Unit)=>Jhs p0_ x_49)) (xR ty Try.f71 (λ (y:(Int×Int))=>.tup [.d (.int .i64 y.1),.d (.int .i64 y.2)]))
def L6:Int->St:=(λ (x:Int)=>Jhr p0_ x_49 x73 l28 x)
def Sz:(Unit⊕(Int×Int))->Ex->St->Prop:=xS (xX 0 0 (λ (y:Unit)=>Jhq)) (xR ty Try.f71 (λ (y:(Int×Int))=>.tup [.d (.int .i64 y.1),.d (.int .i64 y.2)]))
def L7:Int->St:=(λ (x:Int)=>Jhp p0_ x)
variable {p0_ x_49 x73 l28 x_50}
theorem K6 (x:Int) (z:(Int⊕(Unit⊕(Int×Int)))) (H:Hw n p0_ x_49 x73 l28 x=some z):WP (cxk 67 0) (AA Try.f71) [1,1,1,1,0,1,0,0,1,1,0,0,1,1,1,0,0] (Av 0 (L6 p0_ x_49 x73 l28) (Sy p0_ x_49) z) (L6 p0_ x_49 x73 l28 x):=by
 revert H
 generalize x=x_50
 intro H
 refine sr (ck 1 (en (sq (cn H (λ H=>?_) (λ H=>?_)))))
 ·refine sk (qz (sq (bk 3 (sr (bx H λ x74 h188 H=>sp (Aq Am h188) (ck 3 (en (sr (ck 2 (bx H λ r40 h189 H=>ca false (U9 h189) (en (cn H (λ H=>?_) (λ H=>?_)))))))))))))
  ·exact sr (ck 3 (en (re (qR (qr (by cases H;exact ro rfl rdT))))))
  ·exact sk (qN (qz (rz (ck 2 (ae (by cases H;exact og (sg [1,4,5,39,40,41,55,56,57])))))))
 ·exact ex 2 (qx (by cases H;exact xo rfl (sg [1,39,40,41])))
theorem K7 (x:Int) (z:(Int⊕(Unit⊕(Int×Int)))) (H:Hx n p0_ x=some z):WP (cxk 67 0) (AA Try.f71) [1,1,1,1,0,1,0,0] (Av 0 (L7 p0_) (Sz) z) (L7 p0_ x):=by
 revert H
 generalize x=x_49
 intro H
 refine sr (ck 1 (en (sq (cn H (λ H=>?_) (λ H=>?_)))))
 ·refine sk (qz (sq (bk 1 (sr (ck 1 (bx H λ x73 h185 H=>sp (Aq Am h185) (ck 4 (en (sq (sr (ck 3 (bx H λ r39 h186 H=>ca false (U6 h186) (ck 1 (en (cn H (λ H=>?_) (λ H=>?_))))))))))))))))
  ·exact sr (ck 3 (en (re (qr (qR (qr (by cases H;exact ro rfl rdT)))))))
  ·refine sk (qz (sr (ck 3 (bx H λ l28 h187 H=>sp (Jbj Am 6 h187) (sp (AC Am l28) (ck 1 (en (bk 2 (bx H λ y51 h190 H=>?_)))))))))
   rcases y51 with y52|y53
   ·exact lX K6 h190 (sg [1,4,5,39,40,41,55,56,57]) rfl λ s hE41=>qH (qN (qs (hE41) (rz (ck 2 (ae (by cases H;exact og (sg [1,39,40,41])))))))
   ·exact lR K6 h190 (sg [1,4,5,39,40,41,55,56,57]) rfl λ s hE42=>qR (qR (qr (by cases H;exact ro rfl hE42)))
 ·exact ex 0 (qx (by cases H;exact xo rfl (sg [])))
theorem Va {z} (H:MD n p0_=some z):AF Try.prog 71 [.agg (AK p0_)] (.tup [.d (.int .i64 z.1),.d (.int .i64 z.2)]):=by
 refine fO 67 (Jho p0_) Try.func71 (sr (ck 3 (en (sq (sr (ck 5 (gc 2 (!(decide (p0_.Modes<1))) (pO (en (cn H (λ H=>?_) (λ H=>?_)))))))))))
 ·exact sr (ck 2 (en (re (qr (by cases H;exact pr rdT)))))
 ·refine sk (qz (sq (sr (ck 5 (gc 2 (!(p0_.Accept==0)) (ck 1 (gc 1 (!(p0_.Accept==0)) (bx H λ gd4 h184 H=>soG (λ hg=>HO (BO h184 hg)) (B6 (λ hh=>hh) (Em)) (gc 1 (!(p0_.Accept==0)) (pO (en (cn H (λ H=>?_) (λ H=>?_)))))))))))))
  ·exact sr (ck 2 (en (re (qr (by cases H;exact pr rdT)))))
  ·refine sk (qz (sq (sr (ck 2 (sp (AC Am p0_.Rules) (ck 3 (gc 1 (!(decide (((List.length p0_.Rules:Nat):Int)<1))) (sE (g:=(!(decide (((List.length p0_.Rules:Nat):Int)<1)))) (λ hg=>AC Am p0_.Rules) (gc 1 (!(decide (((List.length p0_.Rules:Nat):Int)<1))) (pO (en (cn H (λ H=>?_) (λ H=>?_)))))))))))))
   ·exact sr (ck 2 (en (re (qr (by cases H;exact pr rdT)))))
   ·refine sk (qz (sq (sr (ck 2 (sp (AC Am p0_.Rules) (ck 1 (en (bk 0 (bx H λ y54 h191 H=>?_)))))))))
    rcases y54 with y55|y56
    ·exact lX K7 h191 (sg [1,39,40,41]) rfl λ s hE43=>qH (qs (hE43) (sr (ck 2 (en (re (by cases H;exact pr rdT))))))
    ·exact lR K7 h191 (sg [1,39,40,41]) rfl λ s hE44=>qR (qr (by cases H;exact pr hE44))
end
section
variable (p0_:Ad)
def Jht:St:=⟨(0,.agg [.d (.int .i64 p0_.Modes),.d (.int .u8 p0_.Accept),.d (.sl (List.map Am p0_.Rules))])::[],[]⟩
variable {p0_}
theorem Vb {z} (H:ME n p0_=some z):AF Try.prog 56 [.agg (AK p0_)] (.d (.bool z)):=by
 exact fO 12 (Jht p0_) Try.func56 (sr (ck 2 (en (sr (ck 1 (bx H λ r41 h192 H=>ca false (Va h192) (ck 5 (en (sr (ck 3 (en (re (by cases H;exact pr rd)))))))))))))
end
section
variable (p0_:Int)
def JeO:St:=⟨(0,.d (.int .i64 p0_))::[],[]⟩
variable {p0_}
theorem IM {z} (H:Eb n p0_=some z):AF Try.prog 104 [.d (.int .i64 p0_)] (.d (.bool z)):=by
 exact fO 6 (JeO p0_) Try.func104 (sr (ck 1 (en (sr (ck 4 (en (re (by cases H;exact pr rd))))))))
end
section
variable (p0_:Int) (p1_:Int)
def Jhu:St:=⟨(0,.d (.int .i64 p0_))::(1,.d (.int .i64 p1_))::[],[]⟩
variable {p0_ p1_}
theorem PS {z} (H:GK n p0_ p1_=some z):AF Try.prog 93 [.d (.int .i64 p0_),.d (.int .i64 p1_)] (.d (.bool z)):=by
 exact fO 17 (Jhu p0_ p1_) Try.func93 (sr (ck 1 (en (sr (ck 1 (bx H λ r43 h196 H=>ca false (IM h196) (ck 2 (bx H λ r44 h197 H=>cG false (leZ) rfl (λ hg=>IM (BO h197 hg)) (Or.inl rfl) (B6 (λ hh=>hh) (Em)) rfl (gc 1 r43 (pA (ck 3 (gc 1 (!(r43&&(!r44))) (pO (ck 1 (en (re (by cases H;exact pr rd)))))))))))))))))
end
section
variable (p0_:Int)
def Jhv:St:=⟨(0,.d (.int .i64 p0_))::[],[]⟩
variable {p0_}
theorem JK {z} (H:EL n p0_=some z):AF Try.prog 98 [.d (.int .i64 p0_)] (.d (.bool z)):=by
 exact fO 6 (Jhv p0_) Try.func98 (sr (ck 1 (en (sr (ck 4 (en (re (by cases H;exact pr rd))))))))
end
section
variable (p0_:(List Int)) (p1_:Int) (i_5:Int) (j_3:Int) (i_6:Int)
def Jhw:St:=⟨(0,.d (.sl (List.map Ae p0_)))::(1,.d (.int .i64 p1_))::[],[]⟩
def Jhx:St:=⟨(0,.d (.sl (List.map Ae p0_)))::(1,.d (.int .i64 p1_))::(6,.d (.int .i64 ((List.length p0_:Nat):Int)))::(7,.d (.int .i64 i_5))::(8,.d (.int .i64 j_3))::[],[]⟩
def Jhy:St:=⟨(0,.d (.sl (List.map Ae p0_)))::(1,.d (.int .i64 p1_))::(6,.d (.int .i64 ((List.length p0_:Nat):Int)))::(7,.d (.int .i64 i_6))::[],[]⟩
def G7:Int->Ex->St->Prop:=xX 0 0 (λ (y:Int)=>Jhy p0_ p1_ y)
def DA:(Int×Int)->St:=(λ (x:(Int×Int))=>Jhx p0_ p1_ x.1 x.2)
variable {p0_ p1_ i_5 j_3 i_6}
theorem Gy (x:(Int×Int)) (z:((Int×Int)⊕Int)) (H:BQ n p0_ p1_ x.1 x.2=some z):WP (cxk 54 0) (AA Try.f83) [1,1,1,0,0,0] (Av 0 (DA p0_ p1_) (G7 p0_ p1_) z) (DA p0_ p1_ x):=by
 obtain ⟨i_5,j_3⟩:=x
 refine sq (sr (ck 3 (en (cn H (λ H=>?_) (λ H=>?_)))))
 ·refine sk (qz (bk 1 (sr (ck 7 (en (sr (ck 2 (bx H λ x76 h198 H=>sp (Aq Ae h198) (ck 2 (bx H λ r45 h199 H=>ca false (PS h199) (en (cn H (λ H=>?_) (λ H=>?_)))))))))))))
  ·exact rz (ck 3 (ae (qN (by cases H;exact og (sg [0,1,6,7,8])))))
  ·exact rz (ck 2 (ae (qN (by cases H;exact og (sg [0,1,6,7,8])))))
 ·exact ex 0 (qx (by cases H;exact xo rfl (sg [0,1,6,7])))
theorem HC {z} (H:Cc n p0_ p1_=some z):AF Try.prog 83 [.d (.sl (List.map Ae p0_)),.d (.int .i64 p1_)] (.tup [.d (.int .i64 z.1),.d (.bool z.2)]):=by
 exact fO 54 (Jhw p0_ p1_) Try.func83 (sr (ck 2 (en (sr (ck 1 (sp (AC Ae p0_) (ck 1 (en (sr (ck 3 (en (sq (bk 0 (bx H λ y57 h200 H=>lX Gy h200 (sg [0,1,6,7,8]) rfl λ s hE45=>qH (qs (hE45) (sr (ck 7 (bx H λ x77 h201 H=>sE (λ hg=>Aq Ae (BO h201 hg)) (gc 1 (decide (y57<((List.length p0_:Nat):Int))) (ck 1 (gc 2 (decide (y57<((List.length p0_:Nat):Int))) (ck 2 (bx H λ x78 h202 H=>sE (λ hg=>Aq Ae (BO h202 hg)) (gc 1 ((decide (y57<((List.length p0_:Nat):Int)))&&!(x77==p1_)) (bx H λ r46 h203 H=>cG false (leZ) rfl (λ hg=>JK (BO h203 hg)) (Or.inl rfl) (B6 (λ hh=>hh) (Em)) rfl (gc 1 ((decide (y57<((List.length p0_:Nat):Int)))&&!(x77==p1_)) (ck 1 (bx H λ r47 h204 H=>cG false (leZ) rfl (λ hg=>JK (BO h204 hg)) (Or.inl rfl) (B6 (λ hh=>hh) (Em)) rfl (pG (g:=((decide (y57<((List.length p0_:Nat):Int)))&&!(x77==p1_))) (v:=.d (.bool (r46&&r47))) (λ hg=>Gu (c:=.gv ((decide (y57<((List.length p0_:Nat):Int)))&&!(x77==p1_)) (.d (.bool r46))) (a:=.gv (((decide (y57<((List.length p0_:Nat):Int)))&&!(x77==p1_))&&r46) (.d (.bool r47))) (b:=.d (.bool false)) rfl rfl rfl ((λ hh=>hh) hg) (λ ht=>by rw [(λ hh=>hh) hg,ht];rfl) trivial) (pG (g:=decide (y57<((List.length p0_:Nat):Int))) (v:=.d (.bool ((x77==p1_)||(r46&&r47)))) (λ hg=>Gu (c:=.gv (decide (y57<((List.length p0_:Nat):Int))) (.d (.bool (x77==p1_)))) (a:=.d (.bool true)) (b:=.gv ((decide (y57<((List.length p0_:Nat):Int)))&&!(x77==p1_)) (.d (.bool (r46&&r47)))) rfl rfl rfl ((λ hh=>hh) hg) trivial (λ ht=>by rw [(λ hh=>hh) hg,ht];rfl)) (pA (ck 2 (en (re (by cases H;exact pr rdT)))))))))))))))))))))))))))))))))))
end
section
variable (p0_:AD) (p1_:Int)
def Jhz:St:=⟨(0,.dptr (LV p0_) 0)::(1,.d (.int .i64 p1_))::[],[]⟩
variable {p0_ p1_}
theorem Fe {z} (H:CV n p0_ p1_=some z):AF Try.prog 76 [.dptr (LV p0_) 0,.d (.int .i64 p1_)] (.d (.int .i64 z)):=by
 refine fO 25 (Jhz p0_ p1_) Try.func76 (sr (ck 1 (en (sr (ck 5 (bx H λ r48 h205 H=>ca false (HC h205) (ck 5 (en (sq (sr (ck 2 (en (cn H (λ H=>?_) (λ H=>?_))))))))))))))
 ·exact sr (ck 1 (en (re (qr (by cases H;exact pr rd)))))
 ·exact sk (qz (sr (ck 5 (bx H λ x79 h206 H=>sp (Aq Ae h206) (ck 2 (en (re (by cases H;exact pr rd))))))))
end
section
variable (p0_:Ad) (p1_:(List UInt8)) (x_52:Af) (r52:(List Ab)) (l31:(List AD)) (number_8:(List (Ab×Int))) (x_53:Int) (number_9:(List (Ab×Int))) (y62:(List (Ab×Int))) (w_1:Af) (x_54:Int) (w_2:Af) (x86:Ab) (w_3:Af) (x_55:Int) (w_4:Af) (w_5:Af)
def Jco:St:=⟨(0,.agg [.d (.int .i64 p0_.Modes),.d (.int .u8 p0_.Accept),.d (.sl (List.map Am p0_.Rules))])::(1,.d (.str p1_))::[],[]⟩
def Jcp:St:=⟨(4,.ptr 0 0)::[],[some (.box (Al x_52 (.osl 1 2 0 (List.length x_52.Columns)))),some (.narr 2 (List.map Ac x_52.Columns))]⟩
def Jcq:St:=⟨(2,.ptr 0 0)::(5,.ptr 1 0)::(6,.mp 2)::(33,.d (.sl (List.map Aj r52)))::(34,.d (.int .i64 ((List.length r52:Nat):Int)))::(35,.d (.int .i64 x_53))::[],[some (.box (AK p0_)),some (.box [.d (.int .i64 p0_.Modes),.d (.int .u8 p0_.Accept),.d (.sl (List.map Am p0_.Rules)),.d (.str p1_),.d (.sl (List.map Aj r52)),.osl 3 1 0 (List.length ([]:List (List A7))),.osl 4 2 0 (List.length l31),.d (.int .i64 0)]),some (.map true false (En Aj Ae number_8)),some (.arr 1 (List.map (eL Ai) ([]:List (List A7)))),some (.narr 2 (List.map Ac l31))]⟩
def Jcr:St:=⟨(2,.ptr 0 0)::(5,.ptr 1 0)::(6,.mp 2)::[],[some (.box (AK p0_)),some (.box [.d (.int .i64 p0_.Modes),.d (.int .u8 p0_.Accept),.d (.sl (List.map Am p0_.Rules)),.d (.str p1_),.d (.sl (List.map Aj r52)),.osl 3 1 0 (List.length ([]:List (List A7))),.osl 4 2 0 (List.length l31),.d (.int .i64 0)]),some (.map true false (En Aj Ae number_9)),some (.arr 1 (List.map (eL Ai) ([]:List (List A7)))),some (.narr 2 (List.map Ac l31))]⟩
def NQ:(List (Ab×Int))->Ex->St->Prop:=xX 0 0 (λ (y:(List (Ab×Int)))=>Jcr p0_ p1_ r52 l31 y)
def HW:((List (Ab×Int))×Int)->St:=(λ (x:((List (Ab×Int))×Int))=>Jcq p0_ p1_ r52 l31 x.1 x.2)
def Jcs:St:=⟨(2,.ptr 0 0)::(5,.ptr 1 0)::(6,.mp 2)::(56,.d (.sl (List.map Aj r52)))::(57,.d (.int .i64 ((List.length r52:Nat):Int)))::(58,.d (.int .i64 x_54))::[],[some (.box (AK p0_)),some (.box (G4 w_1 (.osl 3 1 0 (List.length w_1.Arcs)) (.osl 4 2 0 (List.length w_1.Columns)))),some (.map true false (En Aj Ae y62)),some (.narr 1 (List.map (nL 2 Ai) w_1.Arcs)),some (.narr 2 (List.map Ac w_1.Columns))]⟩
def Jct:St:=⟨(5,.ptr 0 0)::[],[some (.box (G4 w_2 (.osl 1 1 0 (List.length w_2.Arcs)) (.osl 2 2 0 (List.length w_2.Columns)))),some (.narr 1 (List.map (nL 2 Ai) w_2.Arcs)),some (.narr 2 (List.map Ac w_2.Columns))]⟩
def Jcu:St:=⟨(2,.ptr 0 0)::(5,.ptr 1 0)::(6,.mp 2)::(9,.d (.int .i64 x_54))::(10,.ptr 3 0)::(56,.d (.sl (List.map Aj r52)))::(57,.d (.int .i64 ((List.length r52:Nat):Int)))::(58,.d (.int .i64 x_54))::(65,.d (.int .i64 ((List.length p0_.Rules:Nat):Int)))::(66,.d (.int .i64 x_55))::[],[some (.box (AK p0_)),some (.box (G4 w_3 (.osl 4 1 0 (List.length w_3.Arcs)) (.osl 5 2 0 (List.length w_3.Columns)))),some (.map true false (En Aj Ae y62)),some (.box (I9 x86)),some (.narr 1 (List.map (nL 2 Ai) w_3.Arcs)),some (.narr 2 (List.map Ac w_3.Columns))]⟩
def Jcv:St:=⟨(2,.ptr 0 0)::(5,.ptr 1 0)::(6,.mp 2)::(56,.d (.sl (List.map Aj r52)))::(57,.d (.int .i64 ((List.length r52:Nat):Int)))::(58,.d (.int .i64 x_54))::[],[some (.box (AK p0_)),some (.box (G4 w_4 (.osl 3 1 0 (List.length w_4.Arcs)) (.osl 4 2 0 (List.length w_4.Columns)))),some (.map true false (En Aj Ae y62)),some (.narr 1 (List.map (nL 2 Ai) w_4.Arcs)),some (.narr 2 (List.map Ac w_4.Columns))]⟩
def Jcw:St:=⟨(2,.ptr 0 0)::(5,.ptr 1 0)::(6,.mp 2)::(9,.d (.int .i64 x_54))::(10,.ptr 3 0)::(56,.d (.sl (List.map Aj r52)))::(57,.d (.int .i64 ((List.length r52:Nat):Int)))::(58,.d (.int .i64 x_54))::(65,.d (.int .i64 ((List.length p0_.Rules:Nat):Int)))::(66,.d (.int .i64 x_55))::[],[some (.box (AK p0_)),some (.box (G4 w_5 (.osl 4 1 0 (List.length w_5.Arcs)) (.osl 5 2 0 (List.length w_5.Columns)))),some (.map true false (En Aj Ae y62)),some (.box (I9 x86)),some (.narr 1 (List.map (nL 2 Ai) w_5.Arcs)),some (.narr 2 (List.map Ac w_5.Columns))]⟩
def NR:Af->Ex->St->Prop:=xX 0 4 (λ (y:Af)=>Jcv p0_ r52 y62 x_54 y)
def HX:(Af×Int)->St:=(λ (x:(Af×Int))=>Jcu p0_ r52 y62 x_54 x86 x.1 x.2)
def NS:Af->Ex->St->Prop:=xX 0 2 (λ (y:Af)=>Jct y)
def HY:(Af×Int)->St:=(λ (x:(Af×Int))=>Jcs p0_ r52 y62 x.1 x.2)
variable {p0_ p1_ x_52 r52 l31 number_8 x_53 number_9 y62 w_1 x_54 w_2 x86 w_3 x_55 w_4 w_5}
theorem MZ (x:((List (Ab×Int))×Int)) (z:(((List (Ab×Int))×Int)⊕(List (Ab×Int)))) (H:Er n p0_ p1_ r52 l31 x.1 x.2=some z):WP (cxk 100 0) (AA Try.f57) [1,1,1,0,1,0,0] (Av 0 (HW p0_ p1_ r52 l31) (NQ p0_ p1_ r52 l31) z) (HW p0_ p1_ r52 l31 x):=by
 obtain ⟨number_8,x_53⟩:=x
 refine sr (ck 1 (en (sq (cn H (λ H=>?_) (λ H=>?_)))))
 ·exact sk (qz (sq (bk 1 (sr (ck 1 (bx H λ x85 h221 H=>sp (Aq Aj h221) (ck 4 (en (rz (ck 3 (sp (Ra (enc:=Ae) (encK:=Aj) (k:=2) (e1:=λ x=>.int .i64 x) (m:=number_8) (l:=[.d (.int .i64 x85.Mode),.d (.int .i64 x85.Last),.d (.int .u8 x85.Need)]) (key:=x85) (y:=x_53) (v:=.d (.int .i64 x_53)) (vz:=[.int .i64 0]) So) (ae (qN (qz (rz (ck 2 (ae (by cases H;exact og (gP [2,5,6,33,34,35] [0,1,2,3,4] (po1 (po1 (po1 (po1 (pn1 Ac l31 (Pl.z)))))))))))))))))))))))))
 ·exact ex 0 (qx (by cases H;exact xo rfl (gP [2,5,6] [0,1,2,3,4] (po1 (po1 (po1 (po1 (pn1 Ac l31 (Pl.z)))))))))
theorem M0 (x:(Af×Int)) (z:((Af×Int)⊕Af)) (H:Es n p0_ r52 y62 x_54 x86 x.1 x.2=some z):WP (cxk 100 0) (AA Try.f57) [1,1,1,1,1,0,1,0,0,1,1,0,0,1,1,0,0] (Av 0 (HX p0_ r52 y62 x_54 x86) (NR p0_ r52 y62 x_54) z) (HX p0_ r52 y62 x_54 x86 x):=by
 obtain ⟨w_3,x_55⟩:=x
 refine sr (ck 1 (en (sq (cn H (λ H=>?_) (λ H=>?_)))))
 ·refine sk (qz (sj (λ (x:Af)=>Jcw p0_ r52 y62 x_54 x86 x_55 x) (λ (x:Af)=>Dr n x_55 x) z ?_ (λ hFTr_newWriter_J1=>?_)))
  ·intro w_5 H
   exact rz (ck 2 (ae (by cases H;exact og (gP [2,5,6,9,10,56,57,58,65,66] [0,1,2,3,4,5] (po1 (po1 (po1 (po1 (pn1 (nL 2 Ai) w_5.Arcs (pn1 Ac w_5.Columns (Pl.z)))))))))))
  refine bk 5 (sr (ck 2 (en (sr (ck 3 (bx H λ r53 h225 H=>ca false (LY h225) (ck 6 (en (sr (ck 1 (en (cn H (λ H=>?_) (λ H=>?_)))))))))))))
  ·exact bx H λ x87 h226 H=>rg (tr (so1 (encN:=(nL 2 Ai)) 4 1 h226) (sno (encN:=(nL 2 Ai)) (enc:=Ai) h226 [.own 2 (List.map Ai x87)] x87 1 4 0 2)) (ck 10 (sp (Az 4 1 h226) (sp (Ch (encN:=(nL 2 Ai)) (row:=[.osl 7 2 0 (List.length x87)]) (k:=4) (sz:=1) (off:=0) (t:=ty 137) (v:=.osl 7 2 0 (List.length x87)) h226) (ck 3 (sp (Sk (enc:=Ae) (encK:=Aj) (k:=2) (e1:=λ x=>.int .i64 x) (m:=y62) (l:=[.d (.int .i64 r53.1.Mode),.d (.int .i64 r53.1.Last),.d (.int .u8 r53.1.Need)]) (key:=r53.1) (z:=0) (vz:=[.int .i64 0]) So false) (ck 2 (bx H λ l33 h227 H=>sp (B3 Ai 7 2 h227) (sp (Az 4 1 h226) (sp (LQ (encN:=(nL 2 Ai)) (row:=[.osl 7 2 0 (List.length x87)]) (row':=[.osl 9 2 0 (List.length l33)]) (k:=4) (sz:=1) (off:=0) (t:=ty 137) (v:=.osl 9 2 0 (List.length l33)) h226) (ae (qN (qs (tr (tr (tr (tr (tr (sni (encN:=(nL 2 Ai)) (xs:=w_3.Arcs) (n:=x_54) (enc:=Ai) [.osl 9 2 0 (List.length l33)] l33 1 4 0 9 2) (scl (encN:=(nL 2 Ai)) (xss:=w_3.Arcs) x_54 [.own 2 (List.map Ai l33)] 1 4 l33)) (sn 80 4 1 (lsS w_3.Arcs (Int.toNat x_54) l33))) (sn 85 4 1 (lsS w_3.Arcs (Int.toNat x_54) l33))) (snc 1 5 4 1 (lsS w_3.Arcs (Int.toNat x_54) l33))) (gP [2,5,6,9,10,56,57,58,65,66] [0,1,2,3,4,5] (po1 (po1 (po1 (po1 (pn1 (nL 2 Ai) (List.set w_3.Arcs (Int.toNat x_54) l33) (pn1 Ac w_3.Columns (Pl.z))))))))) (hFTr_newWriter_J1 ({ T:=w_3.T,S:=w_3.S,States:=w_3.States,Arcs:=List.set w_3.Arcs (Int.toNat x_54) l33,Columns:=w_3.Columns,Last:=w_3.Last }:Af) H)))))))))))))
  ·exact sk (qN (qs (gP [2,5,6,9,10,56,57,58,65,66] [0,1,2,3,4,5] (po1 (po1 (po1 (po1 (pn1 (nL 2 Ai) w_3.Arcs (pn1 Ac w_3.Columns (Pl.z)))))))) (hFTr_newWriter_J1 w_3 H)))
 ·exact ex 4 (qx (by cases H;exact xo rfl (gP [2,5,6,56,57,58] [0,1,2,4,5] (po1 (po1 (po1 (pn1 (nL 2 Ai) w_3.Arcs (pn1 Ac w_3.Columns (Pl.z)))))))))
theorem M3 (x:(Af×Int)) (z:((Af×Int)⊕Af)) (H:Et n p0_ r52 y62 x.1 x.2=some z):WP (cxk 100 0) (AA Try.f57) [1,1,1,1,1,0,1,0,0] (Av 0 (HY p0_ r52 y62) (NS) z) (HY p0_ r52 y62 x):=by
 obtain ⟨w_1,x_54⟩:=x
 refine sr (ck 1 (en (sq (cn H (λ H=>?_) (λ H=>?_)))))
 ·exact sk (qz (sq (bk 3 (sr (ck 1 (bx H λ x86 h224 H=>sp (Aq Aj h224) (ck 4 (en (sr (ck 2 (sp (AC Am p0_.Rules) (ck 1 (en (bk 4 (bx H λ y63 h228 H=>lX M0 h228 (gP [2,5,6,9,10,56,57,58,65,66] [0,1,2,5,3,4] (po1 (po1 (po1 (po1 (pn1 (nL 2 Ai) w_1.Arcs (pn1 Ac w_1.Columns (Pl.z)))))))) rfl λ s hE50=>qH (qN (qs (hE50) (rz (ck 2 (ae (by cases H;exact og (gP [2,5,6,56,57,58] [0,1,2,3,4] (po1 (po1 (po1 (pn1 (nL 2 Ai) y63.Arcs (pn1 Ac y63.Columns (Pl.z))))))))))))))))))))))))))))
 ·exact ex 2 (qx (by cases H;exact xo rfl (gP [5] [1,3,4] (po1 (pn1 (nL 2 Ai) w_1.Arcs (pn1 Ac w_1.Columns (Pl.z)))))))
theorem PT {z} (H:GL n p0_ p1_=some z):BC Try.prog 57 [.agg (AK p0_),.d (.str p1_)] [] 0 (.ptr 0 0) [some (.box (Al z (.osl 1 2 0 (List.length z.Columns)))),some (.narr 2 (List.map Ac z.Columns))]:=by
 exact fL 100 0 (Jco p0_ p1_) Try.func57 (sr (ck 2 (en (sr (ck 3 (bx H λ r52 h219 H=>ca false (Nm h219) (ck 3 (bx H λ l31 h220 H=>sp (Sm 2 (ez:=[.nil,.nil]) h220) (ck 3 (en (sq (rg (tr (tr (UZ (encN:=Ac) (sz:=2) (z:=[.nil,.nil]) (n:=(Au .i64 ((List.length p1_:Nat):Int) 1)) 1 (My h220) (by kernel_rfl) (by kernel_rfl)) (sn 21 1 2 (GI h220))) (snc 2 6 1 2 (GI h220))) (ck 4 (sp (AC Aj r52) (ck 2 (en (sq (sr (ck 4 (sp (AC Aj r52) (ck 1 (en (bk 0 (bx H λ y62 h222 H=>lX MZ h222 (tr (BI 2 5 1 (by kernel_rfl)) (gP [2,5,6,33,34,35] [0,2,3,4,1] (po1 (po1 (po1 (po1 (pn1 Ac l31 (Pl.z)))))))) rfl λ s hE49=>qH (qs (hE49) (sr (ck 5 (sp (AC Aj r52) (bx H λ l32 h223 H=>sp (Sm 1 (ez:=[.nil]) h223) (ck 3 (en (sq (sq (rg (tr (tr (UZ (encN:=(nL 2 Ai)) (sz:=1) (z:=[.nil]) (n:=((List.length r52:Nat):Int)) 5 (My h223) (by kernel_rfl) (by kernel_rfl)) (sn 50 5 1 (GI h223))) (snc 1 5 5 1 (GI h223))) (ck 4 (sp (AC Aj r52) (ck 1 (en (bk 2 (bx H λ y64 h229 H=>lX M3 h229 (gP [2,5,6,56,57,58] [0,1,2,5,4] (po1 (po1 (po1 (pn1 (nL 2 Ai) l32 (pn1 Ac l31 (Pl.z))))))) rfl λ s hE51=>qH (qs (hE51) (sr (ck 2 (en (re (by cases H;exact pL (rl (s':=Jcp z) (tr (OD (encN:=(nL 2 Ai)) (encD:=(eL Ai)) (xss:=z.Arcs) (sz:=1) 0 5 1 (by kernel_rfl) (by kernel_rfl) (λ _=>rfl) (λ _=>rfl)) (gP [4] [0,2] (po1 (pn1 Ac z.Columns (Pl.z))))))))))))))))))))))))))))))))))))))))))))))))))))
end
section
variable (p0_:Int) (p1_:Int) (b2_:Af) (o0_:(List (List Bool))) (x_56:Af) (x_57:(List (List Bool)))
def Jcx:St:=⟨(0,.d (.int .i64 p0_))::(1,.d (.int .i64 p1_))::(2,.eptr 0 1 0 0)::(3,.ptr 1 0)::[],[some (.narr 1 (List.map (nL 1 eB) o0_)),some (.box [.ptr 2 0]),some (.box (Al b2_ (.osl 3 2 0 (List.length b2_.Columns)))),some (.narr 2 (List.map Ac b2_.Columns))]⟩
def WL:St:=⟨[],[some (.narr 1 (List.map (nL 1 eB) x_57)),some (.box [.ptr 2 0]),some (.box (Al x_56 (.osl 3 2 0 (List.length x_56.Columns)))),some (.narr 2 (List.map Ac x_56.Columns))]⟩
variable {p0_ p1_ b2_ o0_ x_56 x_57}
theorem F8 {z} (H:CN n p0_ p1_ b2_ o0_=some z):BC Try.prog 72 [.d (.int .i64 p0_),.d (.int .i64 p1_),.eptr 0 1 0 0,.ptr 1 0] [some (.narr 1 (List.map (nL 1 eB) o0_)),some (.box [.ptr 2 0]),some (.box (Al b2_ (.osl 3 2 0 (List.length b2_.Columns)))),some (.narr 2 (List.map Ac b2_.Columns))] 4 (.tup []) [some (.narr 1 (List.map (nL 1 eB) z.2)),some (.box [.ptr 2 0]),some (.box (Al z.1 (.osl 3 2 0 (List.length z.1.Columns)))),some (.narr 2 (List.map Ac z.1.Columns))]:=by
 refine fL 37 4 (Jcx p0_ p1_ b2_ o0_) Try.func72 (sq (bx H λ x88 h230 H=>rg (tr (so1 (encN:=(nL 1 eB)) 0 1 h230) (sno (encN:=(nL 1 eB)) (enc:=eB) h230 [.own 1 (List.map eB x88)] x88 1 0 0 1)) (ck 2 (bx H λ gd5 h231 H=>sp (U0 0 1 0 5 (j:=0) h231) (sp (Ch (encN:=(nL 1 eB)) (row:=[.osl 4 1 0 (List.length x88)]) (k:=0) (sz:=1) (off:=0) (t:=ty 108) (v:=.osl 4 1 0 (List.length x88)) h230) (ck 1 (en (sr (ck 2 (bx H λ x89 h232 H=>sp (Az 4 1 h232) (sp (CK eB 4 0 (ty 4) h232) (ck 1 (en (cn H (λ H=>?_) (λ H=>?_)))))))))))))))
 ·exact sr (ck 2 (bx H λ x90 h233 H=>sp (Az 4 1 h233) (bx H λ l34 h234 H=>stA eB 4 0 (ty 4) h233 h234 (en (bx H λ x91 h235 H=>rg (tr (tr (tr (tr (tr (tr (tr (tr (sn 10 4 1 (Bf h234)) (sn 6 4 1 (Bf h234))) (sn 11 4 1 (Bf h234))) (sn 16 4 1 (Bf h234))) (snr (encN:=(nL 1 eB)) (xs:=o0_) (n:=A8 p0_ 5) [.osl 4 1 0 (List.length x88)] 1 0 0 4 1 (Bf h234))) (sni (encN:=(nL 1 eB)) (xs:=o0_) (n:=A8 p0_ 5) (enc:=eB) [.osl 4 1 0 (List.length l34)] l34 1 0 0 4 1)) (scl (encN:=(nL 1 eB)) (xss:=o0_) (A8 p0_ 5) [.own 1 (List.map eB l34)] 1 0 l34)) (so1 (encN:=Ac) 3 2 h235)) (sno (encN:=Ac) (enc:=Ae) h235 [.own 1 (List.map Ae x91.States),.own 1 (List.map Ae x91.Costs)] x91.States 2 3 0 1)) (ck 10 (sp (Az 3 2 h235) (ck 1 (sp (Ch (encN:=Ac) (row:=[.osl 5 1 0 (List.length x91.States),.own 1 (List.map Ae x91.Costs)]) (k:=3) (sz:=2) (off:=0) (t:=ty 32) (v:=.osl 5 1 0 (List.length x91.States)) h235) (ck 2 (bx H λ l35 h236 H=>sp (B3 Ae 5 1 h236) (sp (Az 3 2 h235) (ck 1 (sp (LQ (encN:=Ac) (row:=[.osl 5 1 0 (List.length x91.States),.own 1 (List.map Ae x91.Costs)]) (row':=[.osl 7 1 0 (List.length l35),.own 1 (List.map Ae x91.Costs)]) (k:=3) (sz:=2) (off:=0) (t:=ty 32) (v:=.osl 7 1 0 (List.length l35)) h235) (ae (by cases H;exact pL' (rl (s':=WL ({ T:=b2_.T,S:=b2_.S,States:=b2_.States,Arcs:=b2_.Arcs,Columns:=List.set b2_.Columns (Int.toNat p0_) ({ States:=l35,Costs:=x91.Costs }:AD),Last:=b2_.Last }:Af) (List.set o0_ (Int.toNat (A8 p0_ 5)) l34)) (tr (tr (tr (tr (tr (sni (encN:=Ac) (xs:=b2_.Columns) (n:=p0_) (enc:=Ae) [.osl 7 1 0 (List.length l35),.own 1 (List.map Ae x91.Costs)] l35 2 3 0 7 1) (scl (encN:=Ac) (xss:=b2_.Columns) p0_ [.own 1 (List.map Ae l35),.own 1 (List.map Ae x91.Costs)] 2 3 ({ States:=l35,Costs:=x91.Costs }:AD))) (sn 22 3 2 (lsS b2_.Columns (Int.toNat p0_) ({ States:=l35,Costs:=x91.Costs }:AD)))) (sn 27 3 2 (lsS b2_.Columns (Int.toNat p0_) ({ States:=l35,Costs:=x91.Costs }:AD)))) (snc 2 6 3 2 (lsS b2_.Columns (Int.toNat p0_) ({ States:=l35,Costs:=x91.Costs }:AD)))) (gP [] [0,1,2,3] (pn1 (nL 1 eB) (List.set o0_ (Int.toNat (A8 p0_ 5)) l34) (po1 (po1 (pn1 Ac (List.set b2_.Columns (Int.toNat p0_) ({ States:=l35,Costs:=x91.Costs }:AD)) (Pl.z))))))))))))))))))))))))
 ·exact sk (by cases H;exact pL' (rl (s':=WL b2_ (List.set o0_ (Int.toNat (A8 p0_ 5)) x88)) (tr (tr (sni (encN:=(nL 1 eB)) (xs:=o0_) (n:=A8 p0_ 5) (enc:=eB) [.osl 4 1 0 (List.length x88)] x88 1 0 0 4 1) (scl (encN:=(nL 1 eB)) (xss:=o0_) (A8 p0_ 5) [.own 1 (List.map eB x88)] 1 0 x88)) (gP [] [0,1,2,3] (pn1 (nL 1 eB) (List.set o0_ (Int.toNat (A8 p0_ 5)) x88) (po1 (po1 (pn1 Ac b2_.Columns (Pl.z)))))))))
end
section
variable (p1_:Int) (p2_:Int) (b0_:Af) (x_58:Int) (x_59:Bool)
def Jcy:St:=⟨(0,.ptr 0 0)::(1,.d (.int .i64 p1_))::(2,.d (.int .i64 p2_))::[],[some (.box (Al b0_ (.osl 1 2 0 (List.length b0_.Columns)))),some (.narr 2 (List.map Ac b0_.Columns))]⟩
def Jcz:St:=⟨(6,.d (.int .i64 x_58))::(7,.d (.bool x_59))::[],[some (.box (Al b0_ (.osl 1 2 0 (List.length b0_.Columns)))),some (.narr 2 (List.map Ac b0_.Columns))]⟩
variable {p1_ p2_ b0_ x_58 x_59}
theorem DZ {z} (H:B9 n p1_ p2_ b0_=some z):BC Try.prog 73 [.ptr 0 0,.d (.int .i64 p1_),.d (.int .i64 p2_)] [some (.box (Al b0_ (.osl 1 2 0 (List.length b0_.Columns)))),some (.narr 2 (List.map Ac b0_.Columns))] 2 (.tup [.d (.int .i64 z.1),.d (.bool z.2)]) [some (.box (Al b0_ (.osl 1 2 0 (List.length b0_.Columns)))),some (.narr 2 (List.map Ac b0_.Columns))]:=by
 exact fL 30 2 (Jcy p1_ p2_ b0_) Try.func73 (sr (ck 2 (en (sr (ck 6 (bx H λ x92 h237 H=>sp (Aq Am h237) (ck 3 (en (sr (ck 9 (bx H λ s8 h238 H=>sp (GH h238) (ck 1 (bx H λ r54 h239 H=>ca true (JI h239) (ck 2 (en (re (by cases H;exact pL (rl (s':=Jcz b0_ (Au .i64 p1_ ((List.length x92.Print:Nat):Int)) r54) (gP [6,7] [0,1] (po1 (pn1 Ac b0_.Columns (Pl.z))))))))))))))))))))))
end
theorem JcA {n:Nat} {o0_:List Int} {z:List Int} (H:YO n o0_=some z):BC Try.prog 74 [.osl 0 1 0 (List.length o0_)] [some (.arr 1 (List.map Ae o0_))] 1 (.tup []) [some (.arr 1 (List.map Ae z))]:=ZI Try.laysSort ⟨_,_,Try.func74,rfl,rfl⟩ H
section
variable (b0_:Af) (x_60:Af) (known_5:(List (List Bool))) (x_61:Int) (known_6:(List (List Bool))) (r55:(Af×(List (List Bool)))) (w_6:Af) (known_7:(List (List Bool))) (x_62:Int) (x_63:Af) (class_1:Int) (w_7:Af) (known_8:(List (List Bool))) (i_7:Int) (w_8:Af) (known_9:(List (List Bool))) (x96:Int) (w_9:Af) (x97:(List A7)) (w_10:Af) (known_10:(List (List Bool))) (x_64:Int) (w_11:Af) (known_11:(List (List Bool))) (w_12:Af) (known_12:(List (List Bool)))
def JcB:St:=⟨(0,.ptr 0 0)::[],[some (.box (Al b0_ (.osl 1 2 0 (List.length b0_.Columns)))),some (.narr 2 (List.map Ac b0_.Columns))]⟩
def JcC:St:=⟨[],[some (.box (Al x_60 (.osl 1 2 0 (List.length x_60.Columns)))),some (.narr 2 (List.map Ac x_60.Columns))]⟩
def JcD:St:=⟨(1,.ptr 2 0)::(2,.eptr 3 1 0 0)::(13,.d (.int .i64 x_61))::[],[some (.box (Al b0_ (.osl 1 2 0 (List.length b0_.Columns)))),some (.narr 2 (List.map Ac b0_.Columns)),some (.box [.ptr 0 0]),some (.narr 1 (List.map (nL 1 eB) known_5))]⟩
def JcE:St:=⟨(1,.ptr 2 0)::(2,.eptr 3 1 0 0)::[],[some (.box (Al b0_ (.osl 1 2 0 (List.length b0_.Columns)))),some (.narr 2 (List.map Ac b0_.Columns)),some (.box [.ptr 0 0]),some (.narr 1 (List.map (nL 1 eB) known_6))]⟩
def Lk:(List (List Bool))->Ex->St->Prop:=xX 2 0 (λ (y:(List (List Bool)))=>JcE b0_ y)
def F9:((List (List Bool))×Int)->St:=(λ (x:((List (List Bool))×Int))=>JcD b0_ x.1 x.2)
def JcF:St:=⟨(1,.ptr 2 0)::(2,.eptr 3 1 0 0)::(4,.clo 72 [.eptr 3 1 0 0,.ptr 2 0])::(32,.d (.int .i64 ((List.length r55.1.Columns:Nat):Int)))::(33,.d (.int .i64 x_62))::[],[some (.box (Al w_6 (.osl 1 2 0 (List.length w_6.Columns)))),some (.narr 2 (List.map Ac w_6.Columns)),some (.box [.ptr 0 0]),some (.narr 1 (List.map (nL 1 eB) known_7))]⟩
def JcG:St:=⟨[],[some (.box (Al x_63 (.osl 1 2 0 (List.length x_63.Columns)))),some (.narr 2 (List.map Ac x_63.Columns))]⟩
def JcH:St:=⟨(1,.ptr 2 0)::(2,.eptr 3 1 0 0)::(4,.clo 72 [.eptr 3 1 0 0,.ptr 2 0])::(5,.d (.int .i64 x_62))::(6,.d (.int .i64 class_1))::(32,.d (.int .i64 ((List.length r55.1.Columns:Nat):Int)))::(33,.d (.int .i64 x_62))::[],[some (.box (Al w_6 (.osl 1 2 0 (List.length w_6.Columns)))),some (.narr 2 (List.map Ac w_6.Columns)),some (.box [.ptr 0 0]),some (.narr 1 (List.map (nL 1 eB) known_7))]⟩
def JcI:St:=⟨(1,.ptr 2 0)::(2,.eptr 3 1 0 0)::(4,.clo 72 [.eptr 3 1 0 0,.ptr 2 0])::(5,.d (.int .i64 x_62))::(6,.d (.int .i64 class_1))::(7,.d (.int .i64 i_7))::(32,.d (.int .i64 ((List.length r55.1.Columns:Nat):Int)))::(33,.d (.int .i64 x_62))::[],[some (.box (Al w_7 (.osl 1 2 0 (List.length w_7.Columns)))),some (.narr 2 (List.map Ac w_7.Columns)),some (.box [.ptr 0 0]),some (.narr 1 (List.map (nL 1 eB) known_8))]⟩
def JcJ:St:=⟨(1,.ptr 2 0)::(2,.eptr 3 1 0 0)::(4,.clo 72 [.eptr 3 1 0 0,.ptr 2 0])::(5,.d (.int .i64 x_62))::(32,.d (.int .i64 ((List.length r55.1.Columns:Nat):Int)))::(33,.d (.int .i64 x_62))::[],[some (.box (Al w_8 (.osl 1 2 0 (List.length w_8.Columns)))),some (.narr 2 (List.map Ac w_8.Columns)),some (.box [.ptr 0 0]),some (.narr 1 (List.map (nL 1 eB) known_9))]⟩
def ZR:St:=⟨(1,.ptr 2 0)::(2,.eptr 3 1 0 0)::(4,.clo 72 [.eptr 3 1 0 0,.ptr 2 0])::(5,.d (.int .i64 x_62))::(6,.d (.int .i64 class_1))::(7,.d (.int .i64 i_7))::(8,.d (.int .i64 x96))::(32,.d (.int .i64 ((List.length r55.1.Columns:Nat):Int)))::(33,.d (.int .i64 x_62))::[],[some (.box (Al w_9 (.osl 1 2 0 (List.length w_9.Columns)))),some (.narr 2 (List.map Ac w_9.Columns)),some (.box [.ptr 0 0]),some (.narr 1 (List.map (nL 1 eB) known_8))]⟩
def ZS:St:=⟨(1,.ptr 2 0)::(2,.eptr 3 1 0 0)::(4,.clo 72 [.eptr 3 1 0 0,.ptr 2 0])::(5,.d (.int .i64 x_62))::(6,.d (.int .i64 class_1))::(7,.d (.int .i64 i_7))::(32,.d (.int .i64 ((List.length r55.1.Columns:Nat):Int)))::(33,.d (.int .i64 x_62))::(96,.d (.sl (List.map Ai x97)))::(97,.d (.int .i64 ((List.length x97:Nat):Int)))::(98,.d (.int .i64 x_64))::[],[some (.box (Al w_10 (.osl 1 2 0 (List.length w_10.Columns)))),some (.narr 2 (List.map Ac w_10.Columns)),some (.box [.ptr 0 0]),some (.narr 1 (List.map (nL 1 eB) known_10))]⟩
def ZT:St:=⟨(1,.ptr 2 0)::(2,.eptr 3 1 0 0)::(4,.clo 72 [.eptr 3 1 0 0,.ptr 2 0])::(5,.d (.int .i64 x_62))::(6,.d (.int .i64 class_1))::(7,.d (.int .i64 i_7))::(32,.d (.int .i64 ((List.length r55.1.Columns:Nat):Int)))::(33,.d (.int .i64 x_62))::[],[some (.box (Al w_11 (.osl 1 2 0 (List.length w_11.Columns)))),some (.narr 2 (List.map Ac w_11.Columns)),some (.box [.ptr 0 0]),some (.narr 1 (List.map (nL 1 eB) known_11))]⟩
def ZU:St:=⟨(1,.ptr 2 0)::(2,.eptr 3 1 0 0)::(4,.clo 72 [.eptr 3 1 0 0,.ptr 2 0])::(5,.d (.int .i64 x_62))::(6,.d (.int .i64 class_1))::(7,.d (.int .i64 i_7))::(32,.d (.int .i64 ((List.length r55.1.Columns:Nat):Int)))::(33,.d (.int .i64 x_62))::(96,.d (.sl (List.map Ai x97)))::(97,.d (.int .i64 ((List.length x97:Nat):Int)))::(98,.d (.int .i64 x_64))::[],[some (.box (Al w_12 (.osl 1 2 0 (List.length w_12.Columns)))),some (.narr 2 (List.map Ac w_12.Columns)),some (.box [.ptr 0 0]),some (.narr 1 (List.map (nL 1 eB) known_12))]⟩
def Ll:(Af×(List (List Bool)))->Ex->St->Prop:=xX 2 6 (λ (y:(Af×(List (List Bool))))=>ZT r55 x_62 class_1 i_7 y.1 y.2)
def Ga:(Af×(List (List Bool))×Int)->St:=(λ (x:(Af×(List (List Bool))×Int))=>ZS r55 x_62 class_1 i_7 x97 x.1 x.2.1 x.2.2)
def Lm:(Af×(List (List Bool)))->Ex->St->Prop:=xX 2 4 (λ (y:(Af×(List (List Bool))))=>JcJ r55 x_62 y.1 y.2)
def Gb:(Af×(List (List Bool))×Int)->St:=(λ (x:(Af×(List (List Bool))×Int))=>JcI r55 x_62 class_1 x.1 x.2.1 x.2.2)
def Ln:Af->Ex->St->Prop:=xX 2 2 (λ (y:Af)=>JcG y)
def Gc:(Af×(List (List Bool))×Int)->St:=(λ (x:(Af×(List (List Bool))×Int))=>JcF r55 x.1 x.2.1 x.2.2)
variable {b0_ x_60 known_5 x_61 known_6 r55 w_6 known_7 x_62 x_63 class_1 w_7 known_8 i_7 w_8 known_9 x96 w_9 x97 w_10 known_10 x_64 w_11 known_11 w_12 known_12}
theorem Kk (x:((List (List Bool))×Int)) (z:(((List (List Bool))×Int)⊕(List (List Bool)))) (H:De n b0_ x.1 x.2=some z):WP (cxk 131 2) (AA Try.f58) [1,1,0,1,0,0] (Av 2 (F9 b0_) (Lk b0_) z) (F9 b0_ x):=by
 obtain ⟨known_5,x_61⟩:=x
 refine sr (ck 1 (en (sq (cn H (λ H=>?_) (λ H=>?_)))))
 ·exact sk (qz (sq (bk 1 (sr (ck 2 (en (bx H λ x93 h240 H=>rg (so1 (encN:=(nL 1 eB)) 3 1 h240) (ck 5 (sp (AC Aj b0_.States) (bx H λ l36 h241 H=>sp (Uc eB 1 h241) (bx H λ gd6 h242 H=>sp (U0 3 1 0 5 (j:=0) h242) (sp (LQ (encN:=(nL 1 eB)) (row:=[.own 1 (List.map eB x93)]) (row':=[.osl 4 1 0 (List.length l36)]) (k:=3) (sz:=1) (off:=0) (t:=ty 108) (v:=.osl 4 1 0 (List.length l36)) h240) (ae (qN (qz (rg (tr (sni (encN:=(nL 1 eB)) (xs:=known_5) (n:=x_61) (enc:=eB) [.osl 4 1 0 (List.length l36)] l36 1 3 0 4 1) (scl (encN:=(nL 1 eB)) (xss:=known_5) x_61 [.own 1 (List.map eB l36)] 1 3 l36)) (ck 2 (ae (by cases H;exact og (gP [1,2,13] [0,1,2,3] (po1 (pn1 Ac b0_.Columns (po1 (pn1 (nL 1 eB) (List.set known_5 (Int.toNat x_61) l36) (Pl.z)))))))))))))))))))))))))
 ·exact ex 0 (qx (by cases H;exact xo rfl (gP [1,2] [0,1,2,3] (po1 (pn1 Ac b0_.Columns (po1 (pn1 (nL 1 eB) known_5 (Pl.z))))))))
theorem Kl (x:(Af×(List (List Bool))×Int)) (z:((Af×(List (List Bool))×Int)⊕(Af×(List (List Bool))))) (H:Df n r55 x_62 class_1 i_7 x97 x.1 x.2.1 x.2.2=some z):WP (cxk 131 2) (AA Try.f58) [1,1,1,1,1,1,0,0,1,1,0,0,1,1,1,0,1,0,0,1,0,0,1,1,1,0,0] (Av 2 (Ga r55 x_62 class_1 i_7 x97) (Ll r55 x_62 class_1 i_7) z) (Ga r55 x_62 class_1 i_7 x97 x):=by
 obtain ⟨w_10,known_10,x_64⟩:=x
 refine sr (ck 1 (en (sq (cn H (λ H=>?_) (λ H=>?_)))))
 ·refine sk (qz (sj (λ (x:(Af×(List (List Bool))))=>ZU r55 x_62 class_1 i_7 x97 x_64 x.1 x.2) (λ (x:(Af×(List (List Bool))))=>Cu n x_64 x.1 x.2) z ?_ (λ hFTr_writer_reach_J3=>?_)))
  ·rintro ⟨w_12,known_12⟩ H
   exact rz (ck 2 (ae (by cases H;exact og (gP [1,2,4,5,6,7,32,33,96,97,98] [0,1,2,3] (po1 (pn1 Ac w_12.Columns (po1 (pn1 (nL 1 eB) known_12 (Pl.z)))))))))
  refine bk 7 (sr (bx H λ x98 h249 H=>sp (Aq Ai h249) (ck 3 (en (sr (ck 4 (bx H λ r56 h250 H=>ltP [0,1] (DZ h250) (po1 (pn1 Ac w_10.Columns (Pl.z))) (tb (f:=Dy (Ct [0,1] 5 2)) [some (.box (Al w_10 (.osl 1 2 0 (List.length w_10.Columns)))),some (.narr 2 (List.map Ac w_10.Columns)),some (.box [.ptr 0 0]),some (.narr 1 (List.map (nL 1 eB) known_10)),some (.box [.d (.int .i64 x98.Rule),.d (.int .i64 x98.To)])] (po1 (pn1 Ac w_10.Columns (po1 (po1 (po1 (Pl.z)))))) (ck 5 (en (sr (ck 1 (en (cn H (λ H=>?_) (λ H=>?_)))))))))))))))
  ·exact rz (ck 4 (bx H λ r57 h251 H=>xcP (xok _ _) [3,2,0,1] (F8 h251) (pn1 (nL 1 eB) known_10 (po1 (po1 (pn1 Ac w_10.Columns (Pl.z))))) (tb (f:=Dy (Ct [3,2,0,1] 5 4)) [some (.box (Al r57.1 (.osl 1 2 0 (List.length r57.1.Columns)))),some (.narr 2 (List.map Ac r57.1.Columns)),some (.box [.ptr 0 0]),some (.narr 1 (List.map (nL 1 eB) r57.2)),some (.box [.d (.int .i64 x98.Rule),.d (.int .i64 x98.To)])] (po1 (pn1 Ac r57.1.Columns (po1 (pn1 (nL 1 eB) r57.2 (po1 (Pl.z)))))) (ae (qN (qs (gP [1,2,4,5,6,7,32,33,96,97,98] [0,1,2,3] (po1 (pn1 Ac r57.1.Columns (po1 (pn1 (nL 1 eB) r57.2 (Pl.z)))))) (hFTr_writer_reach_J3 (r57.1,r57.2) H)))))))
  ·exact sk (qN (qs (gP [1,2,4,5,6,7,32,33,96,97,98] [0,1,2,3] (po1 (pn1 Ac w_10.Columns (po1 (pn1 (nL 1 eB) known_10 (Pl.z)))))) (hFTr_writer_reach_J3 (w_10,known_10) H)))
 ·exact ex 6 (qx (by cases H;exact xo rfl (gP [1,2,4,5,6,7,32,33] [0,1,2,3] (po1 (pn1 Ac w_10.Columns (po1 (pn1 (nL 1 eB) known_10 (Pl.z))))))))
theorem Km (x:(Af×(List (List Bool))×Int)) (z:((Af×(List (List Bool))×Int)⊕(Af×(List (List Bool))))) (H:Dg n r55 x_62 class_1 x.1 x.2.1 x.2.2=some z):WP (cxk 131 2) (AA Try.f58) [1,1,1,1,1,1,0,0,1,1,0,0,1,1,1,0,1,0,0] (Av 2 (Gb r55 x_62 class_1) (Lm r55 x_62) z) (Gb r55 x_62 class_1 x):=by
 obtain ⟨w_7,known_8,i_7⟩:=x
 refine sq (sq (bx H λ x94 h245 H=>rg (tr (so1 (encN:=Ac) 1 2 h245) (sno (encN:=Ac) (enc:=Ae) h245 [.own 1 (List.map Ae x94.States),.own 1 (List.map Ae x94.Costs)] x94.States 2 1 0 1)) (ck 6 (sp (Az 1 2 h245) (ck 1 (sp (Ch (encN:=Ac) (row:=[.osl 4 1 0 (List.length x94.States),.own 1 (List.map Ae x94.Costs)]) (k:=1) (sz:=2) (off:=0) (t:=ty 32) (v:=.osl 4 1 0 (List.length x94.States)) h245) (ck 2 (en (cn H (λ H=>?_) (λ H=>?_))))))))))
 ·refine sk (qz (sq (bk 5 (sq (bx H λ x95 h246 H=>rg (tr (tr (tr (tr (tr (sni (encN:=Ac) (xs:=w_7.Columns) (n:=x_62) (enc:=Ae) [.osl 4 1 0 (List.length x94.States),.own 1 (List.map Ae x94.Costs)] x94.States 2 1 0 4 1) (scl (encN:=Ac) (xss:=w_7.Columns) x_62 [.own 1 (List.map Ae x94.States),.own 1 (List.map Ae x94.Costs)] 2 1 x94)) (sn 54 1 2 (lsS w_7.Columns (Int.toNat x_62) x94))) (snc 0 6 1 2 (lsS w_7.Columns (Int.toNat x_62) x94))) (so1 (encN:=Ac) 1 2 h246)) (sno (encN:=Ac) (enc:=Ae) h246 [.own 1 (List.map Ae x95.States),.own 1 (List.map Ae x95.Costs)] x95.States 2 1 0 1)) (ck 5 (sp (Az 1 2 h246) (ck 1 (sp (Ch (encN:=Ac) (row:=[.osl 5 1 0 (List.length x95.States),.own 1 (List.map Ae x95.Costs)]) (k:=1) (sz:=2) (off:=0) (t:=ty 32) (v:=.osl 5 1 0 (List.length x95.States)) h246) (ck 1 (bx H λ x96 h247 H=>sp (Az 5 1 h247) (sp (CK Ae 5 0 (ty 3) h247) (ck 1 (en (sj (λ (x:Af)=>ZR r55 x_62 class_1 known_8 i_7 x96 x) (λ (x:Af)=>Cv n r55 x_62 class_1 known_8 i_7 x96 x) z ?_ (λ hFTr_writer_reach_J2=>?_))))))))))))))))
  ·intro w_9 H
   exact sr (ck 5 (bx H λ x97 h248 H=>sp (Aq (eL Ai) h248) (ck 1 (sp (AC Ai x97) (ck 1 (en (bk 6 (bx H λ y66 h252 H=>lX Kl h252 (gP [1,2,4,5,6,7,32,33,96,97,98] [0,1,2,3] (po1 (pn1 Ac w_9.Columns (po1 (pn1 (nL 1 eB) known_8 (Pl.z)))))) rfl λ s hE53=>qH (qN (qs (hE53) (rz (ck 3 (ae (by cases H;exact og (gP [1,2,4,5,6,7,32,33] [0,1,2,3] (po1 (pn1 Ac y66.1.Columns (po1 (pn1 (nL 1 eB) y66.2 (Pl.z))))))))))))))))))))
  refine sq (rg (tr (tr (tr (tr (sni (encN:=Ac) (xs:=List.set w_7.Columns (Int.toNat x_62) x94) (n:=x_62) (enc:=Ae) [.osl 5 1 0 (List.length x95.States),.own 1 (List.map Ae x95.Costs)] x95.States 2 1 0 5 1) (scl (encN:=Ac) (xss:=List.set w_7.Columns (Int.toNat x_62) x94) x_62 [.own 1 (List.map Ae x95.States),.own 1 (List.map Ae x95.Costs)] 2 1 x95)) (sn 54 1 2 (lsS (List.set w_7.Columns (Int.toNat x_62) x94) (Int.toNat x_62) x95))) (sn 66 1 2 (lsS (List.set w_7.Columns (Int.toNat x_62) x94) (Int.toNat x_62) x95))) (snc 0 6 1 2 (lsS (List.set w_7.Columns (Int.toNat x_62) x94) (Int.toNat x_62) x95))) (ck 5 (bx H λ x99 h253 H=>sp (Aq Aj h253) (ck 3 (bx H λ gd7 h254 H=>so (HO h254) (ck 2 (en (cn H (λ H=>?_) (λ H=>?_)))))))))
  ·exact rz (ck 5 (ae (qs (gP [1,2,4,5,6,7,8,32,33] [0,1,2,3] (po1 (pn1 Ac (List.set (List.set w_7.Columns (Int.toNat x_62) x94) (Int.toNat x_62) x95) (po1 (pn1 (nL 1 eB) known_8 (Pl.z)))))) (hFTr_writer_reach_J2 ({ T:=w_7.T,S:=w_7.S,States:=w_7.States,Arcs:=w_7.Arcs,Columns:=List.set (List.set w_7.Columns (Int.toNat x_62) x94) (Int.toNat x_62) x95,Last:=x_62 }:Af) H))))
  ·exact sk (qs (gP [1,2,4,5,6,7,8,32,33] [0,1,2,3] (po1 (pn1 Ac (List.set (List.set w_7.Columns (Int.toNat x_62) x94) (Int.toNat x_62) x95) (po1 (pn1 (nL 1 eB) known_8 (Pl.z)))))) (hFTr_writer_reach_J2 ({ T:=w_7.T,S:=w_7.S,States:=w_7.States,Arcs:=w_7.Arcs,Columns:=List.set (List.set w_7.Columns (Int.toNat x_62) x94) (Int.toNat x_62) x95,Last:=w_7.Last }:Af) H))
 ·exact ex 4 (qx (by cases H;exact xo rfl (tr (tr (tr (tr (sni (encN:=Ac) (xs:=w_7.Columns) (n:=x_62) (enc:=Ae) [.osl 4 1 0 (List.length x94.States),.own 1 (List.map Ae x94.Costs)] x94.States 2 1 0 4 1) (scl (encN:=Ac) (xss:=w_7.Columns) x_62 [.own 1 (List.map Ae x94.States),.own 1 (List.map Ae x94.Costs)] 2 1 x94)) (sn 54 1 2 (lsS w_7.Columns (Int.toNat x_62) x94))) (snc 0 6 1 2 (lsS w_7.Columns (Int.toNat x_62) x94))) (gP [1,2,4,5,32,33] [0,1,2,3] (po1 (pn1 Ac (List.set w_7.Columns (Int.toNat x_62) x94) (po1 (pn1 (nL 1 eB) known_8 (Pl.z)))))))))
theorem Ko (x:(Af×(List (List Bool))×Int)) (z:((Af×(List (List Bool))×Int)⊕Af)) (H:Dh n r55 x.1 x.2.1 x.2.2=some z):WP (cxk 131 2) (AA Try.f58) [1,1,1,1,1,1,0,0] (Av 2 (Gc r55) (Ln) z) (Gc r55 x):=by
 obtain ⟨w_6,known_7,x_62⟩:=x
 refine sr (ck 1 (en (sq (cn H (λ H=>?_) (λ H=>?_)))))
 ·refine sk (qz (sq (bk 3 (sr (ck 2 (en (sr (ck 1 (en (sj (λ (x:Int)=>JcH r55 w_6 known_7 x_62 x) (λ (x:Int)=>Cw n r55 w_6 known_7 x_62 x) z ?_ (λ hFTr_writer_reach_J1=>?_)))))))))))
  ·intro class_1 H
   exact sq (sr (ck 1 (en (bk 4 (bx H λ y67 h255 H=>lX Km h255 (gP [1,2,4,5,6,7,32,33] [0,1,2,3] (po1 (pn1 Ac w_6.Columns (po1 (pn1 (nL 1 eB) known_7 (Pl.z)))))) rfl λ s hE54=>qH (qs (hE54) (sq (bx H λ x100 h256 H=>rg (tr (so1 (encN:=Ac) 1 2 h256) (sno (encN:=Ac) (enc:=Ae) h256 [.own 1 (List.map Ae x100.States),.own 1 (List.map Ae x100.Costs)] x100.States 2 1 0 1)) (ck 5 (sp (Az 1 2 h256) (ck 1 (sp (Ch (encN:=Ac) (row:=[.osl 4 1 0 (List.length x100.States),.own 1 (List.map Ae x100.Costs)]) (k:=1) (sz:=2) (off:=0) (t:=ty 32) (v:=.osl 4 1 0 (List.length x100.States)) h256) (bx H λ r58 h257 H=>lt [4] (JcA h257) (bx H λ _ h258 H=>en (bx H λ x101 h259 H=>rg (tr (tr (tr (tr (tr (tr (tr (sn 124 4 1 (Ud h258)) (snr (encN:=Ac) (xs:=y67.1.Columns) (n:=x_62) [.osl 4 1 0 (List.length x100.States),.own 1 (List.map Ae x100.Costs)] 2 1 0 4 1 (Ud h258))) (sni (encN:=Ac) (xs:=y67.1.Columns) (n:=x_62) (enc:=Ae) [.osl 4 1 0 (List.length r58),.own 1 (List.map Ae x100.Costs)] r58 2 1 0 4 1)) (scl (encN:=Ac) (xss:=y67.1.Columns) x_62 [.own 1 (List.map Ae r58),.own 1 (List.map Ae x100.Costs)] 2 1 ({ States:=r58,Costs:=x100.Costs }:AD))) (sn 120 1 2 (lsS y67.1.Columns (Int.toNat x_62) ({ States:=r58,Costs:=x100.Costs }:AD)))) (snc 0 6 1 2 (lsS y67.1.Columns (Int.toNat x_62) ({ States:=r58,Costs:=x100.Costs }:AD)))) (so1 (encN:=(nL 1 eB)) 3 1 h259)) (sno (encN:=(nL 1 eB)) (enc:=eB) h259 [.own 1 (List.map eB x101)] x101 1 3 0 1)) (ck 2 (bx H λ gd8 h260 H=>sp (U0 3 1 0 5 (j:=0) h260) (sp (Ch (encN:=(nL 1 eB)) (row:=[.osl 5 1 0 (List.length x101)]) (k:=3) (sz:=1) (off:=0) (t:=ty 108) (v:=.osl 5 1 0 (List.length x101)) h259) (xz (xok _ _) (xs:=x101) eB (false:Bool) 5 1 (ae (qN (qz (rg (tr (tr (tr (sn 129 5 1 (lrS (List.length x101) (false:Bool))) (snr (encN:=(nL 1 eB)) (xs:=y67.2) (n:=A8 x_62 5) [.osl 5 1 0 (List.length x101)] 1 3 0 5 1 (lrS (List.length x101) (false:Bool)))) (sni (encN:=(nL 1 eB)) (xs:=y67.2) (n:=A8 x_62 5) (enc:=eB) [.osl 5 1 0 (List.length (List.replicate (List.length x101) (false:Bool)))] (List.replicate (List.length x101) (false:Bool)) 1 3 0 5 1)) (scl (encN:=(nL 1 eB)) (xss:=y67.2) (A8 x_62 5) [.own 1 (List.map eB (List.replicate (List.length x101) (false:Bool)))] 1 3 (List.replicate (List.length x101) (false:Bool)))) (ck 2 (ae (by cases H;exact og (gP [1,2,4,32,33] [0,1,2,3] (po1 (pn1 Ac (List.set y67.1.Columns (Int.toNat x_62) ({ States:=r58,Costs:=x100.Costs }:AD)) (po1 (pn1 (nL 1 eB) (List.set y67.2 (Int.toNat (A8 x_62 5)) (List.replicate (List.length x101) (false:Bool))) (Pl.z))))))))))))))))))))))))))))))))
  refine sr (ck 7 (en (cn H (λ H=>?_) (λ H=>?_))))
  ·exact rz (ck 5 (bx H λ b5 h261 H=>sp (Hq h261) (bx H λ r59 h262 H=>ca false (HB h262) (ck 1 (ae (qs (gP [1,2,4,5,6,32,33] [0,1,2,3] (po1 (pn1 Ac w_6.Columns (po1 (pn1 (nL 1 eB) known_7 (Pl.z)))))) (hFTr_writer_reach_J1 r59 H)))))))
  ·exact sk (qs (gP [1,2,4,5,6,32,33] [0,1,2,3] (po1 (pn1 Ac w_6.Columns (po1 (pn1 (nL 1 eB) known_7 (Pl.z)))))) (hFTr_writer_reach_J1 0 H))
 ·exact ex 2 (qx (by cases H;exact xo rfl (gP [] [0,1] (po1 (pn1 Ac w_6.Columns (Pl.z))))))
theorem M4 {z} (H:Eu n b0_=some z):BC Try.prog 58 [.ptr 0 0] [some (.box (Al b0_ (.osl 1 2 0 (List.length b0_.Columns)))),some (.narr 2 (List.map Ac b0_.Columns))] 2 (.tup []) [some (.box (Al z (.osl 1 2 0 (List.length z.Columns)))),some (.narr 2 (List.map Ac z.Columns))]:=by
 exact fL 131 2 (JcB b0_) Try.func58 (sr (ck 1 (en (sr (ck 1 (en (sq (sq (rg (tr (tr (Jey 3 [.nil,.nil,.nil,.nil,.nil] (by kernel_rfl)) (Jbe (sz:=1) (es:=[[.nil],[.nil],[.nil],[.nil],[.nil]]) 3 (List.map (nL 1 eB) ([[],[],[],[],[]]:List (List Bool))) (by kernel_rfl) (by kernel_rfl))) (Jjn 2 3 1 (by kernel_rfl))) (ck 1 (en (bk 0 (bx H λ y65 h243 H=>lX Kk h243 (gP [1,2,13] [0,1,2,3] (po1 (pn1 Ac b0_.Columns (po1 (pn1 (nL 1 eB) ([[],[],[],[],[]]:List (List Bool)) (Pl.z)))))) rfl λ s hE52=>qH (qs (hE52) (sr (xm (xok _ _) (ck 1 (en (sr (ck 1 (bx H λ r55 h244 H=>xcP (xok _ _) [3,2,0,1] (F8 h244) (pn1 (nL 1 eB) y65 (po1 (po1 (pn1 Ac b0_.Columns (Pl.z))))) (tb (f:=Dy (Ct [3,2,0,1] 4 4)) [some (.box (Al r55.1 (.osl 1 2 0 (List.length r55.1.Columns)))),some (.narr 2 (List.map Ac r55.1.Columns)),some (.box [.ptr 0 0]),some (.narr 1 (List.map (nL 1 eB) r55.2))] (po1 (pn1 Ac r55.1.Columns (po1 (pn1 (nL 1 eB) r55.2 (Pl.z))))) (en (sr (ck 6 (en (bk 2 (bx H λ y68 h263 H=>lX Ko h263 (gP [1,2,4,32,33] [0,1,2,3] (po1 (pn1 Ac r55.1.Columns (po1 (pn1 (nL 1 eB) r55.2 (Pl.z)))))) rfl λ s hE55=>qH (by cases H;exact pL' (rl (s':=JcC z) (tr (hE55) (gP [] [0,1] (po1 (pn1 Ac z.Columns (Pl.z)))))))))))))))))))))))))))))))))))
end
section
variable (p0_:Int) (p1_:Bool) (b1_0_:Int) (b2_0_:Int) (b3_:Af) (x_65:Af) (x_66:Bool) (x104:(List A7)) (x_67:Af) (better_7:Bool) (x_68:Int) (x_69:Af) (better_8:Bool) (x_70:Af) (better_9:Bool)
def JcK:St:=⟨(0,.d (.int .i64 p0_))::(1,.d (.bool p1_))::(2,.ptr 0 0)::(3,.ptr 1 0)::(4,.ptr 2 0)::[],[some (.box [.ptr 3 0]),some (.box [.eptr 4 2 (0+Int.toNat b1_0_) 0]),some (.box [.d (.int .i64 b2_0_)]),some (.box (Al b3_ (.osl 4 2 0 (List.length b3_.Columns)))),some (.narr 2 (List.map Ac b3_.Columns))]⟩
def JcL:St:=⟨(7,.d (.bool x_66))::[],[some (.box [.ptr 3 0]),some (.box [.eptr 4 2 (0+Int.toNat b1_0_) 0]),some (.box [.d (.int .i64 b2_0_)]),some (.box (Al x_65 (.osl 4 2 0 (List.length x_65.Columns)))),some (.narr 2 (List.map Ac x_65.Columns))]⟩
def JcM:St:=⟨(0,.d (.int .i64 p0_))::(1,.d (.bool p1_))::(2,.ptr 0 0)::(3,.ptr 1 0)::(4,.ptr 2 0)::(8,.d (.bool better_7))::(27,.d (.sl (List.map Ai x104)))::(28,.d (.int .i64 ((List.length x104:Nat):Int)))::(29,.d (.int .i64 x_68))::[],[some (.box [.ptr 3 0]),some (.box [.eptr 4 2 (0+Int.toNat b1_0_) 0]),some (.box [.d (.int .i64 b2_0_)]),some (.box (Al x_67 (.osl 4 2 0 (List.length x_67.Columns)))),some (.narr 2 (List.map Ac x_67.Columns))]⟩
def JcN:St:=⟨(8,.d (.bool better_8))::[],[some (.box [.ptr 3 0]),some (.box [.eptr 4 2 (0+Int.toNat b1_0_) 0]),some (.box [.d (.int .i64 b2_0_)]),some (.box (Al x_69 (.osl 4 2 0 (List.length x_69.Columns)))),some (.narr 2 (List.map Ac x_69.Columns))]⟩
def JcO:St:=⟨(0,.d (.int .i64 p0_))::(1,.d (.bool p1_))::(2,.ptr 0 0)::(3,.ptr 1 0)::(4,.ptr 2 0)::(8,.d (.bool better_9))::(27,.d (.sl (List.map Ai x104)))::(28,.d (.int .i64 ((List.length x104:Nat):Int)))::(29,.d (.int .i64 x_68))::[],[some (.box [.ptr 3 0]),some (.box [.eptr 4 2 (0+Int.toNat b1_0_) 0]),some (.box [.d (.int .i64 b2_0_)]),some (.box (Al x_70 (.osl 4 2 0 (List.length x_70.Columns)))),some (.narr 2 (List.map Ac x_70.Columns))]⟩
def JL:(Af×Bool)->Ex->St->Prop:=xX 5 0 (λ (y:(Af×Bool))=>JcN b1_0_ b2_0_ y.1 y.2)
def FE:(Af×Bool×Int)->St:=(λ (x:(Af×Bool×Int))=>JcM p0_ p1_ b1_0_ b2_0_ x104 x.1 x.2.1 x.2.2)
variable {p0_ p1_ b1_0_ b2_0_ b3_ x_65 x_66 x104 x_67 better_7 x_68 x_69 better_8 x_70 better_9}
theorem Jg (x:(Af×Bool×Int)) (z:((Af×Bool×Int)⊕(Af×Bool))) (H:CQ n p0_ p1_ b1_0_ b2_0_ x104 x.1 x.2.1 x.2.2=some z):WP (cxk 104 5) (AA Try.f75) [1,1,0,1,0,0] (Av 5 (FE p0_ p1_ b1_0_ b2_0_ x104) (JL b1_0_ b2_0_) z) (FE p0_ p1_ b1_0_ b2_0_ x104 x):=by
 obtain ⟨x_67,better_7,x_68⟩:=x
 refine sr (ck 1 (en (sq (cn H (λ H=>?_) (λ H=>?_)))))
 ·refine sk (qz (sj (λ (x:(Af×Bool))=>JcO p0_ p1_ b1_0_ b2_0_ x104 x_68 x.1 x.2) (λ (x:(Af×Bool))=>BG n x_68 x.1 x.2) z ?_ (λ hFTr_writer_price_1_J1=>?_)))
  ·rintro ⟨x_70,better_9⟩ H
   exact rz (ck 2 (ae (by cases H;exact og (gP [0,1,2,3,4,8,27,28,29] [0,1,2,3,4] (po1 (po1 (po1 (po1 (pn1 Ac x_70.Columns (Pl.z))))))))))
  refine bk 1 (sr (bx H λ x105 h267 H=>sp (Aq Ai h267) (ck 3 (en (sr (ck 4 (bx H λ r60 h268 H=>ltP [3,4] (DZ h268) (po1 (pn1 Ac x_67.Columns (Pl.z))) (tb (f:=Dy (Ct [3,4] 6 2)) [some (.box [.ptr 3 0]),some (.box [.eptr 4 2 (0+Int.toNat b1_0_) 0]),some (.box [.d (.int .i64 b2_0_)]),some (.box (Al x_67 (.osl 4 2 0 (List.length x_67.Columns)))),some (.narr 2 (List.map Ac x_67.Columns)),some (.box [.d (.int .i64 x105.Rule),.d (.int .i64 x105.To)])] (po1 (po1 (po1 (po1 (pn1 Ac x_67.Columns (po1 (Pl.z))))))) (ck 5 (en (sq (sr (ck 5 (gc 1 (!(!r60.2)) (ck 1 (gc 1 (!(!r60.2)) (pO (en (cn H (λ H=>?_) (λ H=>?_))))))))))))))))))))
  ·exact ex 1 (qx (qH (qs (gP [0,1,2,3,4,8,27,28,29] [0,1,2,3,4] (po1 (po1 (po1 (po1 (pn1 Ac x_67.Columns (Pl.z))))))) (hFTr_writer_price_1_J1 (x_67,better_7) H))))
  ·refine sk (qz (sr (ck 5 (bx H λ x106 h269 H=>sp (Az 4 2 h269) (ck 2 (bx H λ r61 h270 H=>cb (ks:=[4]) (obl:=[(0+Int.toNat r60.1+1,List.length (List.map Ac x_67.Columns)),(Oa (List.map Ac x_67.Columns),0)]) false (leK (Jgl (encN:=Ac) h269) (leK (JeH λ _=>rfl) (leZ))) (Dz (Jbm (encN:=Ac) (encD:=LV) h269 λ _=>rfl) (Dz rfl rfl)) (Fe h270) (Or.inr trivial) rfl (ck 1 (en (sr (ck 8 (bx H λ x107 h271 H=>sp (Aq Am h271) (ck 2 (sp (AC eU8 x107.Cells) (ck 2 (en (sq (bx H λ x108 h272 H=>rg (tr (so1 (encN:=Ac) 4 2 h272) (sno (encN:=Ac) (enc:=Ae) h272 [.own 1 (List.map Ae x108.States),.own 1 (List.map Ae x108.Costs)] x108.Costs 2 4 1 1)) (ck 4 (gc 2 (decide (r61≥0)) (sE (g:=decide (r61≥0)) (λ hg=>Ch (encN:=Ac) (row:=[.own 1 (List.map Ae x108.States),.osl 6 1 0 (List.length x108.Costs)]) (k:=4) (sz:=2) (off:=1) (t:=ty 32) (v:=.osl 6 1 0 (List.length x108.Costs)) h272) (ck 1 (bx H λ x109 h273 H=>sE (λ hg=>Az 6 1 (BO h273 hg)) (sE (g:=decide (r61≥0)) (λ hg=>CK Ae 6 0 (ty 3) (BO h273 hg)) (gc 2 (decide (r61≥0)) (ck 2 (gc 2 ((decide (r61≥0))&&!(decide (x109<0))) (sE (g:=((decide (r61≥0))&&!(decide (x109<0)))) (λ hg=>Ch (encN:=Ac) (row:=[.own 1 (List.map Ae x108.States),.osl 6 1 0 (List.length x108.Costs)]) (k:=4) (sz:=2) (off:=1) (t:=ty 32) (v:=.osl 6 1 0 (List.length x108.Costs)) h272) (ck 1 (bx H λ x110 h274 H=>sE (λ hg=>Az 6 1 (BO h274 hg)) (sE (g:=((decide (r61≥0))&&!(decide (x109<0)))) (λ hg=>CK Ae 6 0 (ty 3) (BO h274 hg)) (gc 1 ((decide (r61≥0))&&!(decide (x109<0))) (pG (g:=decide (r61≥0)) (v:=.d (.bool ((decide (x109<0))||(decide (Au .i64 r61 ((List.length x107.Cells:Nat):Int)<x110))))) (λ hg=>Gu (c:=.gv (decide (r61≥0)) (.d (.bool (decide (x109<0))))) (a:=.d (.bool true)) (b:=.gv ((decide (r61≥0))&&!(decide (x109<0))) (.d (.bool (decide (Au .i64 r61 ((List.length x107.Cells:Nat):Int)<x110))))) rfl rfl rfl ((λ hh=>hh) hg) trivial (λ ht=>by rw [(λ hh=>hh) hg,ht];rfl)) (pA (en (cn H (λ H=>?_) (λ H=>?_))))))))))))))))))))))))))))))))))))
   ·exact sq (bx H λ x111 h275 H=>rg (tr (tr (tr (tr (tr (sni (encN:=Ac) (xs:=x_67.Columns) (n:=b1_0_) (enc:=Ae) [.own 1 (List.map Ae x108.States),.osl 6 1 0 (List.length x108.Costs)] x108.Costs 2 4 1 6 1) (scl (encN:=Ac) (xss:=x_67.Columns) b1_0_ [.own 1 (List.map Ae x108.States),.own 1 (List.map Ae x108.Costs)] 2 4 x108)) (sn 53 4 2 (lsS x_67.Columns (Int.toNat b1_0_) x108))) (snc 3 6 4 2 (lsS x_67.Columns (Int.toNat b1_0_) x108))) (so1 (encN:=Ac) 4 2 h275)) (sno (encN:=Ac) (enc:=Ae) h275 [.own 1 (List.map Ae x111.States),.own 1 (List.map Ae x111.Costs)] x111.Costs 2 4 1 1)) (ck 3 (sp (Ch (encN:=Ac) (row:=[.own 1 (List.map Ae x111.States),.osl 7 1 0 (List.length x111.Costs)]) (k:=4) (sz:=2) (off:=1) (t:=ty 32) (v:=.osl 7 1 0 (List.length x111.Costs)) h275) (ck 2 (bx H λ x112 h276 H=>sp (Az 7 1 h276) (bx H λ l37 h277 H=>stA Ae 7 0 (ty 3) h276 h277 (en (rg (tr (tr (tr (tr (tr (sn 98 7 1 (Bf h277)) (snr (encN:=Ac) (xs:=List.set x_67.Columns (Int.toNat b1_0_) x108) (n:=b1_0_) [.own 1 (List.map Ae x111.States),.osl 7 1 0 (List.length x111.Costs)] 2 4 1 7 1 (Bf h277))) (sni (encN:=Ac) (xs:=List.set x_67.Columns (Int.toNat b1_0_) x108) (n:=b1_0_) (enc:=Ae) [.own 1 (List.map Ae x111.States),.osl 7 1 0 (List.length l37)] l37 2 4 1 7 1)) (scl (encN:=Ac) (xss:=List.set x_67.Columns (Int.toNat b1_0_) x108) b1_0_ [.own 1 (List.map Ae x111.States),.own 1 (List.map Ae l37)] 2 4 ({ States:=x111.States,Costs:=l37 }:AD))) (sn 53 4 2 (lsS (List.set x_67.Columns (Int.toNat b1_0_) x108) (Int.toNat b1_0_) ({ States:=x111.States,Costs:=l37 }:AD)))) (snc 3 6 4 2 (lsS (List.set x_67.Columns (Int.toNat b1_0_) x108) (Int.toNat b1_0_) ({ States:=x111.States,Costs:=l37 }:AD)))) (ck 1 (ae (qN (qs (gP [0,1,2,3,4,8,27,28,29] [0,1,2,3,4] (po1 (po1 (po1 (po1 (pn1 Ac (List.set (List.set x_67.Columns (Int.toNat b1_0_) x108) (Int.toNat b1_0_) ({ States:=x111.States,Costs:=l37 }:AD)) (Pl.z))))))) (hFTr_writer_price_1_J1 (({ T:=x_67.T,S:=x_67.S,States:=x_67.States,Arcs:=x_67.Arcs,Columns:=List.set (List.set x_67.Columns (Int.toNat b1_0_) x108) (Int.toNat b1_0_) ({ States:=x111.States,Costs:=l37 }:AD),Last:=x_67.Last }:Af),true) H)))))))))))))
   ·exact sk (qN (qs (tr (tr (tr (tr (sni (encN:=Ac) (xs:=x_67.Columns) (n:=b1_0_) (enc:=Ae) [.own 1 (List.map Ae x108.States),.osl 6 1 0 (List.length x108.Costs)] x108.Costs 2 4 1 6 1) (scl (encN:=Ac) (xss:=x_67.Columns) b1_0_ [.own 1 (List.map Ae x108.States),.own 1 (List.map Ae x108.Costs)] 2 4 x108)) (sn 53 4 2 (lsS x_67.Columns (Int.toNat b1_0_) x108))) (snc 3 6 4 2 (lsS x_67.Columns (Int.toNat b1_0_) x108))) (gP [0,1,2,3,4,8,27,28,29] [0,1,2,3,4] (po1 (po1 (po1 (po1 (pn1 Ac (List.set x_67.Columns (Int.toNat b1_0_) x108) (Pl.z)))))))) (hFTr_writer_price_1_J1 (({ T:=x_67.T,S:=x_67.S,States:=x_67.States,Arcs:=x_67.Arcs,Columns:=List.set x_67.Columns (Int.toNat b1_0_) x108,Last:=x_67.Last }:Af),better_7) H)))
 ·exact ex 0 (qx (by cases H;exact xo rfl (gP [8] [0,1,2,3,4] (po1 (po1 (po1 (po1 (pn1 Ac x_67.Columns (Pl.z)))))))))
theorem Gd {z} (H:CO n p0_ p1_ b1_0_ b2_0_ b3_=some z):BC Try.prog 75 [.d (.int .i64 p0_),.d (.bool p1_),.ptr 0 0,.ptr 1 0,.ptr 2 0] [some (.box [.ptr 3 0]),some (.box [.eptr 4 2 (0+Int.toNat b1_0_) 0]),some (.box [.d (.int .i64 b2_0_)]),some (.box (Al b3_ (.osl 4 2 0 (List.length b3_.Columns)))),some (.narr 2 (List.map Ac b3_.Columns))] 5 (.d (.bool z.2)) [some (.box [.ptr 3 0]),some (.box [.eptr 4 2 (0+Int.toNat b1_0_) 0]),some (.box [.d (.int .i64 b2_0_)]),some (.box (Al z.1 (.osl 4 2 0 (List.length z.1.Columns)))),some (.narr 2 (List.map Ac z.1.Columns))]:=by
 exact fL 104 5 (JcK p0_ p1_ b1_0_ b2_0_ b3_) Try.func75 (sr (ck 1 (en (sr (ck 1 (en (sq (sq (bx H λ x102 h264 H=>rg (tr (so1 (encN:=Ac) 4 2 h264) (sno (encN:=Ac) (enc:=Ae) h264 [.own 1 (List.map Ae x102.States),.own 1 (List.map Ae x102.Costs)] x102.States 2 4 0 1)) (ck 7 (sp (Ch (encN:=Ac) (row:=[.osl 5 1 0 (List.length x102.States),.own 1 (List.map Ae x102.Costs)]) (k:=4) (sz:=2) (off:=0) (t:=ty 32) (v:=.osl 5 1 0 (List.length x102.States)) h264) (ck 1 (bx H λ x103 h265 H=>sp (Az 5 1 h265) (sp (CK Ae 5 0 (ty 3) h265) (bx H λ x104 h266 H=>sp (Aq (eL Ai) h266) (ck 1 (sp (AC Ai x104) (ck 1 (en (bk 0 (bx H λ y69 h278 H=>lX Jg h278 (tr (tr (tr (sni (encN:=Ac) (xs:=b3_.Columns) (n:=b1_0_) (enc:=Ae) [.osl 5 1 0 (List.length x102.States),.own 1 (List.map Ae x102.Costs)] x102.States 2 4 0 5 1) (scl (encN:=Ac) (xss:=b3_.Columns) b1_0_ [.own 1 (List.map Ae x102.States),.own 1 (List.map Ae x102.Costs)] 2 4 x102)) (snc 3 6 4 2 (lsS b3_.Columns (Int.toNat b1_0_) x102))) (gP [0,1,2,3,4,8,27,28,29] [0,1,2,3,4] (po1 (po1 (po1 (po1 (pn1 Ac (List.set b3_.Columns (Int.toNat b1_0_) x102) (Pl.z)))))))) rfl λ s hE56=>qH (qs (hE56) (sr (ck 2 (en (re (by cases H;exact pL (rl (s':=JcL b1_0_ b2_0_ y69.1 y69.2) (gP [7] [0,1,2,3,4] (po1 (po1 (po1 (po1 (pn1 Ac y69.1.Columns (Pl.z)))))))))))))))))))))))))))))))))))
end
section
variable (b0_:Af) (x_71:Af) (w_13:Af) (place_3:Int) (x_72:Af) (x114:AD) (l38:(List Int)) (x115:AD) (r_1:(List Int)) (x_73:Int) (w_14:Af) (r_2:(List Int)) (x121:AD) (w_15:Af) (x_74:Int) (w_16:Af) (w_17:Af) (w_18:Af) (x122:AD) (w_19:Af) (better_10:Bool) (x_75:Int) (w_20:Af) (better_11:Bool)
def JcP:St:=⟨(0,.ptr 0 0)::[],[some (.box (Al b0_ (.osl 1 2 0 (List.length b0_.Columns)))),some (.narr 2 (List.map Ac b0_.Columns))]⟩
def JcQ:St:=⟨[],[some (.box (Al x_71 (.osl 1 2 0 (List.length x_71.Columns)))),some (.narr 2 (List.map Ac x_71.Columns))]⟩
def JcR:St:=⟨(1,.ptr 2 0)::(2,.ptr 3 0)::[],[some (.box (Al w_13 (.osl 1 2 0 (List.length w_13.Columns)))),some (.narr 2 (List.map Ac w_13.Columns)),some (.box [.ptr 0 0]),some (.box [.d (.int .i64 place_3)])]⟩
def JcS:St:=⟨[],[some (.box (Al x_72 (.osl 1 2 0 (List.length x_72.Columns)))),some (.narr 2 (List.map Ac x_72.Columns))]⟩
def JcT:St:=⟨(1,.ptr 2 0)::(2,.ptr 3 0)::(3,.ptr 4 0)::(37,.osl 5 1 0 (List.length x115.States))::(38,.d (.int .i64 ((List.length x115.States:Nat):Int)))::(39,.d (.int .i64 x_73))::[],[some (.box (Al w_13 (.osl 1 2 0 (List.length (List.set w_13.Columns (Int.toNat place_3) ({ States:=x114.States,Costs:=l38 }:AD)))))),some (.narr 2 (List.set (List.map Ac (List.set w_13.Columns (Int.toNat place_3) ({ States:=x114.States,Costs:=l38 }:AD))) (Int.toNat place_3) [.osl 5 1 0 (List.length x115.States),.own 1 (List.map Ae r_1)])),some (.box [.ptr 0 0]),some (.box [.d (.int .i64 place_3)]),some (.box [.eptr 1 2 (0+Int.toNat place_3) 0]),some (.arr 1 (List.map Ae x115.States))]⟩
def JcU:St:=⟨(1,.ptr 2 0)::(2,.ptr 3 0)::(3,.ptr 4 0)::[],[some (.box (Al w_14 (.osl 1 2 0 (List.length w_14.Columns)))),some (.narr 2 (List.map Ac w_14.Columns)),some (.box [.ptr 0 0]),some (.box [.d (.int .i64 place_3)]),some (.box [.eptr 1 2 (0+Int.toNat place_3) 0])]⟩
def JcV:St:=⟨(1,.ptr 2 0)::(2,.ptr 3 0)::(3,.ptr 4 0)::(37,.osl 5 1 0 (List.length x115.States))::(38,.d (.int .i64 ((List.length x115.States:Nat):Int)))::(39,.d (.int .i64 x_73))::[],[some (.box (Al w_13 (.osl 1 2 0 (List.length (List.set w_13.Columns (Int.toNat place_3) ({ States:=x114.States,Costs:=l38 }:AD)))))),some (.narr 2 (List.set (List.map Ac (List.set w_13.Columns (Int.toNat place_3) ({ States:=x114.States,Costs:=l38 }:AD))) (Int.toNat place_3) [.osl 5 1 0 (List.length x115.States),.own 1 (List.map Ae r_2)])),some (.box [.ptr 0 0]),some (.box [.d (.int .i64 place_3)]),some (.box [.eptr 1 2 (0+Int.toNat place_3) 0]),some (.arr 1 (List.map Ae x115.States))]⟩
def Lp:Af->Ex->St->Prop:=xX 2 2 (λ (y:Af)=>JcU place_3 y)
def Ge:((List Int)×Int)->St:=(λ (x:((List Int)×Int))=>JcT w_13 place_3 x114 l38 x115 x.1 x.2)
def JcW:St:=⟨(1,.ptr 2 0)::(2,.ptr 3 0)::(3,.ptr 4 0)::(6,.clo 75 [.ptr 2 0,.ptr 4 0,.ptr 3 0])::(83,.d (.int .i64 ((List.length x121.States:Nat):Int)))::(84,.d (.int .i64 x_74))::[],[some (.box (Al w_15 (.osl 1 2 0 (List.length w_15.Columns)))),some (.narr 2 (List.map Ac w_15.Columns)),some (.box [.ptr 0 0]),some (.box [.d (.int .i64 place_3)]),some (.box [.eptr 1 2 (0+Int.toNat place_3) 0])]⟩
def JcX:St:=⟨(1,.ptr 2 0)::(2,.ptr 3 0)::(3,.ptr 4 0)::(6,.clo 75 [.ptr 2 0,.ptr 4 0,.ptr 3 0])::[],[some (.box (Al w_16 (.osl 1 2 0 (List.length w_16.Columns)))),some (.narr 2 (List.map Ac w_16.Columns)),some (.box [.ptr 0 0]),some (.box [.d (.int .i64 place_3)]),some (.box [.eptr 1 2 (0+Int.toNat place_3) 0])]⟩
def Lq:Af->Ex->St->Prop:=xX 2 4 (λ (y:Af)=>JcX place_3 y)
def Gf:(Af×Int)->St:=(λ (x:(Af×Int))=>JcW place_3 x121 x.1 x.2)
def ZV:St:=⟨(1,.ptr 2 0)::(2,.ptr 3 0)::(3,.ptr 4 0)::(6,.clo 75 [.ptr 2 0,.ptr 4 0,.ptr 3 0])::[],[some (.box (Al w_17 (.osl 1 2 0 (List.length w_17.Columns)))),some (.narr 2 (List.map Ac w_17.Columns)),some (.box [.ptr 0 0]),some (.box [.d (.int .i64 place_3)]),some (.box [.eptr 1 2 (0+Int.toNat place_3) 0])]⟩
def ZW:St:=⟨(1,.ptr 2 0)::(2,.ptr 3 0)::[],[some (.box (Al w_18 (.osl 1 2 0 (List.length w_18.Columns)))),some (.narr 2 (List.map Ac w_18.Columns)),some (.box [.ptr 0 0]),some (.box [.d (.int .i64 place_3)])]⟩
def ZX:St:=⟨(1,.ptr 2 0)::(2,.ptr 3 0)::(3,.ptr 4 0)::(6,.clo 75 [.ptr 2 0,.ptr 4 0,.ptr 3 0])::(8,.d (.bool better_10))::(95,.d (.int .i64 ((List.length x122.States:Nat):Int)))::(96,.d (.int .i64 x_75))::[],[some (.box (Al w_19 (.osl 1 2 0 (List.length w_19.Columns)))),some (.narr 2 (List.map Ac w_19.Columns)),some (.box [.ptr 0 0]),some (.box [.d (.int .i64 place_3)]),some (.box [.eptr 1 2 (0+Int.toNat place_3) 0])]⟩
def ZY:St:=⟨(1,.ptr 2 0)::(2,.ptr 3 0)::(3,.ptr 4 0)::(6,.clo 75 [.ptr 2 0,.ptr 4 0,.ptr 3 0])::(8,.d (.bool better_11))::[],[some (.box (Al w_20 (.osl 1 2 0 (List.length w_20.Columns)))),some (.narr 2 (List.map Ac w_20.Columns)),some (.box [.ptr 0 0]),some (.box [.d (.int .i64 place_3)]),some (.box [.eptr 1 2 (0+Int.toNat place_3) 0])]⟩
def Lr:(Af×Bool)->Ex->St->Prop:=xX 2 8 (λ (y:(Af×Bool))=>ZY place_3 y.1 y.2)
def Gg:(Af×Bool×Int)->St:=(λ (x:(Af×Bool×Int))=>ZX place_3 x122 x.1 x.2.1 x.2.2)
def Ls:Af->Ex->St->Prop:=xX 2 6 (λ (y:Af)=>ZW place_3 y)
def Gh:Af->St:=(λ (x:Af)=>ZV place_3 x)
def Lt:Af->Ex->St->Prop:=xX 2 0 (λ (y:Af)=>JcS y)
def Gi:(Af×Int)->St:=(λ (x:(Af×Int))=>JcR x.1 x.2)
variable {b0_ x_71 w_13 place_3 x_72 x114 l38 x115 r_1 x_73 w_14 r_2 x121 w_15 x_74 w_16 w_17 w_18 x122 w_19 better_10 x_75 w_20 better_11}
theorem Kp (x:((List Int)×Int)) (z:(((List Int)×Int)⊕Af)) (H:Di n w_13 place_3 x114 l38 x115 x.1 x.2=some z):WP (cxk 109 2) (AA Try.f59) [1,1,0,0,1,0,0,0,1,1,0,1,0,0] (Av 2 (Ge w_13 place_3 x114 l38 x115) (Lp place_3) z) (Ge w_13 place_3 x114 l38 x115 x):=by
 obtain ⟨r_1,x_73⟩:=x
 refine sr (ck 1 (en (sq (cn H (λ H=>?_) (λ H=>?_)))))
 ·refine sk (qz (sj (λ (x:(List Int))=>JcV w_13 place_3 x114 l38 x115 x_73 x) (λ (x:(List Int))=>Cy n x_73 x) z ?_ (λ hFTr_writer_price_J1=>?_)))
  ·intro r_2 H
   exact rz (ck 2 (ae (by cases H;exact og (gP [1,2,3,37,38,39] [0,1,2,3,4,5] (po1 (Pl.n _ (nrH (n:=Int.toNat place_3) (row:=[.osl 5 1 0 (List.length x115.States),.own 1 (List.map Ae r_2)]) (row':=[.osl 5 1 0 (List.length x115.States),.own 1 (List.map Ae r_2)]) (nrM (encN:=Ac) (xss:=List.set w_13.Columns (Int.toNat place_3) ({ States:=x114.States,Costs:=l38 }:AD)) λ _=>rfl) rfl) (po1 (po1 (po1 (po1 (Pl.z)))))))))))
  refine bk 3 (sr (ck 1 (bx H λ x116 h283 H=>sp (Az 5 1 h283) (sp (CK Ae 5 0 (ty 3) h283) (ck 2 (en (sq (bx H λ x117 h284 H=>rg (sno (encN:=Ac) (enc:=Ae) h284 [.osl 5 1 0 (List.length x115.States),.own 1 (List.map Ae r_1)] r_1 2 1 1 1) (ck 3 (sp (Ch (encN:=Ac) (row:=[.osl 5 1 0 (List.length x115.States),.osl 6 1 0 (List.length r_1)]) (k:=1) (sz:=2) (off:=1) (t:=ty 32) (v:=.osl 6 1 0 (List.length r_1)) h284) (ck 1 (bx H λ x118 h285 H=>sp (Az 6 1 h285) (bx H λ l39 h286 H=>stA Ae 6 0 (ty 3) h285 h286 (en (sq (rg (tr (tr (sn 47 6 1 (Bf h286)) (snr (encN:=Ac) (xs:=List.set w_13.Columns (Int.toNat place_3) ({ States:=x114.States,Costs:=l38 }:AD)) (n:=place_3) [.osl 5 1 0 (List.length x115.States),.osl 6 1 0 (List.length r_1)] 2 1 1 6 1 (Bf h286))) (sni (encN:=Ac) (xs:=List.set w_13.Columns (Int.toNat place_3) ({ States:=x114.States,Costs:=l38 }:AD)) (n:=place_3) (enc:=Ae) [.osl 5 1 0 (List.length x115.States),.osl 6 1 0 (List.length l39)] l39 2 1 1 6 1)) (ck 9 (gc 3 (place_3==((List.length w_13.S:Nat):Int)) (ck 1 (gc 3 (place_3==((List.length w_13.S:Nat):Int)) (ck 1 (bx H λ x119 h287 H=>sE (λ hg=>Aq Aj (BO h287 hg)) (gc 1 (place_3==((List.length w_13.S:Nat):Int)) (bx H λ r62 h288 H=>cG false (leZ) rfl (λ hg=>LZ (BO h288 hg)) (Or.inl rfl) (B6 (λ hh=>hh) (B6 (λ hh=>hh) (Em))) rfl (pA (en (cn H (λ H=>?_) (λ H=>?_))))))))))))))))))))))))))))
  ·exact rg (sno (encN:=Ac) (enc:=Ae) h284 [.osl 5 1 0 (List.length x115.States),.own 1 (List.map Ae l39)] l39 2 1 1 1) (ck 3 (sp (Ch (encN:=Ac) (row:=[.osl 5 1 0 (List.length x115.States),.osl 7 1 0 (List.length l39)]) (k:=1) (sz:=2) (off:=1) (t:=ty 32) (v:=.osl 7 1 0 (List.length l39)) h284) (ck 1 (bx H λ x120 h289 H=>sp (Az 7 1 h289) (bx H λ l40 h290 H=>stA Ae 7 0 (ty 3) h289 h290 (ae (qN (qs (tr (tr (tr (sn 74 7 1 (Bf h290)) (snr (encN:=Ac) (xs:=List.set w_13.Columns (Int.toNat place_3) ({ States:=x114.States,Costs:=l38 }:AD)) (n:=place_3) [.osl 5 1 0 (List.length x115.States),.osl 7 1 0 (List.length l39)] 2 1 1 7 1 (Bf h290))) (sni (encN:=Ac) (xs:=List.set w_13.Columns (Int.toNat place_3) ({ States:=x114.States,Costs:=l38 }:AD)) (n:=place_3) (enc:=Ae) [.osl 5 1 0 (List.length x115.States),.osl 7 1 0 (List.length l40)] l40 2 1 1 7 1)) (gP [1,2,3,37,38,39] [0,1,2,3,4,5] (po1 (Pl.n _ (nrH (n:=Int.toNat place_3) (row:=[.osl 5 1 0 (List.length x115.States),.own 1 (List.map Ae l40)]) (row':=[.osl 5 1 0 (List.length x115.States),.own 1 (List.map Ae l40)]) (nrM (encN:=Ac) (xss:=List.set w_13.Columns (Int.toNat place_3) ({ States:=x114.States,Costs:=l38 }:AD)) λ _=>rfl) rfl) (po1 (po1 (po1 (po1 (Pl.z))))))))) (hFTr_writer_price_J1 l40 H)))))))))
  ·exact sk (qN (qs (gP [1,2,3,37,38,39] [0,1,2,3,4,5] (po1 (Pl.n _ (nrH (n:=Int.toNat place_3) (row:=[.osl 5 1 0 (List.length x115.States),.own 1 (List.map Ae l39)]) (row':=[.osl 5 1 0 (List.length x115.States),.own 1 (List.map Ae l39)]) (nrM (encN:=Ac) (xss:=List.set w_13.Columns (Int.toNat place_3) ({ States:=x114.States,Costs:=l38 }:AD)) λ _=>rfl) rfl) (po1 (po1 (po1 (po1 (Pl.z)))))))) (hFTr_writer_price_J1 l39 H)))
 ·exact ex 2 (qx (by cases H;exact xo rfl (tr (tr (tr (sni (encN:=Ac) (xs:=List.set w_13.Columns (Int.toNat place_3) ({ States:=x114.States,Costs:=l38 }:AD)) (n:=place_3) (enc:=Ae) [.osl 5 1 0 (List.length x115.States),.own 1 (List.map Ae r_1)] x115.States 2 1 0 5 1) (scl (encN:=Ac) (xss:=List.set w_13.Columns (Int.toNat place_3) ({ States:=x114.States,Costs:=l38 }:AD)) place_3 [.own 1 (List.map Ae x115.States),.own 1 (List.map Ae r_1)] 2 1 ({ States:=x115.States,Costs:=r_1 }:AD))) (snc 0 6 1 2 (lsS (List.set w_13.Columns (Int.toNat place_3) ({ States:=x114.States,Costs:=l38 }:AD)) (Int.toNat place_3) ({ States:=x115.States,Costs:=r_1 }:AD)))) (gP [1,2,3] [0,1,2,3,4] (po1 (pn1 Ac (List.set (List.set w_13.Columns (Int.toNat place_3) ({ States:=x114.States,Costs:=l38 }:AD)) (Int.toNat place_3) ({ States:=x115.States,Costs:=r_1 }:AD)) (po1 (po1 (po1 (Pl.z))))))))))
theorem Kq (x:(Af×Int)) (z:((Af×Int)⊕Af)) (H:Dj n place_3 x121 x.1 x.2=some z):WP (cxk 109 2) (AA Try.f59) [1,1,0,0,1,0,0,0,1,1,1,1,0,1,0,0] (Av 2 (Gf place_3 x121) (Lq place_3) z) (Gf place_3 x121 x):=by
 obtain ⟨w_15,x_74⟩:=x
 refine sr (ck 1 (en (sq (cn H (λ H=>?_) (λ H=>?_)))))
 ·exact sk (qz (sq (bk 5 (sr (ck 2 (en (rz (ck 2 (bx H λ r63 h293 H=>xcP (xok _ _) [2,4,3,0,1] (Gd h293) (po1 (po1 (po1 (po1 (pn1 Ac w_15.Columns (Pl.z)))))) (tb (f:=Dy (Ct [2,4,3,0,1] 5 5)) [some (.box (Al r63.1 (.osl 1 2 0 (List.length r63.1.Columns)))),some (.narr 2 (List.map Ac r63.1.Columns)),some (.box [.ptr 0 0]),some (.box [.d (.int .i64 place_3)]),some (.box [.eptr 1 2 (0+Int.toNat place_3) 0])] (po1 (pn1 Ac r63.1.Columns (po1 (po1 (po1 (Pl.z)))))) (ae (qN (qz (rz (ck 2 (ae (by cases H;exact og (gP [1,2,3,6,83,84] [0,1,2,3,4] (po1 (pn1 Ac r63.1.Columns (po1 (po1 (po1 (Pl.z))))))))))))))))))))))))
 ·exact ex 4 (qx (by cases H;exact xo rfl (gP [1,2,3,6] [0,1,2,3,4] (po1 (pn1 Ac w_15.Columns (po1 (po1 (po1 (Pl.z)))))))))
theorem Kr (x:(Af×Bool×Int)) (z:((Af×Bool×Int)⊕(Af×Bool))) (H:Dk n place_3 x122 x.1 x.2.1 x.2.2=some z):WP (cxk 109 2) (AA Try.f59) [1,1,0,0,1,0,0,0,1,1,1,1,1,1,0,0,0,1,0,1,0,0] (Av 2 (Gg place_3 x122) (Lr place_3) z) (Gg place_3 x122 x):=by
 obtain ⟨w_19,better_10,x_75⟩:=x
 refine sr (ck 1 (en (sq (cn H (λ H=>?_) (λ H=>?_)))))
 ·exact sk (qz (sq (bk 9 (sr (ck 2 (en (rz (ck 2 (bx H λ r64 h296 H=>xcP (xok _ _) [2,4,3,0,1] (Gd h296) (po1 (po1 (po1 (po1 (pn1 Ac w_19.Columns (Pl.z)))))) (tb (f:=Dy (Ct [2,4,3,0,1] 5 5)) [some (.box (Al r64.1 (.osl 1 2 0 (List.length r64.1.Columns)))),some (.narr 2 (List.map Ac r64.1.Columns)),some (.box [.ptr 0 0]),some (.box [.d (.int .i64 place_3)]),some (.box [.eptr 1 2 (0+Int.toNat place_3) 0])] (po1 (pn1 Ac r64.1.Columns (po1 (po1 (po1 (Pl.z)))))) (ck 2 (pO (ck 1 (ae (qN (qz (rz (ck 2 (ae (by cases H;exact og (gP [1,2,3,6,8,95,96] [0,1,2,3,4] (po1 (pn1 Ac r64.1.Columns (po1 (po1 (po1 (Pl.z)))))))))))))))))))))))))))
 ·exact ex 8 (qx (by cases H;exact xo rfl (gP [1,2,3,6,8] [0,1,2,3,4] (po1 (pn1 Ac w_19.Columns (po1 (po1 (po1 (Pl.z)))))))))
theorem Ks (x:Af) (z:(Af⊕Af)) (H:Dl n place_3 x=some z):WP (cxk 109 2) (AA Try.f59) [1,1,0,0,1,0,0,0,1,1,1,1,1,1,0,0] (Av 2 (Gh place_3) (Ls place_3) z) (Gh place_3 x):=by
 revert H
 generalize x=w_17
 intro H
 refine bk 7 (sr (ck 1 (en (sq (sq (bx H λ x122 h295 H=>rg (tr (so1 (encN:=Ac) 1 2 h295) (sno (encN:=Ac) (enc:=Ae) h295 [.own 1 (List.map Ae x122.States),.own 1 (List.map Ae x122.Costs)] x122.States 2 1 0 1)) (ck 3 (sp (Ch (encN:=Ac) (row:=[.osl 5 1 0 (List.length x122.States),.own 1 (List.map Ae x122.Costs)]) (k:=1) (sz:=2) (off:=0) (t:=ty 32) (v:=.osl 5 1 0 (List.length x122.States)) h295) (ck 2 (en (bk 8 (bx H λ y72 h297 H=>lX Kr h297 (tr (tr (tr (sni (encN:=Ac) (xs:=w_17.Columns) (n:=place_3) (enc:=Ae) [.osl 5 1 0 (List.length x122.States),.own 1 (List.map Ae x122.Costs)] x122.States 2 1 0 5 1) (scl (encN:=Ac) (xss:=w_17.Columns) place_3 [.own 1 (List.map Ae x122.States),.own 1 (List.map Ae x122.Costs)] 2 1 x122)) (snc 0 6 1 2 (lsS w_17.Columns (Int.toNat place_3) x122))) (gP [1,2,3,6,8,95,96] [0,1,2,3,4] (po1 (pn1 Ac (List.set w_17.Columns (Int.toNat place_3) x122) (po1 (po1 (po1 (Pl.z)))))))) rfl λ s hE59=>qH (qs (hE59) (sr (ck 2 (en (cn H (λ H=>?_) (λ H=>?_))))))))))))))))))
 ·exact ex 6 (qX rfl (by cases H;exact xo rfl (gP [1,2] [0,1,2,3] (po1 (pn1 Ac y72.1.Columns (po1 (po1 (Pl.z))))))))
 ·exact sk (qN (by cases H;exact og (gP [1,2,3,6] [0,1,2,3,4] (po1 (pn1 Ac y72.1.Columns (po1 (po1 (po1 (Pl.z)))))))))
theorem Kt (x:(Af×Int)) (z:((Af×Int)⊕Af)) (H:Dm n x.1 x.2=some z):WP (cxk 109 2) (AA Try.f59) [1,1,0,0] (Av 2 (Gi) (Lt) z) (Gi x):=by
 obtain ⟨w_13,place_3⟩:=x
 refine sq (sr (ck 2 (en (cn H (λ H=>?_) (λ H=>?_)))))
 ·exact sk (qz (sq (bk 1 (sc (sr (ck 5 (bx H λ x113 h279 H=>sp (Az 1 2 h279) (ck 2 (en (sq (bx H λ x114 h280 H=>rg (tr (so1 (encN:=Ac) 1 2 h280) (sno (encN:=Ac) (enc:=Ae) h280 [.own 1 (List.map Ae x114.States),.own 1 (List.map Ae x114.Costs)] x114.States 2 1 0 1)) (ck 4 (sp (Ch (encN:=Ac) (row:=[.osl 5 1 0 (List.length x114.States),.own 1 (List.map Ae x114.Costs)]) (k:=1) (sz:=2) (off:=0) (t:=ty 32) (v:=.osl 5 1 0 (List.length x114.States)) h280) (ck 1 (bx H λ l38 h281 H=>sp (Uc Ae 1 h281) (ck 2 (sp (LQ (encN:=Ac) (row:=[.osl 5 1 0 (List.length x114.States),.own 1 (List.map Ae x114.Costs)]) (row':=[.osl 5 1 0 (List.length x114.States),.osl 6 1 0 (List.length l38)]) (k:=1) (sz:=2) (off:=1) (t:=ty 32) (v:=.osl 6 1 0 (List.length l38)) h280) (en (sq (sq (bx H λ x115 h282 H=>rg (tr (tr (tr (tr (tr (tr (sni (encN:=Ac) (xs:=w_13.Columns) (n:=place_3) (enc:=Ae) [.osl 5 1 0 (List.length x114.States),.osl 6 1 0 (List.length l38)] x114.States 2 1 0 5 1) (sni (encN:=Ac) (xs:=w_13.Columns) (n:=place_3) (enc:=Ae) [.own 1 (List.map Ae x114.States),.osl 6 1 0 (List.length l38)] l38 2 1 1 6 1)) (scl (encN:=Ac) (xss:=w_13.Columns) place_3 [.own 1 (List.map Ae x114.States),.own 1 (List.map Ae l38)] 2 1 ({ States:=x114.States,Costs:=l38 }:AD))) (sn 22 1 2 (lsS w_13.Columns (Int.toNat place_3) ({ States:=x114.States,Costs:=l38 }:AD)))) (snc 0 6 1 2 (lsS w_13.Columns (Int.toNat place_3) ({ States:=x114.States,Costs:=l38 }:AD)))) (so1 (encN:=Ac) 1 2 h282)) (sno (encN:=Ac) (enc:=Ae) h282 [.own 1 (List.map Ae x115.States),.own 1 (List.map Ae x115.Costs)] x115.States 2 1 0 1)) (ck 3 (sp (Ch (encN:=Ac) (row:=[.osl 7 1 0 (List.length x115.States),.own 1 (List.map Ae x115.Costs)]) (k:=1) (sz:=2) (off:=0) (t:=ty 32) (v:=.osl 7 1 0 (List.length x115.States)) h282) (ck 2 (en (bk 2 (bx H λ y70 h291 H=>lX Kp h291 (gP [1,2,3,37,38,39] [0,1,2,3,4,7] (po1 (Pl.n _ (nrH (n:=Int.toNat place_3) (row:=[.osl 7 1 0 (List.length x115.States),.own 1 (List.map Ae x115.Costs)]) (row':=[.osl 5 1 0 (List.length x115.States),.own 1 (List.map Ae x115.Costs)]) (nrM (encN:=Ac) (xss:=List.set w_13.Columns (Int.toNat place_3) ({ States:=x114.States,Costs:=l38 }:AD)) λ _=>rfl) rfl) (po1 (po1 (po1 (po1 (Pl.z)))))))) rfl λ s hE57=>qH (qs (hE57) (sr (xm (xok _ _) (ck 1 (en (sq (sq (bx H λ x121 h292 H=>rg (tr (so1 (encN:=Ac) 1 2 h292) (sno (encN:=Ac) (enc:=Ae) h292 [.own 1 (List.map Ae x121.States),.own 1 (List.map Ae x121.Costs)] x121.States 2 1 0 1)) (ck 3 (sp (Ch (encN:=Ac) (row:=[.osl 5 1 0 (List.length x121.States),.own 1 (List.map Ae x121.Costs)]) (k:=1) (sz:=2) (off:=0) (t:=ty 32) (v:=.osl 5 1 0 (List.length x121.States)) h292) (ck 2 (en (bk 4 (bx H λ y71 h294 H=>lX Kq h294 (tr (tr (tr (sni (encN:=Ac) (xs:=y70.Columns) (n:=place_3) (enc:=Ae) [.osl 5 1 0 (List.length x121.States),.own 1 (List.map Ae x121.Costs)] x121.States 2 1 0 5 1) (scl (encN:=Ac) (xss:=y70.Columns) place_3 [.own 1 (List.map Ae x121.States),.own 1 (List.map Ae x121.Costs)] 2 1 x121)) (snc 0 6 1 2 (lsS y70.Columns (Int.toNat place_3) x121))) (gP [1,2,3,6,83,84] [0,1,2,3,4] (po1 (pn1 Ac (List.set y70.Columns (Int.toNat place_3) x121) (po1 (po1 (po1 (Pl.z)))))))) rfl λ s hE58=>qH (qs (hE58) (sq (lbl (qz (bk 6 (bx H λ y73 h298 H=>lX Ks h298 (gP [1,2,3,6] [0,1,2,3,4] (po1 (pn1 Ac y71.Columns (po1 (po1 (po1 (Pl.z))))))) rfl λ s hE60=>qH (qN (qs (hE60) (sq (sr (ck 1 (en (rz (ck 2 (en (rz (ck 3 (ae (by cases H;exact og (gP [1,2] [0,1,2,4] (po1 (pn1 Ac y73.Columns (po1 (po1 (Pl.z))))))))))))))))))))))))))))))))))))))))))))))))))))))))))))))))))
 ·exact ex 0 (qx (by cases H;exact xo rfl (gP [] [0,1] (po1 (pn1 Ac w_13.Columns (Pl.z))))))
theorem M5 {z} (H:Ew n b0_=some z):BC Try.prog 59 [.ptr 0 0] [some (.box (Al b0_ (.osl 1 2 0 (List.length b0_.Columns)))),some (.narr 2 (List.map Ac b0_.Columns))] 2 (.tup []) [some (.box (Al z (.osl 1 2 0 (List.length z.Columns)))),some (.narr 2 (List.map Ac z.Columns))]:=by
 exact fL 109 2 (JcP b0_) Try.func59 (sr (ck 1 (en (sr (ck 7 (en (bk 0 (bx H λ y74 h299 H=>lX Kt h299 (gP [1,2] [0,1,2,3] (po1 (pn1 Ac b0_.Columns (po1 (po1 (Pl.z)))))) rfl λ s hE61=>qH (by cases H;exact pL' (rl (s':=JcQ z) (tr (hE61) (gP [] [0,1] (po1 (pn1 Ac z.Columns (Pl.z)))))))))))))))
end
section
variable (b0_:Af) (x_76:AU) (result_12:AU) (place_4:Int) (state_3:Int) (cost_3:Int) (result_13:AU) (x124:(List A7)) (x_77:Int) (result_14:AU) (place_5:Int) (state_4:Int) (cost_4:Int)
def JcY:St:=⟨(0,.ptr 0 0)::[],[some (.box (Al b0_ (.osl 1 2 0 (List.length b0_.Columns)))),some (.narr 2 (List.map Ac b0_.Columns))]⟩
def JcZ:St:=⟨(2,.ptr 2 0)::[],[some (.box (Al b0_ (.osl 1 2 0 (List.length b0_.Columns)))),some (.narr 2 (List.map Ac b0_.Columns)),some (.box [.osl 3 1 0 (List.length x_76.Cells),.osl 4 1 0 (List.length x_76.Path)]),some (.arr 1 (List.map eU8 x_76.Cells)),some (.arr 1 (List.map Ae x_76.Path))]⟩
def Jc0:St:=⟨(0,.ptr 0 0)::(2,.ptr 2 0)::(3,.ptr 3 0)::(4,.d (.int .i64 place_4))::(5,.d (.int .i64 state_3))::(6,.d (.int .i64 cost_3))::[],[some (.box (Al b0_ (.osl 1 2 0 (List.length b0_.Columns)))),some (.narr 2 (List.map Ac b0_.Columns)),some (.box [.osl 4 1 0 (List.length ([]:List Int)),.osl 5 1 0 (List.length ([]:List Int))]),some (.box [.osl 6 1 0 (List.length result_12.Cells),.osl 7 1 0 (List.length result_12.Path)]),some (.arr 1 (List.map eU8 ([]:List Int))),some (.arr 1 (List.map Ae ([]:List Int))),some (.arr 1 (List.map eU8 result_12.Cells)),some (.arr 1 (List.map Ae result_12.Path))]⟩
def Jc1:St:=⟨(2,.ptr 2 0)::(3,.ptr 3 0)::[],[some (.box (Al b0_ (.osl 1 2 0 (List.length b0_.Columns)))),some (.narr 2 (List.map Ac b0_.Columns)),some (.box [.osl 4 1 0 (List.length ([]:List Int)),.osl 5 1 0 (List.length ([]:List Int))]),some (.box [.osl 6 1 0 (List.length result_13.Cells),.osl 7 1 0 (List.length result_13.Path)]),some (.arr 1 (List.map eU8 ([]:List Int))),some (.arr 1 (List.map Ae ([]:List Int))),some (.arr 1 (List.map eU8 result_13.Cells)),some (.arr 1 (List.map Ae result_13.Path))]⟩
def Jc2:St:=⟨(0,.ptr 0 0)::(2,.ptr 2 0)::(3,.ptr 3 0)::(4,.d (.int .i64 place_4))::(6,.d (.int .i64 cost_3))::(27,.d (.sl (List.map Ai x124)))::(28,.d (.int .i64 ((List.length x124:Nat):Int)))::(29,.d (.int .i64 x_77))::[],[some (.box (Al b0_ (.osl 1 2 0 (List.length b0_.Columns)))),some (.narr 2 (List.map Ac b0_.Columns)),some (.box [.osl 4 1 0 (List.length ([]:List Int)),.osl 5 1 0 (List.length ([]:List Int))]),some (.box [.osl 6 1 0 (List.length result_12.Cells),.osl 7 1 0 (List.length result_12.Path)]),some (.arr 1 (List.map eU8 ([]:List Int))),some (.arr 1 (List.map Ae ([]:List Int))),some (.arr 1 (List.map eU8 result_12.Cells)),some (.arr 1 (List.map Ae result_12.Path))]⟩
def Jc3:St:=⟨(0,.ptr 0 0)::(2,.ptr 2 0)::(3,.ptr 3 0)::(4,.d (.int .i64 place_5))::(5,.d (.int .i64 state_4))::(6,.d (.int .i64 cost_4))::[],[some (.box (Al b0_ (.osl 1 2 0 (List.length b0_.Columns)))),some (.narr 2 (List.map Ac b0_.Columns)),some (.box [.osl 4 1 0 (List.length ([]:List Int)),.osl 5 1 0 (List.length ([]:List Int))]),some (.box [.osl 6 1 0 (List.length result_14.Cells),.osl 7 1 0 (List.length result_14.Path)]),some (.arr 1 (List.map eU8 ([]:List Int))),some (.arr 1 (List.map Ae ([]:List Int))),some (.arr 1 (List.map eU8 result_14.Cells)),some (.arr 1 (List.map Ae result_14.Path))]⟩
def Jc4:St:=⟨(2,.ptr 2 0)::(3,.ptr 3 0)::[],[some (.box (Al b0_ (.osl 1 2 0 (List.length b0_.Columns)))),some (.narr 2 (List.map Ac b0_.Columns)),some (.box [.osl 4 1 0 (List.length ([]:List Int)),.osl 5 1 0 (List.length ([]:List Int))]),some (.box [.osl 6 1 0 (List.length result_12.Cells),.osl 7 1 0 (List.length result_12.Path)]),some (.arr 1 (List.map eU8 ([]:List Int))),some (.arr 1 (List.map Ae ([]:List Int))),some (.arr 1 (List.map eU8 result_12.Cells)),some (.arr 1 (List.map Ae result_12.Path))]⟩
def Jc5:St:=⟨(0,.ptr 0 0)::(2,.ptr 2 0)::(3,.ptr 3 0)::(4,.d (.int .i64 place_4))::(6,.d (.int .i64 cost_3))::(27,.d (.sl (List.map Ai x124)))::(28,.d (.int .i64 ((List.length x124:Nat):Int)))::(29,.d (.int .i64 x_77))::[],[some (.box (Al b0_ (.osl 1 2 0 (List.length b0_.Columns)))),some (.narr 2 (List.map Ac b0_.Columns)),some (.box [.osl 4 1 0 (List.length ([]:List Int)),.osl 5 1 0 (List.length ([]:List Int))]),some (.box [.osl 6 1 0 (List.length result_12.Cells),.osl 7 1 0 (List.length result_12.Path)]),some (.arr 1 (List.map eU8 ([]:List Int))),some (.arr 1 (List.map Ae ([]:List Int))),some (.arr 1 (List.map eU8 result_12.Cells)),some (.arr 1 (List.map Ae result_12.Path))]⟩
def Jh:((AU×Int×Int×Int)⊕Unit)->Ex->St->Prop:=xS (xX 2 1 (λ (y:(AU×Int×Int×Int))=>Jc3 b0_ y.1 y.2.1 y.2.2.1 y.2.2.2)) (xX 2 2 (λ (y:Unit)=>Jc4 b0_ result_12))
def EX:Int->St:=(λ (x:Int)=>Jc2 b0_ result_12 place_4 cost_3 x124 x)
def Ji:AU->Ex->St->Prop:=xX 2 0 (λ (y:AU)=>Jc1 b0_ y)
def EY:(AU×Int×Int×Int)->St:=(λ (x:(AU×Int×Int×Int))=>Jc0 b0_ x.1 x.2.1 x.2.2.1 x.2.2.2)
variable {b0_ x_76 result_12 place_4 state_3 cost_3 result_13 x124 x_77 result_14 place_5 state_4 cost_4}
theorem EB (x:Int) (z:(Int⊕((AU×Int×Int×Int)⊕Unit))) (H:CA n b0_ result_12 place_4 cost_3 x124 x=some z):WP (cxk 93 2) (AA Try.f60) [1,0,1,1,1,0,1,0,0,1,0,0,1,0,0] (Av 2 (EX b0_ result_12 place_4 cost_3 x124) (Jh b0_ result_12) z) (EX b0_ result_12 place_4 cost_3 x124 x):=by
 revert H
 generalize x=x_77
 intro H
 refine sr (ck 1 (en (sq (cn H (λ H=>?_) (λ H=>?_)))))
 ·refine sk (qz (sj (λ (x:Unit)=>Jc5 b0_ result_12 place_4 cost_3 x124 x_77) (λ (x:Unit)=>BW n x_77) z ?_ (λ hFTr_writer_writingx_J1=>?_)))
  ·intro _ H
   exact rz (ck 2 (ae (by cases H;exact og (gP [0,2,3,4,6,27,28,29] [0,1,2,3,4,5,6,7] (po1 (pn1 Ac b0_.Columns (po1 (po1 (po1 (po1 (po1 (po1 (Pl.z)))))))))))))
  refine bk 3 (sr (bx H λ x125 h303 H=>sp (Aq Ai h303) (ck 3 (en (sr (ck 4 (bx H λ r66 h304 H=>ltP [0,1] (DZ h304) (po1 (pn1 Ac b0_.Columns (Pl.z))) (tb (f:=Dy (Ct [0,1] 9 2)) [some (.box (Al b0_ (.osl 1 2 0 (List.length b0_.Columns)))),some (.narr 2 (List.map Ac b0_.Columns)),some (.box [.osl 4 1 0 (List.length ([]:List Int)),.osl 5 1 0 (List.length ([]:List Int))]),some (.box [.osl 6 1 0 (List.length result_12.Cells),.osl 7 1 0 (List.length result_12.Path)]),some (.arr 1 (List.map eU8 ([]:List Int))),some (.arr 1 (List.map Ae ([]:List Int))),some (.arr 1 (List.map eU8 result_12.Cells)),some (.arr 1 (List.map Ae result_12.Path)),some (.box [.d (.int .i64 x125.Rule),.d (.int .i64 x125.To)])] (po1 (pn1 Ac b0_.Columns (po1 (po1 (po1 (po1 (po1 (po1 (po1 (Pl.z)))))))))) (ck 5 (en (sq (sr (ck 2 (en (cn H (λ H=>?_) (λ H=>?_))))))))))))))))
  ·exact ex 3 (qx (qH (qs (gP [0,2,3,4,6,27,28,29] [0,1,2,3,4,5,6,7] (po1 (pn1 Ac b0_.Columns (po1 (po1 (po1 (po1 (po1 (po1 (Pl.z)))))))))) (hFTr_writer_writingx_J1 () H))))
  ·refine sk (qz (sr (ck 7 (bx H λ x126 h305 H=>sp (Aq Am h305) (ck 3 (en (sq (sr (ck 5 (bx H λ x127 h306 H=>sp (Az 1 2 h306) (ck 2 (bx H λ r67 h307 H=>cb (ks:=[1]) (obl:=[(0+Int.toNat r66.1+1,List.length (List.map Ac b0_.Columns)),(Oa (List.map Ac b0_.Columns),0)]) false (leK (Jgl (encN:=Ac) h306) (leK (JeH λ _=>rfl) (leZ))) (Dz (Jbm (encN:=Ac) (encD:=LV) h306 λ _=>rfl) (Dz rfl rfl)) (Fe h307) (Or.inr trivial) rfl (ck 1 (en (sr (ck 6 (sE (g:=(!(decide (r67<0)))) (λ hg=>AC eU8 x126.Cells) (gc 2 (!(decide (r67<0))) (pO (en (cn H (λ H=>?_) (λ H=>?_))))))))))))))))))))))
   ·exact ex 3 (qx (qH (qs (gP [0,2,3,4,6,27,28,29] [0,1,2,3,4,5,6,7] (po1 (pn1 Ac b0_.Columns (po1 (po1 (po1 (po1 (po1 (po1 (Pl.z)))))))))) (hFTr_writer_writingx_J1 () H))))
   ·exact sk (qz (sr (ck 3 (bx H λ l41 h308 H=>sp (Jgj eU8 6 1 h308) (ck 2 (en (sr (ck 5 (bx H λ l42 h309 H=>sp (B3 Ae 7 1 h309) (ck 2 (en (sr (ck 5 (sp (AC eU8 x126.Cells) (ck 4 (en (ex 1 (qX rfl (qx (by cases H;exact xo rfl (gP [0,2,3,4,5,6] [0,1,2,3,4,5,9,11] (po1 (pn1 Ac b0_.Columns (po1 (po1 (po1 (po1 (po1 (po1 (Pl.z))))))))))))))))))))))))))))))
 ·exact ex 2 (qx (by cases H;exact xo rfl (gP [2,3] [0,1,2,3,4,5,6,7] (po1 (pn1 Ac b0_.Columns (po1 (po1 (po1 (po1 (po1 (po1 (Pl.z))))))))))))
theorem Ih (x:(AU×Int×Int×Int)) (z:((AU×Int×Int×Int)⊕AU)) (H:CB n b0_ x.1 x.2.1 x.2.2.1 x.2.2.2=some z):WP (cxk 93 2) (AA Try.f60) [1,0,1,1,1,0,1,0,0] (Av 2 (EY b0_) (Ji b0_) z) (EY b0_ x):=by
 obtain ⟨result_12,place_4,state_3,cost_3⟩:=x
 refine sq (sr (ck 2 (en (cn H (λ H=>?_) (λ H=>?_)))))
 ·refine sk (qz (bk 1 (sq (sr (ck 5 (bx H λ x124 h302 H=>sp (Aq (eL Ai) h302) (ck 1 (sp (AC Ai x124) (ck 1 (en (bk 2 (bx H λ y75 h310 H=>?_))))))))))))
  rcases y75 with y76|y77
  ·exact lX EB h310 (gP [0,2,3,4,6,27,28,29] [0,1,2,3,4,5,6,7] (po1 (pn1 Ac b0_.Columns (po1 (po1 (po1 (po1 (po1 (po1 (Pl.z)))))))))) rfl λ s hE62=>qX rfl (qx (qH (by cases H;exact og (tr (hE62) (gP [0,2,3,4,5,6] [0,1,2,3,4,5,6,7] (po1 (pn1 Ac b0_.Columns (po1 (po1 (po1 (po1 (po1 (po1 (Pl.z))))))))))))))
  ·exact lX EB h310 (gP [0,2,3,4,6,27,28,29] [0,1,2,3,4,5,6,7] (po1 (pn1 Ac b0_.Columns (po1 (po1 (po1 (po1 (po1 (po1 (Pl.z)))))))))) rfl λ s hE63=>qH (qs (hE63) (ex 0 (qX rfl (by cases H;exact xo rfl (gP [2,3] [0,1,2,3,4,5,6,7] (po1 (pn1 Ac b0_.Columns (po1 (po1 (po1 (po1 (po1 (po1 (Pl.z))))))))))))))
 ·exact ex 0 (qx (by cases H;exact xo rfl (gP [2,3] [0,1,2,3,4,5,6,7] (po1 (pn1 Ac b0_.Columns (po1 (po1 (po1 (po1 (po1 (po1 (Pl.z))))))))))))
theorem Ku {z} (H:Dn n b0_=some z):BC Try.prog 60 [.ptr 0 0] [some (.box (Al b0_ (.osl 1 2 0 (List.length b0_.Columns)))),some (.narr 2 (List.map Ac b0_.Columns))] 2 (.agg [.osl 3 1 0 (List.length z.Cells),.osl 4 1 0 (List.length z.Path)]) [some (.box (Al b0_ (.osl 1 2 0 (List.length b0_.Columns)))),some (.narr 2 (List.map Ac b0_.Columns)),some (.box [.osl 3 1 0 (List.length z.Cells),.osl 4 1 0 (List.length z.Path)]),some (.arr 1 (List.map eU8 z.Cells)),some (.arr 1 (List.map Ae z.Path))]:=by
 exact fL 93 2 (JcY b0_) Try.func60 (sr (ck 1 (en (sc (sr (ck 1 (en (sr (ck 2 (en (sq (lbl (qz (sq (sr (ck 4 (bx H λ x123 h300 H=>sp (Az 1 2 h300) (bx H λ r65 h301 H=>cb (ks:=[1]) (obl:=[(0+Int.toNat 0+1,List.length (List.map Ac b0_.Columns)),(Oa (List.map Ac b0_.Columns),0)]) false (leK (Jgl (encN:=Ac) h300) (leK (JeH λ _=>rfl) (leZ))) (Dz (Jbm (encN:=Ac) (encD:=LV) h300 λ _=>rfl) (Dz rfl rfl)) (Fe h301) (Or.inr trivial) rfl (ck 1 (en (bk 0 (bx H λ y78 h311 H=>lX Ih h311 (tr (tr (tr (tr (BI 2 0 1 (by kernel_rfl)) (BI 2 1 1 (by kernel_rfl))) (BI 3 0 1 (by kernel_rfl))) (BI 3 1 1 (by kernel_rfl))) (gP [0,2,3,4,5,6] [0,1,2,3,4,5,6,7] (po1 (pn1 Ac b0_.Columns (po1 (po1 (po1 (po1 (po1 (po1 (Pl.z))))))))))) rfl λ s hE64=>qH (qs (hE64) (sr (ck 2 (en (re (by cases H;exact pL (rl (s':=JcZ b0_ z) (gP [2] [0,1,2,6,7] (po1 (pn1 Ac b0_.Columns (po1 (po1 (po1 (Pl.z))))))))))))))))))))))))))))))))))))
end
section
variable (p0_:Ad) (p1_:(List UInt8))
def JhA:St:=⟨(0,.agg [.d (.int .i64 p0_.Modes),.d (.int .u8 p0_.Accept),.d (.sl (List.map Am p0_.Rules))])::(1,.d (.str p1_))::[],[]⟩
variable {p0_ p1_}
theorem Vc {z} (H:MF n p0_ p1_=some z):AF Try.prog 30 [.agg (AK p0_),.d (.str p1_)] (.tup [.agg [.own 1 (List.map eU8 z.1.Cells),.own 1 (List.map Ae z.1.Path)],.d (.int .i64 z.2.1),.d (.int .i64 z.2.2)]):=by
 refine fO 50 (JhA p0_ p1_) Try.func30 (sr (ck 4 (en (sq (sr (ck 1 (bx H λ r68 h312 H=>ca true (IG h312) (ck 5 (en (sr (ck 2 (en (cn H (λ H=>?_) (λ H=>?_))))))))))))))
 ·exact sr (ck 6 (en (re (qr (by cases H;exact pr (rT (vs:=[.agg [.d (.nil),.d (.nil)],.d (.int .i64 r68.1),.d (.int .i64 r68.2)]) [] (t1 (a1 (c1 vz (c1 vz (c0)))) (t1 (ad vd) (t1 (ad vd) (t0))))))))))
 ·refine sk (qz (sq (sr (ck 1 (bx H λ r69 h313 H=>ca false (Vb h313) (ck 1 (en (cn H (λ H=>?_) (λ H=>?_)))))))))
  ·exact sr (ck 4 (en (re (qr (by cases H;exact pr (rT (vs:=[.agg [.d (.nil),.d (.nil)],.d (.int .i64 0),.d (.int .i64 61)]) [] (t1 (a1 (c1 vz (c1 vz (c0)))) (t1 (ad vd) (t1 (ad vd) (t0))))))))))
  ·refine sk (qz (sr (ck 2 (bx H λ r70 h314 H=>lt [] (PT h314) (tb (f:=Dy (Ct [] 2 0)) [some (.box (AK p0_)),some (.box [.d (.nil),.d (.nil)]),some (.box (Al r70 (.osl 3 2 0 (List.length r70.Columns)))),some (.narr 2 (List.map Ac r70.Columns))] (po1 (po1 (po1 (pn1 Ac r70.Columns (Pl.z))))) (ck 1 (en (sr (ck 1 (bx H λ r71 h315 H=>ltP [2,3] (M4 h315) (po1 (pn1 Ac r70.Columns (Pl.z))) (tb (f:=Dy (Ct [2,3] 4 2)) [some (.box (AK p0_)),some (.box [.d (.nil),.d (.nil)]),some (.box (Al r71 (.osl 3 2 0 (List.length r71.Columns)))),some (.narr 2 (List.map Ac r71.Columns))] (po1 (po1 (po1 (pn1 Ac r71.Columns (Pl.z))))) (en (sr (ck 1 (bx H λ r72 h316 H=>ltP [2,3] (M5 h316) (po1 (pn1 Ac r71.Columns (Pl.z))) (tb (f:=Dy (Ct [2,3] 4 2)) [some (.box (AK p0_)),some (.box [.d (.nil),.d (.nil)]),some (.box (Al r72 (.osl 3 2 0 (List.length r72.Columns)))),some (.narr 2 (List.map Ac r72.Columns))] (po1 (po1 (po1 (pn1 Ac r72.Columns (Pl.z))))) (en (sq (sq (bx H λ x128 h317 H=>rg (tr (so1 (encN:=Ac) 3 2 h317) (sno (encN:=Ac) (enc:=Ae) h317 [.own 1 (List.map Ae x128.States),.own 1 (List.map Ae x128.Costs)] x128.Costs 2 3 1 1)) (ck 4 (sp (Az 3 2 h317) (ck 1 (sp (Ch (encN:=Ac) (row:=[.own 1 (List.map Ae x128.States),.osl 4 1 0 (List.length x128.Costs)]) (k:=3) (sz:=2) (off:=1) (t:=ty 32) (v:=.osl 4 1 0 (List.length x128.Costs)) h317) (bx H λ x129 h318 H=>sp (Az 4 1 h318) (sp (CK Ae 4 0 (ty 3) h318) (ck 1 (en (cn H (λ H=>?_) (λ H=>?_))))))))))))))))))))))))))))))
   ·exact sq (rg (tr (tr (tr (sni (encN:=Ac) (xs:=r72.Columns) (n:=0) (enc:=Ae) [.own 1 (List.map Ae x128.States),.osl 4 1 0 (List.length x128.Costs)] x128.Costs 2 3 1 4 1) (scl (encN:=Ac) (xss:=r72.Columns) 0 [.own 1 (List.map Ae x128.States),.own 1 (List.map Ae x128.Costs)] 2 3 x128)) (sn 34 3 2 (lsS r72.Columns (Int.toNat 0) x128))) (snc 2 6 3 2 (lsS r72.Columns (Int.toNat 0) x128))) (ck 8 (en (re (qr (by cases H;exact pr (rT (vs:=[.agg [.d (.nil),.d (.nil)],.d (.int .i64 r72.Last),.d (.int .i64 61)]) [] (t1 (a1 (c1 vz (c1 vz (c0)))) (t1 (ad vd) (t1 (ad vd) (t0)))))))))))
   ·exact sk (qz (sq (rg (tr (tr (tr (sni (encN:=Ac) (xs:=r72.Columns) (n:=0) (enc:=Ae) [.own 1 (List.map Ae x128.States),.osl 4 1 0 (List.length x128.Costs)] x128.Costs 2 3 1 4 1) (scl (encN:=Ac) (xss:=r72.Columns) 0 [.own 1 (List.map Ae x128.States),.own 1 (List.map Ae x128.Costs)] 2 3 x128)) (sn 34 3 2 (lsS r72.Columns (Int.toNat 0) x128))) (snc 2 6 3 2 (lsS r72.Columns (Int.toNat 0) x128))) (ck 1 (bx H λ r73 h319 H=>ltP [2,3] (Ku h319) (po1 (pn1 Ac (List.set r72.Columns (Int.toNat 0) x128) (Pl.z))) (tb (f:=Dy (Ct [2,3] 5 2)) [some (.box (AK p0_)),some (.box [.d (.nil),.d (.nil)]),some (.box (Al r72 (.osl 3 2 0 (List.length (List.set r72.Columns (Int.toNat 0) x128))))),some (.narr 2 (List.map Ac (List.set r72.Columns (Int.toNat 0) x128))),none,some (.box [.osl 6 1 0 (List.length r73.Cells),.osl 7 1 0 (List.length r73.Path)]),some (.arr 1 (List.map eU8 r73.Cells)),some (.arr 1 (List.map Ae r73.Path))] (po1 (po1 (po1 (pn1 Ac (List.set r72.Columns (Int.toNat 0) x128) (po1 (po1 (po1 (po1 (Pl.z))))))))) (ck 5 (en (re (by cases H;exact pr (rT (vs:=[.agg [.osl 6 1 0 (List.length r73.Cells),.osl 7 1 0 (List.length r73.Path)],.d (.int .i64 ((List.length p1_:Nat):Int)),.d (.int .i64 0)]) [6,7] (t1 (a1 (c1 vo (c1 vo (c0)))) (t1 (ad vd) (t1 (ad vd) (t0)))))))))))))))
end
section
variable (p0_:Ad) (p1_:Bj)
def JhB:St:=⟨(0,.agg [.d (.int .i64 p0_.Modes),.d (.int .u8 p0_.Accept),.d (.sl (List.map Am p0_.Rules))])::(1,.agg [.d (.str p1_.Text),.d (.sl (List.map (eL Ae) p1_.Costs)),.d (.sl (List.map Ae p1_.Least))])::[],[]⟩
variable {p0_ p1_}
theorem Nn {z} (H:HS n p0_ p1_=some z):AF Try.prog 13 [.agg (AK p0_),.agg (FT p1_)] (.tup [.agg [.d (.sl (List.map eU8 z.1.Cells)),.d (.sl (List.map Ae z.1.Path))],.d (.int .i64 z.2)]):=by
 refine fO 21 (JhB p0_ p1_) Try.func13 (sr (ck 4 (en (sr (ck 3 (bx H λ r74 h320 H=>ca false (Vc h320) (ck 8 (en (sq (sr (ck 2 (en (cn H (λ H=>?_) (λ H=>?_))))))))))))))
 ·exact sr (ck 3 (en (re (qr (by cases H;exact pr (rT (vs:=[.agg [.d (.nil),.d (.nil)],.d (.int .i64 61)]) [] (t1 (a1 (c1 vn (c1 vn (c0)))) (t1 (ad vd) (t0)))))))))
 ·exact sk (qz (sr (ck 3 (en (re (by cases H;exact pr rdT))))))
end
section
variable (p0_:(List Int)) (p1_:(List Int)) (i_8:Int)
def JhC:St:=⟨(0,.d (.sl (List.map Ae p0_)))::(1,.d (.sl (List.map Ae p1_)))::[],[]⟩
def JhD:St:=⟨(0,.d (.sl (List.map Ae p0_)))::(1,.d (.sl (List.map Ae p1_)))::(5,.d (.int .i64 i_8))::[],[]⟩
def JhE:St:=⟨[],[]⟩
def Tl:(Unit⊕Bool)->Ex->St->Prop:=xS (xX 0 0 (λ (y:Unit)=>JhE)) (xR ty Try.f20 (λ (y:Bool)=>.d (.bool y)))
def No:Int->St:=(λ (x:Int)=>JhD p0_ p1_ x)
variable {p0_ p1_ i_8}
theorem L8 (x:Int) (z:(Int⊕(Unit⊕Bool))) (H:Ft n p0_ p1_ x=some z):WP (cxk 26 0) (AA Try.f20) [1,1,0,1,0,0] (Av 0 (No p0_ p1_) (Tl) z) (No p0_ p1_ x):=by
 revert H
 generalize x=i_8
 intro H
 refine sq (sr (ck 2 (sp (AC Ae p0_) (ck 1 (en (cn H (λ H=>?_) (λ H=>?_)))))))
 ·refine sk (qz (sq (bk 1 (sr (ck 2 (bx H λ x130 h321 H=>sp (Aq Ae h321) (ck 3 (bx H λ x131 h322 H=>sp (Aq Ae h322) (ck 2 (en (cn H (λ H=>?_) (λ H=>?_))))))))))))
  ·exact sr (ck 1 (en (re (qR (qr (by cases H;exact ro rfl rd))))))
  ·exact sk (qN (qz (rz (ck 3 (ae (by cases H;exact og (sg [0,1,5])))))))
 ·exact ex 0 (qx (by cases H;exact xo rfl (sg [])))
theorem FF {z} (H:Ec n p0_ p1_=some z):AF Try.prog 20 [.d (.sl (List.map Ae p0_)),.d (.sl (List.map Ae p1_))] (.d (.bool z)):=by
 refine fO 26 (JhC p0_ p1_) Try.func20 (sr (ck 1 (en (sq (sr (ck 1 (sp (AC Ae p0_) (ck 1 (sp (AC Ae p1_) (ck 1 (en (cn H (λ H=>?_) (λ H=>?_)))))))))))))
 ·exact sr (ck 1 (en (re (qr (by cases H;exact pr rd)))))
 ·refine sk (qz (sq (sr (ck 1 (en (bk 0 (bx H λ y79 h323 H=>?_)))))))
  rcases y79 with y80|y81
  ·exact lX L8 h323 (sg [0,1,5]) rfl λ s hE65=>qH (qs (hE65) (sr (ck 1 (en (re (by cases H;exact pr rd))))))
  ·exact lR L8 h323 (sg [0,1,5]) rfl λ s hE66=>qR (qr (by cases H;exact pr hE66))
end
section
variable (p0_:(List Int)) (p1_:(List Int)) (i_9:Int)
def JhF:St:=⟨(0,.d (.sl (List.map eU8 p0_)))::(1,.d (.sl (List.map eU8 p1_)))::[],[]⟩
def JhG:St:=⟨(0,.d (.sl (List.map eU8 p0_)))::(1,.d (.sl (List.map eU8 p1_)))::(5,.d (.int .i64 i_9))::[],[]⟩
def JhH:St:=⟨[],[]⟩
def NT:(Unit⊕Bool)->Ex->St->Prop:=xS (xX 0 0 (λ (y:Unit)=>JhH)) (xR ty Try.f37 (λ (y:Bool)=>.d (.bool y)))
def HZ:Int->St:=(λ (x:Int)=>JhG p0_ p1_ x)
variable {p0_ p1_ i_9}
theorem Hl (x:Int) (z:(Int⊕(Unit⊕Bool))) (H:CI n p0_ p1_ x=some z):WP (cxk 26 0) (AA Try.f37) [1,1,0,1,0,0] (Av 0 (HZ p0_ p1_) (NT) z) (HZ p0_ p1_ x):=by
 revert H
 generalize x=i_9
 intro H
 refine sq (sr (ck 2 (sp (AC eU8 p0_) (ck 1 (en (cn H (λ H=>?_) (λ H=>?_)))))))
 ·refine sk (qz (sq (bk 1 (sr (ck 2 (bx H λ x132 h324 H=>sp (Aq eU8 h324) (ck 3 (bx H λ x133 h325 H=>sp (Aq eU8 h325) (ck 2 (en (cn H (λ H=>?_) (λ H=>?_))))))))))))
  ·exact sr (ck 1 (en (re (qR (qr (by cases H;exact ro rfl rd))))))
  ·exact sk (qN (qz (rz (ck 3 (ae (by cases H;exact og (sg [0,1,5])))))))
 ·exact ex 0 (qx (by cases H;exact xo rfl (sg [])))
theorem JM {z} (H:Db n p0_ p1_=some z):AF Try.prog 37 [.d (.sl (List.map eU8 p0_)),.d (.sl (List.map eU8 p1_))] (.d (.bool z)):=by
 refine fO 26 (JhF p0_ p1_) Try.func37 (sr (ck 1 (en (sq (sr (ck 1 (sp (AC eU8 p0_) (ck 1 (sp (AC eU8 p1_) (ck 1 (en (cn H (λ H=>?_) (λ H=>?_)))))))))))))
 ·exact sr (ck 1 (en (re (qr (by cases H;exact pr rd)))))
 ·refine sk (qz (sq (sr (ck 1 (en (bk 0 (bx H λ y82 h326 H=>?_)))))))
  rcases y82 with y83|y84
  ·exact lX Hl h326 (sg [0,1,5]) rfl λ s hE67=>qH (qs (hE67) (sr (ck 1 (en (re (by cases H;exact pr rd))))))
  ·exact lR Hl h326 (sg [0,1,5]) rfl λ s hE68=>qR (qr (by cases H;exact pr hE68))
end
section
variable (p0_:AU) (p1_:AU)
def JhI:St:=⟨(0,.agg [.d (.sl (List.map eU8 p0_.Cells)),.d (.sl (List.map Ae p0_.Path))])::(1,.agg [.d (.sl (List.map eU8 p1_.Cells)),.d (.sl (List.map Ae p1_.Path))])::[],[]⟩
variable {p0_ p1_}
theorem WM {z} (H:OG n p0_ p1_=some z):AF Try.prog 15 [.agg [.d (.sl (List.map eU8 p0_.Cells)),.d (.sl (List.map Ae p0_.Path))],.agg [.d (.sl (List.map eU8 p1_.Cells)),.d (.sl (List.map Ae p1_.Path))]] (.d (.bool z)):=by
 exact fO 17 (JhI p0_ p1_) Try.func15 (sr (ck 3 (en (sr (ck 4 (bx H λ r75 h327 H=>ca false (JM h327) (ck 2 (gc 1 r75 (ck 1 (gc 1 r75 (bx H λ r76 h328 H=>cG false (leZ) rfl (λ hg=>FF (BO h328 hg)) (Or.inl rfl) (B6 (λ hh=>hh) (B6 (λ hh=>hh) (Em))) rfl (pA (ck 1 (en (re (by cases H;exact pr rd))))))))))))))))
end
def Jj7:St:=⟨[],[]⟩
theorem Tm {z} (H:HT n=some z):AF Try.prog 6 [] (.d (.bool z)):=by
 exact fO 139 Jj7 Try.func6 (sr (ck 1 (en (sr (bx H λ r77 h329 H=>ca false (Ti h329) (ck 2 (en (sr (ck 1 (bx H λ r78 h330 H=>ca false (Kj h330) (ck 6 (en (sr (ck 1 (bx H λ r79 h331 H=>ca false (Kj h331) (ck 6 (en (sr (ck 3 (bx H λ r80 h332 H=>ca false (DU h332) (ck 8 (en (sr (ck 3 (bx H λ r81 h333 H=>ca false (DU h333) (ck 8 (en (sr (ck 3 (bx H λ r82 h334 H=>ca false (DU h334) (ck 8 (en (sr (ck 2 (bx H λ r83 h335 H=>ca false (Nn h335) (ck 6 (en (sr (ck 1 (bx H λ r84 h336 H=>ca false (Kj h336) (ck 6 (en (sr (ck 2 (bx H λ r85 h337 H=>ca false (Nn h337) (ck 6 (en (sr (ck 4 (gc 1 (r78.2==0) (pA (ck 2 (gc 1 ((r78.2==0)&&(r79.2==60)) (pA (ck 2 (gc 1 (((r78.2==0)&&(r79.2==60))&&(r80.2.2==0)) (pA (ck 2 (gc 1 ((((r78.2==0)&&(r79.2==60))&&(r80.2.2==0))&&(r81.2.2==1)) (pA (ck 2 (gc 1 (((((r78.2==0)&&(r79.2==60))&&(r80.2.2==0))&&(r81.2.2==1))&&(r82.2.2==60)) (pA (ck 2 (gc 1 ((((((r78.2==0)&&(r79.2==60))&&(r80.2.2==0))&&(r81.2.2==1))&&(r82.2.2==60))&&(r83.2==0)) (pA (ck 2 (gc 1 (((((((r78.2==0)&&(r79.2==60))&&(r80.2.2==0))&&(r81.2.2==1))&&(r82.2.2==60))&&(r83.2==0))&&(r84.2==0)) (pA (ck 1 (en (sr (ck 3 (gc 1 ((((((((r78.2==0)&&(r79.2==60))&&(r80.2.2==0))&&(r81.2.2==1))&&(r82.2.2==60))&&(r83.2==0))&&(r84.2==0))&&(r85.2==61)) (ck 1 (bx H λ r86 h338 H=>cG (ks:=[9]) (obl:=[(0+List.length [2,1,1,0],List.length (List.map Ae [2,1,1,0]))]) false (leK leM (leZ)) (Dz rfl (Dz Sf rfl)) (λ hg=>FF (BO h338 hg)) (Or.inr trivial) (B6 (λ hh=>hh) (B6 (λ hh=>hh) (Em))) rfl (pA (ck 2 (gc 1 (((((((((r78.2==0)&&(r79.2==60))&&(r80.2.2==0))&&(r81.2.2==1))&&(r82.2.2==60))&&(r83.2==0))&&(r84.2==0))&&(r85.2==61))&&r86) (pA (ck 2 (gc 2 ((((((((((r78.2==0)&&(r79.2==60))&&(r80.2.2==0))&&(r81.2.2==1))&&(r82.2.2==60))&&(r83.2==0))&&(r84.2==0))&&(r85.2==61))&&r86)&&(r80.2.1==1)) (pA (ck 2 (gc 1 (((((((((((r78.2==0)&&(r79.2==60))&&(r80.2.2==0))&&(r81.2.2==1))&&(r82.2.2==60))&&(r83.2==0))&&(r84.2==0))&&(r85.2==61))&&r86)&&(r80.2.1==1))&&(r80.1.Text==[98,97,98])) (ck 1 (bx H λ r87 h339 H=>cG (ks:=[10]) (obl:=[(0+List.length [2,1,1,0],List.length (List.map Ae [2,1,1,0]))]) false (leK leM (leZ)) (Dz rfl (Dz Sf rfl)) (λ hg=>FF (BO h339 hg)) (Or.inr trivial) (B6 (λ hh=>hh) (B6 (λ hh=>hh) (Em))) rfl (pA (ck 4 (gc 1 ((((((((((((r78.2==0)&&(r79.2==60))&&(r80.2.2==0))&&(r81.2.2==1))&&(r82.2.2==60))&&(r83.2==0))&&(r84.2==0))&&(r85.2==61))&&r86)&&(r80.2.1==1))&&(r80.1.Text==[98,97,98]))&&r87) (bx H λ r88 h340 H=>cG (ks:=[11,12]) (obl:=[(0+List.length [1,7],List.length (List.map eU8 [1,7])),(0+List.length [0,2],List.length (List.map Ae [0,2]))]) false (leK leM (leK leM (leZ))) (Dz rfl (Dz (Jjh (Dz Sf (Dz Sf rfl))) rfl)) (λ hg=>WM (BO h340 hg)) (Or.inr trivial) (B6 (λ hh=>hh) (B6 (λ hh=>hh) (Em))) rfl (pA (ck 2 (gc 1 (((((((((((((r78.2==0)&&(r79.2==60))&&(r80.2.2==0))&&(r81.2.2==1))&&(r82.2.2==60))&&(r83.2==0))&&(r84.2==0))&&(r85.2==61))&&r86)&&(r80.2.1==1))&&(r80.1.Text==[98,97,98]))&&r87)&&r88) (ck 1 (bx H λ r89 h341 H=>cG (ks:=[13]) (obl:=[(0+List.length [(-1),0],List.length (List.map Ae [(-1),0]))]) false (leK leM (leZ)) (Dz rfl (Dz Sf rfl)) (λ hg=>FF (BO h341 hg)) (Or.inr trivial) (B6 (λ hh=>hh) (B6 (λ hh=>hh) (Em))) rfl (pA (ck 1 (en (re (by cases H;exact pr rd)))))))))))))))))))))))))))))))))))))))))))))))))))))))))))))))))))))))))))))))))))))))))))))))))))))
section
variable (p0_:(List UInt8)) (p1_:(List Int)) (p2_:(FJ Int))
def JhJ:St:=⟨(0,.d (.str p0_))::(1,.d (.sl (List.map eU8 p1_)))::(2,.agg [.d (.int .i64 p2_.a0),.d (.int .i64 p2_.a1)])::[],[]⟩
variable {p0_ p1_ p2_}
theorem AP {z} (H:A6 n p0_ p1_ p2_=some z):AF Try.prog 42 [.d (.str p0_),.d (.sl (List.map eU8 p1_)),.agg [.d (.int .i64 p2_.a0),.d (.int .i64 p2_.a1)]] (.agg [.d (.str z.Print),.d (.sl (List.map eU8 z.Cells)),.d (.int .u8 z.Left),.d (.int .u8 z.Right),.d (.int .i64 z.From),.d (.int .i64 z.To)]):=by
 exact fO 14 (JhJ p0_ p1_ p2_) Try.func42 (sr (ck 2 (en (sr (ck 8 (en (re (by cases H;exact pr rd))))))))
end
def JhK:St:=⟨[],[]⟩
theorem SA {z} (H:Qz n=some z):AF Try.prog 40 [] (.own 6 (List.map Am z)):=by
 exact fO 16 JhK Try.func40 (sr (ck 1 (en (sr (ck 3 (en (sr (sF (ck 1 (bx H λ r90 h342 H=>ca false (AP h342) (sF (ck 1 (bx H λ r91 h343 H=>ca false (AP h343) (sF (ck 1 (bx H λ r92 h344 H=>ca false (AP h344) (sF (ck 1 (bx H λ r93 h345 H=>ca false (AP h345) (ck 2 (en (re (by cases H;exact pr (rO (v:=.osl 1 6 0 (List.length [r90,r91,r92,r93])) [1] (ao vo)))))))))))))))))))))))))
section
variable (p0_:Int) (p1_:Int) (p2_:(FJ Int))
def JhL:St:=⟨(0,.d (.int .u8 p0_))::(1,.d (.int .i64 p1_))::(2,.agg [.d (.int .i64 p2_.a0),.d (.int .i64 p2_.a1)])::[],[]⟩
variable {p0_ p1_ p2_}
theorem Gz {z} (H:GM n p0_ p1_ p2_=some z):AF Try.prog 41 [.d (.int .u8 p0_),.d (.int .i64 p1_),.agg [.d (.int .i64 p2_.a0),.d (.int .i64 p2_.a1)]] (.agg [.d (.str z.Print),.d (.sl (List.map eU8 z.Cells)),.d (.int .u8 z.Left),.d (.int .u8 z.Right),.d (.int .i64 z.From),.d (.int .i64 z.To)]):=by
 exact fO 16 (JhL p0_ p1_ p2_) Try.func41 (sr (ck 2 (en (sr (ck 1 (sF (ck 1 (bx H λ r94 h346 H=>ca false (AP h346) (ck 2 (en (sr (ck 1 (bx H λ gd9 h347 H=>so (HO h347) (ck 2 (en (sr (ck 2 (en (re (by cases H;exact pr rd))))))))))))))))))))
end
section
variable (p0_:Int) (l_1:(List Ax))
def JhM:St:=⟨(0,.d (.int .u8 p0_))::[],[]⟩
def JhN:St:=⟨(2,.ptr 0 0)::(3,.osl 1 6 0 (List.length l_1))::[],[some (.box [.d (.int .i64 0),.d (.int .u8 0),.osl 2 6 0 (List.length ([]:List Ax))]),some (.arr 6 (List.map Am l_1)),some (.arr 6 (List.map Am ([]:List Ax)))]⟩
variable {p0_ l_1}
theorem WN {z} (H:JB n p0_=some z):AF Try.prog 21 [.d (.int .u8 p0_)] (.agg [.d (.int .i64 z.Modes),.d (.int .u8 z.Accept),.own 6 (List.map Am z.Rules)]):=by
 refine fO 121 (JhM p0_) Try.func21 (sr (ck 1 (en (sr (bx H λ r95 h348 H=>cl [List.length r95] (SA h348) (ck 13 (en (sj (λ (x:(List Ax))=>JhN x) (λ (x:(List Ax))=>Fu n x) z ?_ (λ hFR2_Base_J1=>?_)))))))))
 ·intro l_1 H
  exact sr (ck 3 (en (re (by cases H;exact pr (rO (v:=.agg [.d (.int .i64 1),.d (.int .u8 1),.osl 1 6 0 (List.length l_1)]) [1] (a1 (c1 vd (c1 vd (c1 vo (c0))))))))))
 refine sr (ck 2 (en (bk 0 (sr (ck 2 (en (cn H (λ H=>?_) (λ H=>?_))))))))
 ·exact sr (ck 2 (bx H λ r96 h349 H=>ca false (Gz h349) (sF (ck 1 (bx H λ r97 h350 H=>ca false (AP h350) (sF (ck 1 (bx H λ r98 h351 H=>ca false (AP h351) (sF (ck 1 (bx H λ r99 h352 H=>ca false (AP h352) (ck 1 (bx H λ l43 h353 H=>sp (B3 Am 1 6 h353) (ck 1 (en (sr (ck 3 (en (re (qR (qr (by cases H;exact pr (rO (v:=.agg [.d (.int .i64 2),.d (.int .u8 3),.osl 7 6 0 (List.length l43)]) [7] (a1 (c1 vd (c1 vd (c1 vo (c0))))))))))))))))))))))))))))
 ·refine sr (ck 2 (en (cn H (λ H=>?_) (λ H=>?_))))
  ·exact sr (ck 2 (bx H λ r100 h354 H=>ca false (Gz h354) (sF (ck 1 (bx H λ r101 h355 H=>ca false (AP h355) (sF (ck 1 (bx H λ r102 h356 H=>ca false (AP h356) (ck 1 (bx H λ l44 h357 H=>sp (B3 Am 1 6 h357) (ck 1 (en (sr (ck 3 (en (re (qR (qr (by cases H;exact pr (rO (v:=.agg [.d (.int .i64 2),.d (.int .u8 1),.osl 7 6 0 (List.length l44)]) [7] (a1 (c1 vd (c1 vd (c1 vo (c0)))))))))))))))))))))))))
  ·refine sr (ck 2 (en (cn H (λ H=>?_) (λ H=>?_))))
   ·exact rz (ck 1 (sF (ck 1 (bx H λ r103 h358 H=>ca false (AP h358) (sF (ck 1 (bx H λ r104 h359 H=>ca false (AP h359) (sF (ck 1 (bx H λ r105 h360 H=>ca false (AP h360) (ck 1 (bx H λ l45 h361 H=>sp (B3 Am 1 6 h361) (ck 1 (ae (qN (qs (tr (BI 0 2 6 (by kernel_rfl)) (sg [2,3])) (hFR2_Base_J1 l45 H)))))))))))))))))
   ·refine sr (ck 2 (en (cn H (λ H=>?_) (λ H=>?_))))
    ·exact rz (ck 1 (sF (ck 1 (bx H λ r106 h362 H=>ca false (AP h362) (ck 1 (bx H λ l46 h363 H=>sp (B3 Am 1 6 h363) (ck 1 (ae (qN (qs (tr (BI 0 2 6 (by kernel_rfl)) (sg [2,3])) (hFR2_Base_J1 l46 H)))))))))))
    ·refine sr (ck 2 (en (cn H (λ H=>?_) (λ H=>?_))))
     ·exact sr (sF (ck 1 (bx H λ r107 h364 H=>ca false (AP h364) (sF (ck 1 (bx H λ r108 h365 H=>ca false (AP h365) (ck 4 (en (sr (ck 4 (en (rz (ck 3 (sF (ck 1 (bx H λ r109 h366 H=>ca false (AP h366) (ck 1 (bx H λ l47 h367 H=>sp (B3 Am 1 6 h367) (ck 1 (ae (qN (qs (tr (BI 0 2 6 (by kernel_rfl)) (sg [2,3])) (hFR2_Base_J1 l47 H)))))))))))))))))))))))
     ·refine sr (ck 2 (en (cn H (λ H=>?_) (λ H=>?_))))
      ·exact sr (ck 2 (bx H λ r110 h368 H=>ca false (Gz h368) (sF (ck 1 (bx H λ r111 h369 H=>ca false (AP h369) (sF (ck 1 (bx H λ r112 h370 H=>ca false (AP h370) (ck 1 (bx H λ l48 h371 H=>sp (B3 Am 1 6 h371) (ck 1 (en (sr (ck 3 (en (re (qR (qr (by cases H;exact pr (rO (v:=.agg [.d (.int .i64 2),.d (.int .u8 1),.osl 7 6 0 (List.length l48)]) [7] (a1 (c1 vd (c1 vd (c1 vo (c0)))))))))))))))))))))))))
      ·refine sr (ck 2 (en (cn H (λ H=>?_) (λ H=>?_))))
       ·exact rz (ck 1 (sF (ck 1 (bx H λ r113 h372 H=>ca false (AP h372) (sF (ck 1 (bx H λ r114 h373 H=>ca false (AP h373) (sF (ck 1 (bx H λ r115 h374 H=>ca false (AP h374) (ck 1 (bx H λ l49 h375 H=>sp (B3 Am 1 6 h375) (ck 1 (ae (qN (qs (tr (BI 0 2 6 (by kernel_rfl)) (sg [2,3])) (hFR2_Base_J1 l49 H)))))))))))))))))
       ·exact sk (qN (qs (tr (BI 0 2 6 (by kernel_rfl)) (sg [2,3])) (hFR2_Base_J1 r95 H)))
end
section
variable (p0_:Dp) (p1_:Int) (out_1:Ax) (i_10:Int) (out_2:Ax) (out_3:Ax) (i_11:Int) (out_4:Ax)
def JhO:St:=⟨(0,.agg [.d (.sl (List.map eU8 p0_.P)),.d (.sl (List.map eU8 p0_.C)),.d (.int .u8 p0_.L),.d (.int .u8 p0_.R),.d (.int .u8 p0_.W.a0),.d (.int .u8 p0_.W.a1)])::(1,.d (.int .i64 p1_))::[],[]⟩
def JhP:St:=⟨(2,.ptr 0 0)::(4,.ptr 1 0)::(5,.d (.str [97,98,99,65,66,49,50,45,46]))::(7,.ptr 2 0)::(8,.d (.int .i64 i_10))::[],[some (.box (OK p0_)),some (.box [.d (.str []),.osl 3 1 0 (List.length ([]:List Int)),.d (.int .u8 0),.d (.int .u8 0),.d (.int .i64 0),.d (.int .i64 0)]),some (.box (Rc out_1 (.osl 4 1 0 (List.length out_1.Cells)))),some (.arr 1 (List.map eU8 ([]:List Int))),some (.arr 1 (List.map eU8 out_1.Cells))]⟩
def JhQ:St:=⟨(2,.ptr 0 0)::(4,.ptr 1 0)::(7,.ptr 2 0)::[],[some (.box (OK p0_)),some (.box [.d (.str []),.osl 3 1 0 (List.length ([]:List Int)),.d (.int .u8 0),.d (.int .u8 0),.d (.int .i64 0),.d (.int .i64 0)]),some (.box (Rc out_2 (.osl 4 1 0 (List.length out_2.Cells)))),some (.arr 1 (List.map eU8 ([]:List Int))),some (.arr 1 (List.map eU8 out_2.Cells))]⟩
def Tn:Ax->Ex->St->Prop:=xX 0 0 (λ (y:Ax)=>JhQ p0_ y)
def Np:(Ax×Int)->St:=(λ (x:(Ax×Int))=>JhP p0_ x.1 x.2)
def JhR:St:=⟨(2,.ptr 0 0)::(4,.ptr 1 0)::(7,.ptr 2 0)::(10,.osl 3 1 0 (List.length [1,3,9,5,7,32,44,60]))::(11,.d (.int .i64 i_11))::[],[some (.box (OK p0_)),some (.box [.d (.str []),.osl 4 1 0 (List.length ([]:List Int)),.d (.int .u8 0),.d (.int .u8 0),.d (.int .i64 0),.d (.int .i64 0)]),some (.box (Rc out_3 (.osl 5 1 0 (List.length out_3.Cells)))),some (.arr 1 (List.map eU8 [1,3,9,5,7,32,44,60])),some (.arr 1 (List.map eU8 ([]:List Int))),some (.arr 1 (List.map eU8 out_3.Cells))]⟩
def JhS:St:=⟨(4,.ptr 0 0)::(7,.ptr 1 0)::[],[some (.box [.d (.str []),.osl 2 1 0 (List.length ([]:List Int)),.d (.int .u8 0),.d (.int .u8 0),.d (.int .i64 0),.d (.int .i64 0)]),some (.box (Rc out_4 (.osl 3 1 0 (List.length out_4.Cells)))),some (.arr 1 (List.map eU8 ([]:List Int))),some (.arr 1 (List.map eU8 out_4.Cells))]⟩
def Tp:Ax->Ex->St->Prop:=xX 0 2 (λ (y:Ax)=>JhS y)
def Nq:(Ax×Int)->St:=(λ (x:(Ax×Int))=>JhR p0_ x.1 x.2)
variable {p0_ p1_ out_1 i_10 out_2 out_3 i_11 out_4}
theorem SB (x:(Ax×Int)) (z:((Ax×Int)⊕Ax)) (H:Fv n p0_ x.1 x.2=some z):WP (cxk 101 0) (AA Try.f22) [1,1,1,0,1,0,0] (Av 0 (Np p0_) (Tn p0_) z) (Np p0_ x):=by
 obtain ⟨out_1,i_10⟩:=x
 refine sq (sr (ck 3 (sp (AC eU8 p0_.P) (ck 3 (gc 1 (decide (i_10<((List.length p0_.P:Nat):Int))) (pA (en (cn H (λ H=>?_) (λ H=>?_)))))))))
 ·exact sk (qz (sq (bk 1 (sr (ck 3 (bx H λ x136 h380 H=>sp (Aq eU8 h380) (ck 4 (en (rz (ck 6 (bx H λ s9 h381 H=>sp (GH h381) (bx H λ s10 h382 H=>sp (Py h382) (ck 2 (ae (qN (qz (rz (ck 3 (ae (by cases H;exact og (sg [2,4,5,7,8])))))))))))))))))))))
 ·exact ex 0 (qx (by cases H;exact xo rfl (sg [2,4,7])))
theorem SC (x:(Ax×Int)) (z:((Ax×Int)⊕Ax)) (H:Fw n p0_ x.1 x.2=some z):WP (cxk 101 0) (AA Try.f22) [1,1,1,1,1,1,0,1,0,0] (Av 0 (Nq p0_) (Tp) z) (Nq p0_ x):=by
 obtain ⟨out_3,i_11⟩:=x
 refine sq (sr (ck 3 (sp (AC eU8 p0_.C) (ck 3 (gc 1 (decide (i_11<((List.length p0_.C:Nat):Int))) (pA (en (cn H (λ H=>?_) (λ H=>?_)))))))))
 ·exact sk (qz (sq (bk 3 (rz (ck 6 (bx H λ x138 h385 H=>sp (Aq eU8 h385) (ck 2 (bx H λ x139 h386 H=>sp (Az 3 1 h386) (sp (CK eU8 3 0 (ty 64) h386) (ck 1 (bx H λ l50 h387 H=>sp (B3 eU8 5 1 h387) (ck 2 (ae (qN (qz (rz (ck 3 (ae (by cases H;exact og (sg [2,4,7,10,11]))))))))))))))))))))
 ·exact ex 2 (qx (by cases H;exact xo rfl (sg [4,7])))
theorem WO {z} (H:OH n p0_ p1_=some z):AF Try.prog 22 [.agg (OK p0_),.d (.int .i64 p1_)] (.agg [.d (.str z.Print),.own 1 (List.map eU8 z.Cells),.d (.int .u8 z.Left),.d (.int .u8 z.Right),.d (.int .i64 z.From),.d (.int .i64 z.To)]):=by
 exact fO 101 (JhO p0_ p1_) Try.func22 (sr (ck 2 (en (sr (ck 3 (en (sr (ck 4 (bx H λ x134 h376 H=>sp (Az 2 1 h376) (sp (CK eU8 2 0 (ty 5) h376) (ck 4 (bx H λ x135 h377 H=>sp (Az 2 1 h377) (sp (CK eU8 2 0 (ty 5) h377) (ck 5 (bx H λ gd10 h378 H=>so (LO h378) (ck 5 (bx H λ gd11 h379 H=>so (LO h379) (ck 3 (en (sq (sr (ck 1 (en (bk 0 (bx H λ y85 h383 H=>lX SB h383 (tr (tr (BI 1 1 1 (by kernel_rfl)) (BI 3 1 1 (by kernel_rfl))) (sg [2,4,5,7,8])) rfl λ s hE69=>qH (qs (hE69) (sr (ck 2 (en (sr (ck 5 (bx H λ x137 h384 H=>sp (Az 5 1 h384) (sp (CK eU8 5 0 (ty 64) h384) (ck 3 (en (sq (sr (ck 1 (en (bk 2 (bx H λ y86 h388 H=>lX SC h388 (sg [2,4,7,10,11]) rfl λ s hE70=>qH (qs (hE70) (sr (ck 2 (en (re (by cases H;exact pr (rO (v:=.agg [.d (.str z.Print),.osl 3 1 0 (List.length z.Cells),.d (.int .u8 z.Left),.d (.int .u8 z.Right),.d (.int .i64 z.From),.d (.int .i64 z.To)]) [3] (a1 (c1 vd (c1 vo (c1 vd (c1 vd (c1 vd (c1 vd (c0))))))))))))))))))))))))))))))))))))))))))))))))))))))))
end
section
variable (p0_:Int)
def JhT:St:=⟨(0,.d (.int .u8 p0_))::[],[]⟩
variable {p0_}
theorem PU {z} (H:I8 n p0_=some z):AF Try.prog 55 [.d (.int .u8 p0_)] (.d (.bool z)):=by
 exact fO 11 (JhT p0_) Try.func55 (sr (ck 1 (en (sr (ck 5 (gc 2 (decide (Cg .u8 p0_ 127≥32)) (pA (ck 1 (en (re (by cases H;exact pr rd)))))))))))
end
section
variable (p0_:(List UInt8)) (i_12:Int)
def JhU:St:=⟨(0,.d (.str p0_))::[],[]⟩
def JhV:St:=⟨(0,.d (.str p0_))::(4,.d (.int .i64 i_12))::[],[]⟩
def JhW:St:=⟨(0,.d (.str p0_))::[],[]⟩
def Tq:(Unit⊕(Int×Int))->Ex->St->Prop:=xS (xX 0 0 (λ (y:Unit)=>JhW p0_)) (xR ty Try.f29 (λ (y:(Int×Int))=>.tup [.d (.int .i64 y.1),.d (.int .i64 y.2)]))
def Nr:Int->St:=(λ (x:Int)=>JhV p0_ x)
variable {p0_ i_12}
theorem L9 (x:Int) (z:(Int⊕(Unit⊕(Int×Int)))) (H:IC n p0_ x=some z):WP (cxk 19 0) (AA Try.f29) [1,0,1,0,0] (Av 0 (Nr p0_) (Tq p0_) z) (Nr p0_ x):=by
 revert H
 generalize x=i_12
 intro H
 refine sq (sr (ck 4 (en (cn H (λ H=>?_) (λ H=>?_)))))
 ·refine sk (qz (sq (bk 1 (sr (ck 2 (bx H λ b6 h389 H=>sp (Hq h389) (bx H λ r116 h390 H=>ca false (PU h390) (ck 1 (en (cn H (λ H=>?_) (λ H=>?_)))))))))))
  ·exact sr (ck 3 (en (re (qR (qr (by cases H;exact ro rfl rdT))))))
  ·exact sk (qN (qz (rz (ck 3 (ae (by cases H;exact og (sg [0,4])))))))
 ·exact ex 0 (qx (by cases H;exact xo rfl (sg [0])))
theorem WQ {z} (H:OI n p0_=some z):AF Try.prog 29 [.d (.str p0_)] (.tup [.d (.int .i64 z.1),.d (.int .i64 z.2)]):=by
 refine fO 19 (JhU p0_) Try.func29 (sr (ck 2 (en (sq (sr (ck 1 (en (bk 0 (bx H λ y87 h391 H=>?_)))))))))
 rcases y87 with y88|y89
 ·exact lX L9 h391 (sg [0,4]) rfl λ s hE71=>qH (qs (hE71) (sr (ck 4 (en (re (by cases H;exact pr rdT))))))
 ·exact lR L9 h391 (sg [0,4]) rfl λ s hE72=>qR (qr (by cases H;exact pr hE72))
end
section
variable (p0_:(List UInt8))
def JhX:St:=⟨(0,.d (.str p0_))::[],[]⟩
variable {p0_}
theorem Tr {z} (H:Kd n p0_=some z):AF Try.prog 12 [.d (.str p0_)] (.d (.bool z)):=by
 exact fO 12 (JhX p0_) Try.func12 (sr (ck 1 (en (sr (ck 1 (bx H λ r117 h392 H=>ca false (WQ h392) (ck 5 (en (sr (ck 3 (en (re (by cases H;exact pr rd)))))))))))))
end
section
variable (p0_:Int)
def JhY:St:=⟨(0,.d (.int .u8 p0_))::[],[]⟩
variable {p0_}
theorem Vd {z} (H:PE n p0_=some z):AF Try.prog 77 [.d (.int .u8 p0_)] (.d (.bool z)):=by
 exact fO 6 (JhY p0_) Try.func77 (sr (ck 1 (en (sr (ck 4 (en (re (by cases H;exact pr rd))))))))
end
section
variable (p0_:Ax) (p1_:Int) (space_1:Bool) (i_13:Int) (space_2:Bool) (y90:Bool) (blank_1:Bool) (i_14:Int) (blank_2:Bool)
def JhZ:St:=⟨(0,.agg [.d (.str p0_.Print),.d (.sl (List.map eU8 p0_.Cells)),.d (.int .u8 p0_.Left),.d (.int .u8 p0_.Right),.d (.int .i64 p0_.From),.d (.int .i64 p0_.To)])::(1,.d (.int .i64 p1_))::[],[]⟩
def Jh0:St:=⟨(2,.ptr 0 0)::(5,.d (.bool space_1))::(6,.d (.bool false))::(7,.d (.int .i64 i_13))::[],[some (.box (LW p0_))]⟩
def Jh1:St:=⟨(2,.ptr 0 0)::(5,.d (.bool space_2))::(6,.d (.bool false))::[],[some (.box (LW p0_))]⟩
def SD:Bool->Ex->St->Prop:=xX 0 0 (λ (y:Bool)=>Jh1 p0_ y)
def Ma:(Bool×Int)->St:=(λ (x:(Bool×Int))=>Jh0 p0_ x.1 x.2)
def Jh2:St:=⟨(2,.ptr 0 0)::(5,.d (.bool y90))::(6,.d (.bool blank_1))::(8,.d (.int .i64 i_14))::[],[some (.box (LW p0_))]⟩
def Jh3:St:=⟨(2,.ptr 0 0)::(5,.d (.bool y90))::(6,.d (.bool blank_2))::[],[some (.box (LW p0_))]⟩
def SE:(Bool⊕Bool)->Ex->St->Prop:=xS (xX 0 2 (λ (y:Bool)=>Jh3 p0_ y90 y)) (xR ty Try.f65 (λ (y:Bool)=>.d (.bool y)))
def Mb:(Bool×Int)->St:=(λ (x:(Bool×Int))=>Jh2 p0_ y90 x.1 x.2)
variable {p0_ p1_ space_1 i_13 space_2 y90 blank_1 i_14 blank_2}
theorem QT (x:(Bool×Int)) (z:((Bool×Int)⊕Bool)) (H:Ey n p0_ x.1 x.2=some z):WP (cxk 125 0) (AA Try.f65) [1,1,1,1,0,1,0,0] (Av 0 (Ma p0_) (SD p0_) z) (Ma p0_ x):=by
 obtain ⟨space_1,i_13⟩:=x
 refine sq (sr (ck 5 (en (cn H (λ H=>?_) (λ H=>?_)))))
 ·exact sk (qz (sq (bk 1 (rz (ck 3 (gc 1 (!space_1) (ck 1 (bx H λ b7 h394 H=>sE (λ hg=>Hq (BO h394 hg)) (bx H λ r119 h395 H=>cG false (leZ) rfl (λ hg=>Vd (BO h395 hg)) (Or.inl rfl) (B6 (λ hh=>hh) (Em)) rfl (pO (ck 1 (ae (qN (qz (rz (ck 3 (ae (by cases H;exact og (sg [2,5,6,7])))))))))))))))))))
 ·exact ex 0 (qx (by cases H;exact xo rfl (sg [2,5,6])))
theorem K8 (x:(Bool×Int)) (z:((Bool×Int)⊕(Bool⊕Bool))) (H:DE n p0_ y90 x.1 x.2=some z):WP (cxk 125 0) (AA Try.f65) [1,1,1,1,1,0,1,0,0] (Av 0 (Mb p0_ y90) (SE p0_ y90) z) (Mb p0_ y90 x):=by
 obtain ⟨blank_1,i_14⟩:=x
 refine sq (sr (ck 3 (sp (AC eU8 p0_.Cells) (ck 1 (en (cn H (λ H=>?_) (λ H=>?_)))))))
 ·refine sk (qz (sq (bk 3 (sq (sr (ck 3 (bx H λ x140 h397 H=>sp (Aq eU8 h397) (ck 2 (en (cn H (λ H=>?_) (λ H=>?_)))))))))))
  ·exact sr (ck 1 (en (re (qr (qR (qr (by cases H;exact ro rfl rd)))))))
  ·exact sk (qz (rz (ck 3 (gc 1 (!blank_1) (ck 1 (bx H λ x141 h398 H=>sE (λ hg=>Aq eU8 (BO h398 hg)) (gc 2 (!blank_1) (pO (ck 1 (ae (qN (qz (rz (ck 3 (ae (by cases H;exact og (sg [2,5,6,8])))))))))))))))))
 ·exact ex 2 (qx (by cases H;exact xo rfl (sg [2,5,6])))
theorem Ve {z} (H:MG n p0_ p1_=some z):AF Try.prog 65 [.agg (LW p0_),.d (.int .i64 p1_)] (.d (.bool z)):=by
 refine fO 125 (JhZ p0_ p1_) Try.func65 (sr (ck 2 (en (sq (sr (ck 2 (bx H λ r118 h393 H=>ca false (Tr h393) (ck 3 (gc 3 (!(!r118)) (pO (ck 2 (gc 1 (!((!r118)||(decide (((List.length p0_.Print:Nat):Int)>4)))) (sE (g:=(!((!r118)||(decide (((List.length p0_.Print:Nat):Int)>4))))) (λ hg=>AC eU8 p0_.Cells) (gc 1 (!((!r118)||(decide (((List.length p0_.Print:Nat):Int)>4)))) (pO (ck 2 (gc 1 (!(((!r118)||(decide (((List.length p0_.Print:Nat):Int)>4)))||(decide (((List.length p0_.Cells:Nat):Int)<1)))) (sE (g:=(!(((!r118)||(decide (((List.length p0_.Print:Nat):Int)>4)))||(decide (((List.length p0_.Cells:Nat):Int)<1))))) (λ hg=>AC eU8 p0_.Cells) (gc 1 (!(((!r118)||(decide (((List.length p0_.Print:Nat):Int)>4)))||(decide (((List.length p0_.Cells:Nat):Int)<1)))) (pO (en (cn H (λ H=>?_) (λ H=>?_)))))))))))))))))))))))
 ·exact sr (ck 1 (en (re (qr (by cases H;exact pr rd)))))
 ·refine sk (qz (sq (sr (ck 5 (gc 2 (!(decide (p0_.Left<1))) (pO (ck 2 (gc 2 (!((decide (p0_.Left<1))||(decide (p0_.Left>63)))) (pO (ck 2 (gc 2 (!(((decide (p0_.Left<1))||(decide (p0_.Left>63)))||(decide (p0_.Right<1)))) (pO (ck 2 (gc 2 (!((((decide (p0_.Left<1))||(decide (p0_.Left>63)))||(decide (p0_.Right<1)))||(decide (p0_.Right>63)))) (pO (ck 2 (gc 1 (!(((((decide (p0_.Left<1))||(decide (p0_.Left>63)))||(decide (p0_.Right<1)))||(decide (p0_.Right>63)))||(decide (p0_.From<0)))) (ck 1 (gc 1 (!(((((decide (p0_.Left<1))||(decide (p0_.Left>63)))||(decide (p0_.Right<1)))||(decide (p0_.Right>63)))||(decide (p0_.From<0)))) (pO (ck 2 (gc 2 (!((((((decide (p0_.Left<1))||(decide (p0_.Left>63)))||(decide (p0_.Right<1)))||(decide (p0_.Right>63)))||(decide (p0_.From<0)))||(decide (p0_.From≥p1_)))) (pO (ck 2 (gc 1 (!(((((((decide (p0_.Left<1))||(decide (p0_.Left>63)))||(decide (p0_.Right<1)))||(decide (p0_.Right>63)))||(decide (p0_.From<0)))||(decide (p0_.From≥p1_)))||(decide (p0_.To<0)))) (ck 1 (gc 1 (!(((((((decide (p0_.Left<1))||(decide (p0_.Left>63)))||(decide (p0_.Right<1)))||(decide (p0_.Right>63)))||(decide (p0_.From<0)))||(decide (p0_.From≥p1_)))||(decide (p0_.To<0)))) (pO (en (cn H (λ H=>?_) (λ H=>?_)))))))))))))))))))))))))))))))
  ·exact sr (ck 1 (en (re (qr (by cases H;exact pr rd)))))
  ·refine sk (qz (sr (ck 2 (en (sq (sr (ck 1 (en (bk 0 (bx H λ y90 h396 H=>lX QT h396 (sg [2,5,6,7]) rfl λ s hE73=>qH (qs (hE73) (sq (sr (ck 1 (en (bk 2 (bx H λ y91 h399 H=>?_)))))))))))))))))
   rcases y91 with y92|y93
   ·refine lX K8 h399 (sg [2,5,6,8]) rfl λ s hE74=>qH (qs (hE74) (sq (sr (ck 2 (en (cn H (λ H=>?_) (λ H=>?_)))))))
    ·exact sr (ck 3 (en (re (qr (by cases H;exact pr rd)))))
    ·exact sk (qz (sr (ck 6 (gc 1 (((List.length p0_.Print:Nat):Int)==1) (sE (g:=(((List.length p0_.Print:Nat):Int)==1)) (λ hg=>AC eU8 p0_.Cells) (gc 1 (((List.length p0_.Print:Nat):Int)==1) (pA (ck 2 (pA (ck 1 (en (re (by cases H;exact pr rd)))))))))))))
   ·exact lR K8 h399 (sg [2,5,6,8]) rfl λ s hE75=>qR (qr (by cases H;exact pr hE75))
end
section
variable (p0_:Ax) (p1_:Ax)
def Jh4:St:=⟨(0,.agg [.d (.str p0_.Print),.d (.sl (List.map eU8 p0_.Cells)),.d (.int .u8 p0_.Left),.d (.int .u8 p0_.Right),.d (.int .i64 p0_.From),.d (.int .i64 p0_.To)])::(1,.agg [.d (.str p1_.Print),.d (.sl (List.map eU8 p1_.Cells)),.d (.int .u8 p1_.Left),.d (.int .u8 p1_.Right),.d (.int .i64 p1_.From),.d (.int .i64 p1_.To)])::[],[]⟩
variable {p0_ p1_}
theorem QU {z} (H:Hy n p0_ p1_=some z):AF Try.prog 66 [.agg (LW p0_),.agg (LW p1_)] (.d (.bool z)):=by
 exact fO 45 (Jh4 p0_ p1_) Try.func66 (sr (ck 3 (en (sr (ck 7 (gc 1 (p0_.Print==p1_.Print) (ck 1 (gc 1 (p0_.Print==p1_.Print) (bx H λ r120 h400 H=>cG false (leZ) rfl (λ hg=>JM (BO h400 hg)) (Or.inl rfl) (B6 (λ hh=>hh) (B6 (λ hh=>hh) (Em))) rfl (pA (ck 2 (gc 1 ((p0_.Print==p1_.Print)&&r120) (ck 1 (gc 2 ((p0_.Print==p1_.Print)&&r120) (pA (ck 2 (gc 1 (((p0_.Print==p1_.Print)&&r120)&&(p0_.Left==p1_.Left)) (ck 1 (gc 2 (((p0_.Print==p1_.Print)&&r120)&&(p0_.Left==p1_.Left)) (pA (ck 2 (gc 1 ((((p0_.Print==p1_.Print)&&r120)&&(p0_.Left==p1_.Left))&&(p0_.Right==p1_.Right)) (ck 1 (gc 2 ((((p0_.Print==p1_.Print)&&r120)&&(p0_.Left==p1_.Left))&&(p0_.Right==p1_.Right)) (pA (ck 2 (gc 1 (((((p0_.Print==p1_.Print)&&r120)&&(p0_.Left==p1_.Left))&&(p0_.Right==p1_.Right))&&(p0_.From==p1_.From)) (ck 1 (gc 2 (((((p0_.Print==p1_.Print)&&r120)&&(p0_.Left==p1_.Left))&&(p0_.Right==p1_.Right))&&(p0_.From==p1_.From)) (pA (ck 1 (en (re (by cases H;exact pr rd))))))))))))))))))))))))))))))))))
end
section
variable (p0_:Ad) (i_15:Int) (k_2:Int)
def Jh5:St:=⟨(0,.agg [.d (.int .i64 p0_.Modes),.d (.int .u8 p0_.Accept),.d (.sl (List.map Am p0_.Rules))])::[],[]⟩
def Jh6:St:=⟨(1,.ptr 0 0)::(4,.d (.int .i64 i_15))::[],[some (.box (AK p0_))]⟩
def Jh7:St:=⟨[],[]⟩
def Jh8:St:=⟨(1,.ptr 0 0)::(4,.d (.int .i64 i_15))::(5,.d (.int .i64 k_2))::[],[some (.box (AK p0_))]⟩
def Jh9:St:=⟨(1,.ptr 0 0)::(4,.d (.int .i64 i_15))::[],[some (.box (AK p0_))]⟩
def SF:(Unit⊕(Int×Int))->Ex->St->Prop:=xS (xX 0 2 (λ (y:Unit)=>Jh9 p0_ i_15)) (xR ty Try.f43 (λ (y:(Int×Int))=>.tup [.d (.int .i64 y.1),.d (.int .i64 y.2)]))
def Mc:Int->St:=(λ (x:Int)=>Jh8 p0_ i_15 x)
def SG:(Unit⊕(Int×Int))->Ex->St->Prop:=xS (xX 0 0 (λ (y:Unit)=>Jh7)) (xR ty Try.f43 (λ (y:(Int×Int))=>.tup [.d (.int .i64 y.1),.d (.int .i64 y.2)]))
def Md:Int->St:=(λ (x:Int)=>Jh6 p0_ x)
variable {p0_ i_15 k_2}
theorem K9 (x:Int) (z:(Int⊕(Unit⊕(Int×Int)))) (H:FP n p0_ i_15 x=some z):WP (cxk 74 0) (AA Try.f43) [1,1,0,1,0,0,1,0,0,1,1,0,0] (Av 0 (Mc p0_ i_15) (SF p0_ i_15) z) (Mc p0_ i_15 x):=by
 revert H
 generalize x=k_2
 intro H
 refine sq (sr (ck 3 (en (cn H (λ H=>?_) (λ H=>?_)))))
 ·refine sk (qz (sq (bk 3 (sr (ck 3 (bx H λ x143 h404 H=>sp (Aq Am h404) (ck 4 (bx H λ x144 h405 H=>sp (Aq Am h405) (ck 1 (bx H λ r122 h406 H=>ca false (QU h406) (en (cn H (λ H=>?_) (λ H=>?_)))))))))))))
  ·exact sr (ck 3 (en (re (qR (qr (by cases H;exact ro rfl rdT))))))
  ·exact sk (qN (qz (rz (ck 3 (ae (by cases H;exact og (sg [1,4,5])))))))
 ·exact ex 2 (qx (by cases H;exact xo rfl (sg [1,4])))
theorem La (x:Int) (z:(Int⊕(Unit⊕(Int×Int)))) (H:FQ n p0_ x=some z):WP (cxk 74 0) (AA Try.f43) [1,1,0,1,0,0] (Av 0 (Md p0_) (SG) z) (Md p0_ x):=by
 revert H
 generalize x=i_15
 intro H
 refine sq (sr (ck 3 (sp (AC Am p0_.Rules) (ck 1 (en (cn H (λ H=>?_) (λ H=>?_)))))))
 ·refine sk (qz (sq (bk 1 (sq (sr (ck 3 (bx H λ x142 h402 H=>sp (Aq Am h402) (ck 3 (bx H λ r121 h403 H=>ca false (Ve h403) (ck 1 (en (cn H (λ H=>?_) (λ H=>?_)))))))))))))
  ·exact sr (ck 3 (en (re (qr (qR (qr (by cases H;exact ro rfl rdT)))))))
  ·refine sk (qz (sr (ck 1 (en (bk 2 (bx H λ y94 h407 H=>?_))))))
   rcases y94 with y95|y96
   ·exact lX K9 h407 (sg [1,4,5]) rfl λ s hE76=>qH (qN (qs (hE76) (rz (ck 3 (ae (by cases H;exact og (sg [1,4])))))))
   ·exact lR K9 h407 (sg [1,4,5]) rfl λ s hE77=>qR (qR (qr (by cases H;exact ro rfl hE77)))
 ·exact ex 0 (qx (by cases H;exact xo rfl (sg [])))
theorem Vf {z} (H:MH n p0_=some z):AF Try.prog 43 [.agg (AK p0_)] (.tup [.d (.int .i64 z.1),.d (.int .i64 z.2)]):=by
 refine fO 74 (Jh5 p0_) Try.func43 (sr (ck 3 (en (sq (sr (ck 5 (gc 2 (!(decide (p0_.Modes<1))) (pO (ck 2 (gc 2 (!((decide (p0_.Modes<1))||(decide (p0_.Modes>8)))) (pO (ck 2 (gc 2 (!(((decide (p0_.Modes<1))||(decide (p0_.Modes>8)))||(p0_.Accept==0))) (ck 1 (gc 1 (!(((decide (p0_.Modes<1))||(decide (p0_.Modes>8)))||(p0_.Accept==0))) (bx H λ gd12 h401 H=>soG (λ hg=>HO (BO h401 hg)) (B6 (λ hh=>hh) (Em)) (gc 1 (!(((decide (p0_.Modes<1))||(decide (p0_.Modes>8)))||(p0_.Accept==0))) (pO (ck 2 (gc 1 (!((((decide (p0_.Modes<1))||(decide (p0_.Modes>8)))||(p0_.Accept==0))||(decide (IntKind.i64.wrap p0_.Accept≥Tf .i64 1 p0_.Modes)))) (sE (g:=(!((((decide (p0_.Modes<1))||(decide (p0_.Modes>8)))||(p0_.Accept==0))||(decide (IntKind.i64.wrap p0_.Accept≥Tf .i64 1 p0_.Modes))))) (λ hg=>AC Am p0_.Rules) (gc 1 (!((((decide (p0_.Modes<1))||(decide (p0_.Modes>8)))||(p0_.Accept==0))||(decide (IntKind.i64.wrap p0_.Accept≥Tf .i64 1 p0_.Modes)))) (pO (ck 2 (gc 1 (!(((((decide (p0_.Modes<1))||(decide (p0_.Modes>8)))||(p0_.Accept==0))||(decide (IntKind.i64.wrap p0_.Accept≥Tf .i64 1 p0_.Modes)))||(decide (((List.length p0_.Rules:Nat):Int)<1)))) (sE (g:=(!(((((decide (p0_.Modes<1))||(decide (p0_.Modes>8)))||(p0_.Accept==0))||(decide (IntKind.i64.wrap p0_.Accept≥Tf .i64 1 p0_.Modes)))||(decide (((List.length p0_.Rules:Nat):Int)<1))))) (λ hg=>AC Am p0_.Rules) (gc 1 (!(((((decide (p0_.Modes<1))||(decide (p0_.Modes>8)))||(p0_.Accept==0))||(decide (IntKind.i64.wrap p0_.Accept≥Tf .i64 1 p0_.Modes)))||(decide (((List.length p0_.Rules:Nat):Int)<1)))) (pO (en (cn H (λ H=>?_) (λ H=>?_)))))))))))))))))))))))))))))))
 ·exact sr (ck 2 (en (re (qr (by cases H;exact pr rdT)))))
 ·refine sk (qz (sq (sr (ck 1 (en (bk 0 (bx H λ y97 h408 H=>?_)))))))
  rcases y97 with y98|y99
  ·exact lX La h408 (sg [1,4]) rfl λ s hE78=>qH (qs (hE78) (sr (ck 2 (en (re (by cases H;exact pr rdT))))))
  ·exact lR La h408 (sg [1,4]) rfl λ s hE79=>qR (qr (by cases H;exact pr hE79))
end
section
variable (p0_:Ad)
def Jia:St:=⟨(0,.agg [.d (.int .i64 p0_.Modes),.d (.int .u8 p0_.Accept),.d (.sl (List.map Am p0_.Rules))])::[],[]⟩
variable {p0_}
theorem Vg {z} (H:PF n p0_=some z):AF Try.prog 23 [.agg (AK p0_)] (.d (.bool z)):=by
 exact fO 12 (Jia p0_) Try.func23 (sr (ck 2 (en (sr (ck 1 (bx H λ r123 h409 H=>ca false (Vf h409) (ck 5 (en (sr (ck 3 (en (re (by cases H;exact pr rd)))))))))))))
end
section
variable (p0_:MX) (r124:Ad) (t_3:Ad) (i_16:Int) (t_4:Ad) (t_5:Ad) (t_6:Ad) (i_17:Int) (t_7:Ad) (t_8:Ad) (t_9:Ad)
def Jj8:St:=⟨(0,.agg [.d (.int .u8 p0_.Base),.d (.int .u8 p0_.Drop),.d (.sl (List.map FB p0_.More))])::[],[]⟩
def Jj9:St:=⟨(1,.ptr 0 0)::(2,.ptr 1 0)::(3,.ptr 2 0)::(4,.osl 3 6 0 (List.length r124.Rules))::(5,.d (.int .i64 i_16))::[],[some (.box (X4 p0_)),some (.box [.d (.int .i64 0),.d (.int .u8 0),.osl 4 6 0 (List.length ([]:List Ax))]),some (.box (FS t_3 (.osl 5 6 0 (List.length t_3.Rules)))),some (.arr 6 (List.map Am r124.Rules)),some (.arr 6 (List.map Am ([]:List Ax))),some (.arr 6 (List.map Am t_3.Rules))]⟩
def Jka:St:=⟨(1,.ptr 0 0)::(2,.ptr 1 0)::(3,.ptr 2 0)::(4,.osl 3 6 0 (List.length r124.Rules))::[],[some (.box (X4 p0_)),some (.box [.d (.int .i64 0),.d (.int .u8 0),.osl 4 6 0 (List.length ([]:List Ax))]),some (.box (FS t_4 (.osl 5 6 0 (List.length t_4.Rules)))),some (.arr 6 (List.map Am r124.Rules)),some (.arr 6 (List.map Am ([]:List Ax))),some (.arr 6 (List.map Am t_4.Rules))]⟩
def Jkb:St:=⟨(1,.ptr 0 0)::(2,.ptr 1 0)::(3,.ptr 2 0)::(4,.osl 3 6 0 (List.length r124.Rules))::(5,.d (.int .i64 i_16))::[],[some (.box (X4 p0_)),some (.box [.d (.int .i64 0),.d (.int .u8 0),.osl 4 6 0 (List.length ([]:List Ax))]),some (.box (FS t_5 (.osl 5 6 0 (List.length t_5.Rules)))),some (.arr 6 (List.map Am r124.Rules)),some (.arr 6 (List.map Am ([]:List Ax))),some (.arr 6 (List.map Am t_5.Rules))]⟩
def Ts:Ad->Ex->St->Prop:=xX 0 0 (λ (y:Ad)=>Jka p0_ r124 y)
def Ns:(Ad×Int)->St:=(λ (x:(Ad×Int))=>Jj9 p0_ r124 x.1 x.2)
def Jkc:St:=⟨(1,.ptr 0 0)::(2,.ptr 1 0)::(3,.ptr 2 0)::(4,.osl 3 6 0 (List.length r124.Rules))::(6,.d (.int .i64 i_17))::[],[some (.box (X4 p0_)),some (.box [.d (.int .i64 0),.d (.int .u8 0),.osl 4 6 0 (List.length ([]:List Ax))]),some (.box (FS t_6 (.osl 5 6 0 (List.length t_6.Rules)))),some (.arr 6 (List.map Am r124.Rules)),some (.arr 6 (List.map Am ([]:List Ax))),some (.arr 6 (List.map Am t_6.Rules))]⟩
def Jkd:St:=⟨(2,.ptr 0 0)::(3,.ptr 1 0)::(4,.osl 2 6 0 (List.length r124.Rules))::[],[some (.box [.d (.int .i64 0),.d (.int .u8 0),.osl 3 6 0 (List.length ([]:List Ax))]),some (.box (FS t_7 (.osl 4 6 0 (List.length t_7.Rules)))),some (.arr 6 (List.map Am r124.Rules)),some (.arr 6 (List.map Am ([]:List Ax))),some (.arr 6 (List.map Am t_7.Rules))]⟩
def Jke:St:=⟨(1,.ptr 0 0)::(2,.ptr 1 0)::(3,.ptr 2 0)::(4,.osl 3 6 0 (List.length r124.Rules))::(6,.d (.int .i64 i_17))::[],[some (.box (X4 p0_)),some (.box [.d (.int .i64 0),.d (.int .u8 0),.osl 4 6 0 (List.length ([]:List Ax))]),some (.box (FS t_8 (.osl 5 6 0 (List.length t_8.Rules)))),some (.arr 6 (List.map Am r124.Rules)),some (.arr 6 (List.map Am ([]:List Ax))),some (.arr 6 (List.map Am t_8.Rules))]⟩
def Tt:Ad->Ex->St->Prop:=xX 0 2 (λ (y:Ad)=>Jkd r124 y)
def Nt:(Ad×Int)->St:=(λ (x:(Ad×Int))=>Jkc p0_ r124 x.1 x.2)
def Jkf:St:=⟨(2,.ptr 0 0)::(3,.ptr 1 0)::[],[some (.box [.d (.int .i64 0),.d (.int .u8 0),.osl 2 6 0 (List.length ([]:List Ax))]),some (.box (FS t_9 (.osl 3 6 0 (List.length t_9.Rules)))),some (.arr 6 (List.map Am ([]:List Ax))),some (.arr 6 (List.map Am t_9.Rules))]⟩
variable {p0_ r124 t_3 i_16 t_4 t_5 t_6 i_17 t_7 t_8 t_9}
theorem SH (x:(Ad×Int)) (z:((Ad×Int)⊕Ad)) (H:Fx n p0_ r124 x.1 x.2=some z):WP (cxk 77 0) (AA Try.f7) [1,1,1,1,0,1,0,0] (Av 0 (Ns p0_ r124) (Ts p0_ r124) z) (Ns p0_ r124 x):=by
 obtain ⟨t_3,i_16⟩:=x
 refine sq (sr (ck 4 (en (cn H (λ H=>?_) (λ H=>?_)))))
 ·refine sk (qz (sj (λ (x:Ad)=>Jkb p0_ r124 i_16 x) (λ (x:Ad)=>GW n i_16 x) z ?_ (λ hFR2_Made_J1=>?_)))
  ·intro t_5 H
   exact rz (ck 3 (ae (by cases H;exact og (sg [1,2,3,4,5]))))
  refine bk 1 (sr (ck 3 (bx H λ gd13 h411 H=>so (HO h411) (ck 2 (en (cn H (λ H=>?_) (λ H=>?_)))))))
  ·exact rz (ck 4 (bx H λ x145 h412 H=>sp (Az 3 6 h412) (sp (CK Am 3 0 (ty 67) h412) (ck 1 (bx H λ l51 h413 H=>sp (B3 Am 5 6 h413) (ck 2 (ae (qN (qs (sg [1,2,3,4,5]) (hFR2_Made_J1 ({ Modes:=t_3.Modes,Accept:=t_3.Accept,Rules:=l51 }:Ad) H))))))))))
  ·exact sk (qN (qs (sg [1,2,3,4,5]) (hFR2_Made_J1 t_3 H)))
 ·exact ex 0 (qx (by cases H;exact xo rfl (sg [1,2,3,4])))
theorem SI (x:(Ad×Int)) (z:((Ad×Int)⊕Ad)) (H:Fy n p0_ r124 x.1 x.2=some z):WP (cxk 77 0) (AA Try.f7) [1,1,1,1,1,0,1,0,0] (Av 0 (Nt p0_ r124) (Tt r124) z) (Nt p0_ r124 x):=by
 obtain ⟨t_6,i_17⟩:=x
 refine sq (sr (ck 3 (sp (AC FB p0_.More) (ck 3 (gc 1 (decide (i_17<((List.length p0_.More:Nat):Int))) (pA (en (cn H (λ H=>?_) (λ H=>?_)))))))))
 ·refine sk (qz (sj (λ (x:Ad)=>Jke p0_ r124 i_17 x) (λ (x:Ad)=>GX n i_17 x) z ?_ (λ hFR2_Made_J2=>?_)))
  ·intro t_8 H
   exact rz (ck 3 (ae (by cases H;exact og (sg [1,2,3,4,6]))))
  refine bk 3 (sr (ck 5 (bx H λ x146 h415 H=>sp (Aq FB h415) (ck 3 (bx H λ r125 h416 H=>ca false (WO h416) (ck 1 (bx H λ l52 h417 H=>sp (B3 Am 5 6 h417) (ck 2 (en (sr (ck 1 (bx H λ r126 h418 H=>cb (ks:=[7]) (obl:=[(0+List.length l52,List.length (List.map Am l52))]) false (leK leM (leZ)) (Dz (Jjh (Dz rfl (Dz rfl (Dz Sf rfl)))) rfl) (Vg h418) (Or.inr trivial) rfl (ck 1 (en (cn H (λ H=>?_) (λ H=>?_))))))))))))))))
  ·exact rz (ck 6 (bx H λ l53 h419 H=>sp (Jgk 7 6 h419) (ck 2 (ae (qN (qs (tr (Jem (k:=7) (sz:=6) 2 2 (List.map Am l53) (List.length l53) (by kernel_rfl) (Jer h419) (Jgb (enc:=Am) h419) (Jes h419)) (sg [1,2,3,4,6])) (hFR2_Made_J2 ({ Modes:=t_6.Modes,Accept:=t_6.Accept,Rules:=l53 }:Ad) H)))))))
  ·exact sk (qN (qs (sg [1,2,3,4,6]) (hFR2_Made_J2 ({ Modes:=t_6.Modes,Accept:=t_6.Accept,Rules:=l52 }:Ad) H)))
 ·exact ex 2 (qx (by cases H;exact xo rfl (sg [2,3,4])))
theorem WR {z} (H:JC n p0_=some z):AF Try.prog 7 [.agg (X4 p0_)] (.agg [.d (.int .i64 z.Modes),.d (.int .u8 z.Accept),.own 6 (List.map Am z.Rules)]):=by
 refine fO 77 (Jj8 p0_) Try.func7 (sr (ck 2 (en (sr (ck 2 (bx H λ r124 h410 H=>cl [List.length r124.Rules] (WN h410) (ck 2 (en (sr (ck 3 (en (sr (ck 3 (en (sq (sr (ck 1 (en (bk 0 (bx H λ y100 h414 H=>lX SH h414 (tr (BI 1 2 6 (by kernel_rfl)) (sg [1,2,3,4,5])) rfl λ s hE80=>qH (qs (hE80) (sq (sr (ck 1 (en (bk 2 (bx H λ y101 h420 H=>lX SI h420 (sg [1,2,3,4,6]) rfl λ s hE81=>qH (qs (hE81) (sj (λ (x:Ad)=>Jkf x) (λ (x:Ad)=>GY n x) z ?_ (λ hFR2_Made_J3=>?_))))))))))))))))))))))))))))))
 ·intro t_9 H
  exact sr (ck 2 (en (re (by cases H;exact pr (rO (v:=.agg [.d (.int .i64 z.Modes),.d (.int .u8 z.Accept),.osl 3 6 0 (List.length z.Rules)]) [3] (a1 (c1 vd (c1 vd (c1 vo (c0))))))))))
 refine sr (ck 4 (en (cn H (λ H=>?_) (λ H=>?_))))
 ·exact rz (ck 3 (ae (qs (sg [2,3]) (hFR2_Made_J3 ({ Modes:=y101.Modes,Accept:=y101.Accept,Rules:=r124.Rules }:Ad) H))))
 ·exact sk (qs (sg [2,3]) (hFR2_Made_J3 y101 H))
end
section
variable (p0_:Ad) (p1_:(List Int)) (out_5:(List UInt8)) (i_18:Int) (out_6:(List UInt8)) (out_7:(List UInt8))
def Jkg:St:=⟨(0,.agg [.d (.int .i64 p0_.Modes),.d (.int .u8 p0_.Accept),.d (.sl (List.map Am p0_.Rules))])::(1,.d (.sl (List.map eU8 p1_)))::[],[]⟩
def Jkh:St:=⟨(1,.d (.sl (List.map eU8 p1_)))::(2,.ptr 0 0)::(5,.d (.str out_5))::(6,.d (.int .i64 i_18))::[],[some (.box (AK p0_))]⟩
def Jki:St:=⟨(5,.d (.str out_6))::[],[]⟩
def Jkj:St:=⟨(1,.d (.sl (List.map eU8 p1_)))::(2,.ptr 0 0)::(5,.d (.str out_7))::(6,.d (.int .i64 i_18))::[],[some (.box (AK p0_))]⟩
def PV:(List UInt8)->Ex->St->Prop:=xX 0 0 (λ (y:(List UInt8))=>Jki y)
def JN:((List UInt8)×Int)->St:=(λ (x:((List UInt8)×Int))=>Jkh p0_ p1_ x.1 x.2)
variable {p0_ p1_ out_5 i_18 out_6 out_7}
theorem OU (x:((List UInt8)×Int)) (z:(((List UInt8)×Int)⊕(List UInt8))) (H:Ee n p0_ p1_ x.1 x.2=some z):WP (cxk 48 0) (AA Try.f9) [1,1,0,1,0,0] (Av 0 (JN p0_ p1_) (PV) z) (JN p0_ p1_ x):=by
 obtain ⟨out_5,i_18⟩:=x
 refine sq (sr (ck 2 (sp (AC eU8 p1_) (ck 3 (gc 1 (decide (i_18<((List.length p1_:Nat):Int))) (pA (ck 2 (gc 1 ((decide (i_18<((List.length p1_:Nat):Int)))&&(decide (i_18<12))) (sE (g:=((decide (i_18<((List.length p1_:Nat):Int)))&&(decide (i_18<12)))) (λ hg=>AC Am p0_.Rules) (gc 1 ((decide (i_18<((List.length p1_:Nat):Int)))&&(decide (i_18<12))) (pA (en (cn H (λ H=>?_) (λ H=>?_))))))))))))))
 ·refine sk (qz (sj (λ (x:(List UInt8))=>Jkj p0_ p1_ i_18 x) (λ (x:(List UInt8))=>Ed n i_18 x) z ?_ (λ hFR2_Spelled_J1=>?_)))
  ·intro out_7 H
   exact rz (ck 3 (ae (by cases H;exact og (sg [1,2,5,6]))))
  refine bk 1 (sr (ck 4 (bx H λ x147 h421 H=>sp (Aq eU8 h421) (ck 4 (sp (AC Am p0_.Rules) (bx H λ gd14 h422 H=>so (LO h422) (bx H λ x148 h423 H=>sp (Aq Am h423) (ck 3 (en (sr (ck 6 (en (cn H (λ H=>?_) (λ H=>?_))))))))))))))
  ·exact rz (ck 2 (bx H λ s11 h424 H=>sp (Py h424) (ck 1 (ae (qN (qs (sg [1,2,5,6]) (hFR2_Spelled_J1 s11 H)))))))
  ·exact sk (qN (qs (sg [1,2,5,6]) (hFR2_Spelled_J1 out_5 H)))
 ·exact ex 0 (qx (by cases H;exact xo rfl (sg [5])))
theorem Me {z} (H:GZ n p0_ p1_=some z):AF Try.prog 9 [.agg (AK p0_),.d (.sl (List.map eU8 p1_))] (.d (.str z)):=by
 exact fO 48 (Jkg p0_ p1_) Try.func9 (sr (ck 2 (en (sr (ck 1 (en (sq (sr (ck 1 (en (bk 0 (bx H λ y102 h425 H=>lX OU h425 (sg [1,2,5,6]) rfl λ s hE82=>qH (qs (hE82) (sr (ck 2 (en (re (by cases H;exact pr rd))))))))))))))))))
end
def Jib:St:=⟨[],[]⟩
theorem Vh {z} (H:Ug n=some z):AF Try.prog 33 [] (.agg [.d (.int .i64 z.Mode),.d (.int .i64 z.Last),.d (.int .u8 z.Need)]):=by
 exact fO 2 Jib Try.func33 (sr (ck 1 (en (sr (ck 2 (en (re (by cases H;exact pr rd))))))))
section
variable (p0_:Int) (p1_:Int)
def Jic:St:=⟨(0,.d (.int .u8 p0_))::(1,.d (.int .i64 p1_))::[],[]⟩
variable {p0_ p1_}
theorem Kv {z} (H:Ke n p0_ p1_=some z):AF Try.prog 63 [.d (.int .u8 p0_),.d (.int .i64 p1_)] (.d (.bool z)):=by
 exact fO 18 (Jic p0_ p1_) Try.func63 (sr (ck 1 (en (sr (ck 4 (gc 1 (decide (p1_≥0)) (pA (ck 3 (bx H λ gd15 h426 H=>soG (λ hg=>HO (BO h426 hg)) (B6 (λ hh=>hh) (B6 (λ hh=>hh) (Em))) (gc 2 ((decide (p1_≥0))&&(decide (p1_<8))) (pA (ck 1 (en (re (by cases H;exact pr rd)))))))))))))))
end
section
variable (p0_:Int)
def Jid:St:=⟨(0,.d (.int .u8 p0_))::[],[]⟩
variable {p0_}
theorem OW {z} (H:JD n p0_=some z):AF Try.prog 62 [.d (.int .u8 p0_)] (.d (.int .i64 z)):=by
 refine fO 26 (Jid p0_) Try.func62 (sr (ck 1 (en (sr (ck 3 (en (sq (sr (ck 4 (gc 1 (decide (Cg .u8 p0_ 127≥97)) (pA (en (cn H (λ H=>?_) (λ H=>?_))))))))))))))
 ·exact sr (ck 1 (en (re (qr (by cases H;exact pr rd)))))
 ·refine sk (qz (sq (sr (ck 4 (gc 1 (decide (Cg .u8 p0_ 127≥65)) (pA (en (cn H (λ H=>?_) (λ H=>?_)))))))))
  ·exact sr (ck 1 (en (re (qr (by cases H;exact pr rd)))))
  ·refine sk (qz (sq (sr (ck 4 (gc 1 (decide (Cg .u8 p0_ 127≥48)) (pA (en (cn H (λ H=>?_) (λ H=>?_)))))))))
   ·exact sr (ck 1 (en (re (qr (by cases H;exact pr rd)))))
   ·refine sk (qz (sq (sr (ck 2 (en (cn H (λ H=>?_) (λ H=>?_)))))))
    ·exact sr (ck 1 (en (re (qr (by cases H;exact pr rd)))))
    ·exact sk (qz (sr (ck 1 (en (re (by cases H;exact pr rd))))))
end
section
variable (p0_:Ad) (p1_:Ab) (p2_:Int)
def Jie:St:=⟨(0,.agg [.d (.int .i64 p0_.Modes),.d (.int .u8 p0_.Accept),.d (.sl (List.map Am p0_.Rules))])::(1,.agg [.d (.int .i64 p1_.Mode),.d (.int .i64 p1_.Last),.d (.int .u8 p1_.Need)])::(2,.d (.int .i64 p2_))::[],[]⟩
variable {p0_ p1_ p2_}
theorem QA {z} (H:LT n p0_ p1_ p2_=some z):AF Try.prog 36 [.agg (AK p0_),.agg (I9 p1_),.d (.int .i64 p2_)] (.tup [.agg [.d (.int .i64 z.1.Mode),.d (.int .i64 z.1.Last),.d (.int .u8 z.1.Need)],.d (.bool z.2)]):=by
 refine fO 87 (Jie p0_ p1_ p2_) Try.func36 (sr (ck 4 (en (sq (sr (ck 5 (gc 1 (!(decide (p2_<0))) (sE (g:=(!(decide (p2_<0)))) (λ hg=>AC Am p0_.Rules) (gc 1 (!(decide (p2_<0))) (pO (en (cn H (λ H=>?_) (λ H=>?_)))))))))))))
 ·exact sr (ck 3 (en (re (qr (by cases H;exact pr rdT)))))
 ·refine sk (qz (sr (ck 3 (bx H λ x149 h427 H=>sp (Aq Am h427) (ck 3 (en (sq (sr (ck 7 (gc 1 (!(x149.From != p1_.Mode)) (ck 1 (gc 1 (!(x149.From != p1_.Mode)) (bx H λ r127 h428 H=>cG false (leZ) rfl (λ hg=>Kv (BO h428 hg)) (Or.inl rfl) (B6 (λ hh=>hh) (B6 (λ hh=>hh) (Em))) rfl (gc 1 (!(x149.From != p1_.Mode)) (pO (en (cn H (λ H=>?_) (λ H=>?_))))))))))))))))))
  ·exact sr (ck 3 (en (re (qr (by cases H;exact pr rdT)))))
  ·refine sk (qz (sq (sr (ck 6 (gc 1 (((List.length x149.Print:Nat):Int)==0) (ck 1 (gc 3 (((List.length x149.Print:Nat):Int)==0) (pA (en (cn H (λ H=>?_) (λ H=>?_)))))))))))
   ·exact sr (ck 3 (en (re (qr (by cases H;exact pr rdT)))))
   ·refine sk (qz (sq (sr (ck 4 (en (cn H (λ H=>?_) (λ H=>?_)))))))
    ·exact sr (ck 12 (en (re (qr (by cases H;exact pr rdT)))))
    ·refine sk (qz (sq (sr (ck 4 (bx H λ b8 h429 H=>sp (Hq h429) (bx H λ r128 h430 H=>ca false (OW h430) (bx H λ r129 h431 H=>ca false (Kv h431) (ck 1 (en (cn H (λ H=>?_) (λ H=>?_)))))))))))
     ·exact sr (ck 3 (en (re (qr (by cases H;exact pr rdT)))))
     ·exact sk (qz (sr (ck 8 (bx H λ b9 h432 H=>sp (Hq h432) (bx H λ r130 h433 H=>ca false (OW h433) (ck 5 (en (re (by cases H;exact pr rdT)))))))))
end
section
variable (p0_:(List Ab)) (p1_:Ab) (i_19:Int)
def Jif:St:=⟨(0,.d (.sl (List.map Aj p0_)))::(1,.agg [.d (.int .i64 p1_.Mode),.d (.int .i64 p1_.Last),.d (.int .u8 p1_.Need)])::[],[]⟩
def Jig:St:=⟨(0,.d (.sl (List.map Aj p0_)))::(3,.ptr 0 0)::(5,.d (.int .i64 i_19))::[],[some (.box (I9 p1_))]⟩
def Jih:St:=⟨[],[]⟩
def SJ:(Unit⊕Int)->Ex->St->Prop:=xS (xX 0 0 (λ (y:Unit)=>Jih)) (xR ty Try.f34 (λ (y:Int)=>.d (.int .i64 y)))
def Mf:Int->St:=(λ (x:Int)=>Jig p0_ p1_ x)
variable {p0_ p1_ i_19}
theorem Lc (x:Int) (z:(Int⊕(Unit⊕Int))) (H:DF n p0_ p1_ x=some z):WP (cxk 19 0) (AA Try.f34) [1,0,1,0,0] (Av 0 (Mf p0_ p1_) (SJ) z) (Mf p0_ p1_ x):=by
 revert H
 generalize x=i_19
 intro H
 refine sq (sr (ck 2 (sp (AC Aj p0_) (ck 1 (en (cn H (λ H=>?_) (λ H=>?_)))))))
 ·refine sk (qz (sq (bk 1 (sr (ck 2 (bx H λ x150 h434 H=>sp (Aq Aj h434) (ck 3 (en (cn H (λ H=>?_) (λ H=>?_))))))))))
  ·exact sr (ck 2 (en (re (qR (qr (by cases H;exact ro rfl rd))))))
  ·exact sk (qN (qz (rz (ck 3 (ae (by cases H;exact og (sg [0,3,5])))))))
 ·exact ex 0 (qx (by cases H;exact xo rfl (sg [])))
theorem OX {z} (H:MI n p0_ p1_=some z):AF Try.prog 34 [.d (.sl (List.map Aj p0_)),.agg (I9 p1_)] (.d (.int .i64 z)):=by
 refine fO 19 (Jif p0_ p1_) Try.func34 (sr (ck 2 (en (sq (sr (ck 1 (en (bk 0 (bx H λ y103 h435 H=>?_)))))))))
 rcases y103 with y104|y105
 ·exact lX Lc h435 (sg [0,3,5]) rfl λ s hE83=>qH (qs (hE83) (sr (ck 1 (en (re (by cases H;exact pr rd))))))
 ·exact lR Lc h435 (sg [0,3,5]) rfl λ s hE84=>qR (qr (by cases H;exact pr hE84))
end
section
variable (p0_:Ad) (out_8:(List Ab)) (i_20:Int) (out_9:(List Ab)) (out_10:(List Ab)) (k_3:Int) (out_11:(List Ab)) (out_12:(List Ab))
def Jii:St:=⟨(0,.agg [.d (.int .i64 p0_.Modes),.d (.int .u8 p0_.Accept),.d (.sl (List.map Am p0_.Rules))])::[],[]⟩
def Jij:St:=⟨(1,.ptr 0 0)::(3,.osl 1 3 0 (List.length out_8))::(4,.d (.int .i64 i_20))::[],[some (.box (AK p0_)),some (.arr 3 (List.map Aj out_8))]⟩
def Jik:St:=⟨(3,.osl 0 3 0 (List.length out_9))::[],[some (.arr 3 (List.map Aj out_9))]⟩
def Jil:St:=⟨(1,.ptr 0 0)::(3,.osl 1 3 0 (List.length out_10))::(4,.d (.int .i64 i_20))::(5,.d (.int .i64 k_3))::[],[some (.box (AK p0_)),some (.arr 3 (List.map Aj out_10))]⟩
def Jim:St:=⟨(1,.ptr 0 0)::(3,.osl 1 3 0 (List.length out_11))::(4,.d (.int .i64 i_20))::[],[some (.box (AK p0_)),some (.arr 3 (List.map Aj out_11))]⟩
def Jin:St:=⟨(1,.ptr 0 0)::(3,.osl 1 3 0 (List.length out_12))::(4,.d (.int .i64 i_20))::(5,.d (.int .i64 k_3))::[],[some (.box (AK p0_)),some (.arr 3 (List.map Aj out_12))]⟩
def QV:(List Ab)->Ex->St->Prop:=xX 0 2 (λ (y:(List Ab))=>Jim p0_ i_20 y)
def Ld:((List Ab)×Int)->St:=(λ (x:((List Ab)×Int))=>Jil p0_ i_20 x.1 x.2)
def QW:(List Ab)->Ex->St->Prop:=xX 0 0 (λ (y:(List Ab))=>Jik y)
def Lf:((List Ab)×Int)->St:=(λ (x:((List Ab)×Int))=>Jij p0_ x.1 x.2)
variable {p0_ out_8 i_20 out_9 out_10 k_3 out_11 out_12}
theorem PW (x:((List Ab)×Int)) (z:(((List Ab)×Int)⊕(List Ab))) (H:DT n p0_ i_20 x.1 x.2=some z):WP (cxk 45 0) (AA Try.f32) [1,1,0,1,0,0,1,0,0,1,0,0] (Av 0 (Ld p0_ i_20) (QV p0_ i_20) z) (Ld p0_ i_20 x):=by
 obtain ⟨out_10,k_3⟩:=x
 refine sq (sr (ck 3 (sp (AC Am p0_.Rules) (ck 1 (en (cn H (λ H=>?_) (λ H=>?_)))))))
 ·refine sk (qz (sj (λ (x:(List Ab))=>Jin p0_ i_20 k_3 x) (λ (x:(List Ab))=>EM n k_3 x) z ?_ (λ hFR3_States_J1=>?_)))
  ·intro out_12 H
   exact rz (ck 3 (ae (by cases H;exact og (sg [1,3,4,5]))))
  refine bk 3 (sr (ck 3 (bx H λ x151 h437 H=>sp (Az 1 3 h437) (sp (CK Aj 1 0 (ty 87) h437) (ck 1 (bx H λ r132 h438 H=>ca false (QA h438) (ck 6 (en (sr (ck 4 (bx H λ r133 h439 H=>cG (ks:=[1]) (obl:=[(0+List.length out_10,List.length (List.map Aj out_10))]) false (leK leM (leZ)) (Dz Sf (Dz rfl rfl)) (λ hg=>OX (BO h439 hg)) (Or.inr trivial) (B6 (λ hh=>hh) (B6 (λ hh=>hh) (Em))) rfl (gc 1 r132.2 (pA (en (cn H (λ H=>?_) (λ H=>?_))))))))))))))))
  ·exact rz (ck 3 (bx H λ l54 h440 H=>sp (B3 Aj 1 3 h440) (ck 1 (ae (qN (qs (sg [1,3,4,5]) (hFR3_States_J1 l54 H)))))))
  ·exact sk (qN (qs (sg [1,3,4,5]) (hFR3_States_J1 out_10 H)))
 ·exact ex 2 (qx (by cases H;exact xo rfl (sg [1,3,4])))
theorem PX (x:((List Ab)×Int)) (z:(((List Ab)×Int)⊕(List Ab))) (H:EN n p0_ x.1 x.2=some z):WP (cxk 45 0) (AA Try.f32) [1,1,0,1,0,0] (Av 0 (Lf p0_) (QW) z) (Lf p0_ x):=by
 obtain ⟨out_8,i_20⟩:=x
 refine sq (sr (ck 4 (en (cn H (λ H=>?_) (λ H=>?_)))))
 ·exact sk (qz (sq (bk 1 (sr (ck 1 (en (bk 2 (bx H λ y106 h441 H=>lX PW h441 (sg [1,3,4,5]) rfl λ s hE85=>qH (qN (qs (hE85) (rz (ck 3 (ae (by cases H;exact og (sg [1,3,4])))))))))))))))
 ·exact ex 0 (qx (by cases H;exact xo rfl (sg [3])))
theorem Tu {z} (H:Kf n p0_=some z):AF Try.prog 32 [.agg (AK p0_)] (.own 3 (List.map Aj z)):=by
 exact fO 45 (Jii p0_) Try.func32 (sr (ck 2 (en (sr (bx H λ r131 h436 H=>ca false (Vh h436) (ck 2 (en (sq (sr (ck 1 (en (bk 0 (bx H λ y107 h442 H=>lX PX h442 (sg [1,3,4]) rfl λ s hE86=>qH (qs (hE86) (sr (ck 2 (en (re (by cases H;exact pr (rO (v:=.osl 0 3 0 (List.length z)) [0] (ao vo)))))))))))))))))))))
end
section
variable (p0_:Ad) (p1_:Ab)
def Jio:St:=⟨(0,.agg [.d (.int .i64 p0_.Modes),.d (.int .u8 p0_.Accept),.d (.sl (List.map Am p0_.Rules))])::(1,.agg [.d (.int .i64 p1_.Mode),.d (.int .i64 p1_.Last),.d (.int .u8 p1_.Need)])::[],[]⟩
variable {p0_ p1_}
theorem SK {z} (H:ID n p0_ p1_=some z):AF Try.prog 53 [.agg (AK p0_),.agg (I9 p1_)] (.d (.bool z)):=by
 exact fO 27 (Jio p0_ p1_) Try.func53 (sr (ck 3 (en (sr (ck 5 (gc 1 (decide (p1_.Mode≥0)) (ck 1 (gc 2 (decide (p1_.Mode≥0)) (pA (ck 2 (gc 1 ((decide (p1_.Mode≥0))&&(decide (p1_.Mode<p0_.Modes))) (ck 1 (gc 1 ((decide (p1_.Mode≥0))&&(decide (p1_.Mode<p0_.Modes))) (bx H λ r134 h443 H=>cG false (leZ) rfl (λ hg=>Kv (BO h443 hg)) (Or.inl rfl) (B6 (λ hh=>hh) (B6 (λ hh=>hh) (Em))) rfl (pA (ck 2 (gc 1 (((decide (p1_.Mode≥0))&&(decide (p1_.Mode<p0_.Modes)))&&r134) (bx H λ r135 h444 H=>cG false (leZ) rfl (λ hg=>Kv (BO h444 hg)) (Or.inl rfl) (B6 (λ hh=>hh) (Em)) rfl (pA (ck 1 (en (re (by cases H;exact pr rd)))))))))))))))))))))))
end
section
variable (p0_:(List UInt8)) (p1_:Int) (p2_:(List UInt8))
def Jip:St:=⟨(0,.d (.str p0_))::(1,.d (.int .i64 p1_))::(2,.d (.str p2_))::[],[]⟩
variable {p0_ p1_ p2_}
theorem Tv {z} (H:Kg n p0_ p1_ p2_=some z):AF Try.prog 61 [.d (.str p0_),.d (.int .i64 p1_),.d (.str p2_)] (.d (.bool z)):=by
 exact fO 25 (Jip p0_ p1_ p2_) Try.func61 (sr (ck 1 (en (sr (ck 12 (gc 2 (decide (Au .i64 p1_ ((List.length p2_:Nat):Int)≤((List.length p0_:Nat):Int))) (bx H λ s12 h445 H=>sE (λ hg=>GH (BO h445 hg)) (ck 1 (gc 1 (decide (Au .i64 p1_ ((List.length p2_:Nat):Int)≤((List.length p0_:Nat):Int))) (pA (ck 1 (en (re (by cases H;exact pr rd))))))))))))))
end
section
variable (p0_:Ad) (p1_:Sn) (p2_:Int) (p3_:(List (List Int)))
def Jiq:St:=⟨(0,.agg [.d (.int .i64 p0_.Modes),.d (.int .u8 p0_.Accept),.d (.sl (List.map Am p0_.Rules))])::(1,.agg [.d (.str p1_.S),.d (.int .i64 p1_.I),.d (.int .i64 p1_.State.Mode),.d (.int .i64 p1_.State.Last),.d (.int .u8 p1_.State.Need),.d (.sl (List.map Aj p1_.L))])::(2,.d (.int .i64 p2_))::(3,.d (.sl (List.map (eL Ae) p3_)))::[],[]⟩
variable {p0_ p1_ p2_ p3_}
theorem Vi {z} (H:JE n p0_ p1_ p2_ p3_=some z):AF Try.prog 35 [.agg (AK p0_),.agg (JgH p1_),.d (.int .i64 p2_),.d (.sl (List.map (eL Ae) p3_))] (.d (.int .i64 z)):=by
 refine fO 66 (Jiq p0_ p1_ p2_ p3_) Try.func35 (sr (ck 3 (en (sr (ck 4 (bx H λ r136 h446 H=>ca false (QA h446) (ck 6 (en (sq (sr (ck 4 (gc 1 (!(!r136.2)) (ck 1 (gc 1 (!(!r136.2)) (ck 1 (gc 1 (!(!r136.2)) (ck 1 (bx H λ x152 h447 H=>sE (λ hg=>Aq Am (BO h447 hg)) (gc 2 (!(!r136.2)) (bx H λ r137 h448 H=>cG false (leZ) rfl (λ hg=>Tv (BO h448 hg)) (Or.inl rfl) (B6 (λ hh=>hh) (B6 (λ hh=>hh) (B6 (λ hh=>hh) (Em)))) rfl (gc 1 (!(!r136.2)) (pO (en (cn H (λ H=>?_) (λ H=>?_)))))))))))))))))))))))))
 ·exact sr (ck 1 (en (re (qr (by cases H;exact pr rd)))))
 ·refine sk (qz (sr (ck 6 (bx H λ x153 h449 H=>sp (Aq Am h449) (ck 4 (bx H λ x154 h450 H=>sp (Aq (eL Ae) h450) (ck 4 (bx H λ r138 h451 H=>ca false (OX h451) (bx H λ x155 h452 H=>sp (Aq Ae h452) (ck 2 (en (sq (sr (ck 2 (en (cn H (λ H=>?_) (λ H=>?_)))))))))))))))))
  ·exact sr (ck 1 (en (re (qr (by cases H;exact pr rd)))))
  ·exact sk (qz (sr (ck 4 (bx H λ x156 h453 H=>sp (Aq Am h453) (ck 2 (sp (AC eU8 x156.Cells) (ck 2 (en (re (by cases H;exact pr rd))))))))))
end
section
variable (p0_:Int) (p1_:Int)
def Jir:St:=⟨(0,.d (.int .i64 p0_))::(1,.d (.int .i64 p1_))::[],[]⟩
variable {p0_ p1_}
theorem Vj {z} (H:MJ n p0_ p1_=some z):AF Try.prog 54 [.d (.int .i64 p0_),.d (.int .i64 p1_)] (.d (.int .i64 z)):=by
 refine fO 18 (Jir p0_ p1_) Try.func54 (sr (ck 1 (en (sq (sr (ck 4 (gc 2 (!(decide (p0_<0))) (ck 2 (gc 1 ((!(decide (p0_<0)))&&(decide (p1_≥0))) (pG (g:=(!(decide (p0_<0)))) (v:=.d (.bool ((decide (p1_≥0))&&(decide (p1_<p0_))))) (λ hg=>Gu (c:=.gv (!(decide (p0_<0))) (.d (.bool (decide (p1_≥0))))) (a:=.gv ((!(decide (p0_<0)))&&(decide (p1_≥0))) (.d (.bool (decide (p1_<p0_))))) (b:=.d (.bool false)) rfl rfl rfl ((λ hh=>hh) hg) (λ ht=>by rw [(λ hh=>hh) hg,ht];rfl) trivial) (pO (en (cn H (λ H=>?_) (λ H=>?_))))))))))))))
 ·exact sr (ck 2 (en (re (qr (by cases H;exact pr rd)))))
 ·exact sk (qz (sr (ck 2 (en (re (by cases H;exact pr rd))))))
end
section
variable (p0_:Ad) (p1_:(List UInt8)) (r139:(List Ab)) (out_13:(List (List Int))) (i_21:Int) (out_14:(List (List Int))) (out_15:(List (List Int))) (k_4:Int) (out_16:(List (List Int))) (out_17:(List (List Int))) (out_18:(List (List Int))) (changed_1:Bool) (out_19:(List (List Int))) (out_20:(List (List Int))) (changed_2:Bool) (k_5:Int) (out_21:(List (List Int))) (changed_3:Bool) (out_22:(List (List Int))) (changed_4:Bool) (r_3:Int) (out_23:(List (List Int))) (changed_5:Bool) (out_24:(List (List Int))) (changed_6:Bool)
def Jis:St:=⟨(0,.agg [.d (.int .i64 p0_.Modes),.d (.int .u8 p0_.Accept),.d (.sl (List.map Am p0_.Rules))])::(1,.d (.str p1_))::[],[]⟩
def Jit:St:=⟨(1,.d (.str p1_))::(2,.ptr 0 0)::(5,.d (.sl (List.map Aj r139)))::(6,.osl 1 1 0 (List.length out_13))::(7,.d (.int .i64 i_21))::[],[some (.box (AK p0_)),some (.narr 1 (List.map (nL 1 Ae) out_13))]⟩
def Jiu:St:=⟨(6,.osl 0 1 0 (List.length out_14))::[],[some (.narr 1 (List.map (nL 1 Ae) out_14))]⟩
def Jiv:St:=⟨(1,.d (.str p1_))::(2,.ptr 0 0)::(5,.d (.sl (List.map Aj r139)))::(6,.osl 1 1 0 (List.length out_15))::(7,.d (.int .i64 i_21))::(8,.d (.int .i64 k_4))::[],[some (.box (AK p0_)),some (.narr 1 (List.map (nL 1 Ae) out_15))]⟩
def Jiw:St:=⟨(1,.d (.str p1_))::(2,.ptr 0 0)::(5,.d (.sl (List.map Aj r139)))::(6,.osl 1 1 0 (List.length out_16))::(7,.d (.int .i64 i_21))::[],[some (.box (AK p0_)),some (.narr 1 (List.map (nL 1 Ae) out_16))]⟩
def Jix:St:=⟨(1,.d (.str p1_))::(2,.ptr 0 0)::(5,.d (.sl (List.map Aj r139)))::(6,.osl 1 1 0 (List.length out_17))::(7,.d (.int .i64 i_21))::(8,.d (.int .i64 k_4))::[],[some (.box (AK p0_)),some (.narr 1 (List.map (nL 1 Ae) out_17))]⟩
def OY:(List (List Int))->Ex->St->Prop:=xX 0 2 (λ (y:(List (List Int)))=>Jiw p0_ p1_ r139 i_21 y)
def IN:((List (List Int))×Int)->St:=(λ (x:((List (List Int))×Int))=>Jiv p0_ p1_ r139 i_21 x.1 x.2)
def Jiy:St:=⟨(1,.d (.str p1_))::(2,.ptr 0 0)::(5,.d (.sl (List.map Aj r139)))::(6,.osl 1 1 0 (List.length out_18))::(7,.d (.int .i64 i_21))::(9,.d (.bool changed_1))::[],[some (.box (AK p0_)),some (.narr 1 (List.map (nL 1 Ae) out_18))]⟩
def Jiz:St:=⟨(1,.d (.str p1_))::(2,.ptr 0 0)::(5,.d (.sl (List.map Aj r139)))::(6,.osl 1 1 0 (List.length out_19))::(7,.d (.int .i64 i_21))::[],[some (.box (AK p0_)),some (.narr 1 (List.map (nL 1 Ae) out_19))]⟩
def JiA:St:=⟨(1,.d (.str p1_))::(2,.ptr 0 0)::(5,.d (.sl (List.map Aj r139)))::(6,.osl 1 1 0 (List.length out_20))::(7,.d (.int .i64 i_21))::(9,.d (.bool changed_2))::(10,.d (.int .i64 k_5))::[],[some (.box (AK p0_)),some (.narr 1 (List.map (nL 1 Ae) out_20))]⟩
def JeP:St:=⟨(1,.d (.str p1_))::(2,.ptr 0 0)::(5,.d (.sl (List.map Aj r139)))::(6,.osl 1 1 0 (List.length out_21))::(7,.d (.int .i64 i_21))::(9,.d (.bool changed_3))::[],[some (.box (AK p0_)),some (.narr 1 (List.map (nL 1 Ae) out_21))]⟩
def JeQ:St:=⟨(1,.d (.str p1_))::(2,.ptr 0 0)::(5,.d (.sl (List.map Aj r139)))::(6,.osl 1 1 0 (List.length out_22))::(7,.d (.int .i64 i_21))::(9,.d (.bool changed_4))::(10,.d (.int .i64 k_5))::(11,.d (.int .i64 r_3))::[],[some (.box (AK p0_)),some (.narr 1 (List.map (nL 1 Ae) out_22))]⟩
def JeR:St:=⟨(1,.d (.str p1_))::(2,.ptr 0 0)::(5,.d (.sl (List.map Aj r139)))::(6,.osl 1 1 0 (List.length out_23))::(7,.d (.int .i64 i_21))::(9,.d (.bool changed_5))::(10,.d (.int .i64 k_5))::[],[some (.box (AK p0_)),some (.narr 1 (List.map (nL 1 Ae) out_23))]⟩
def JeS:St:=⟨(1,.d (.str p1_))::(2,.ptr 0 0)::(5,.d (.sl (List.map Aj r139)))::(6,.osl 1 1 0 (List.length out_24))::(7,.d (.int .i64 i_21))::(9,.d (.bool changed_6))::(10,.d (.int .i64 k_5))::(11,.d (.int .i64 r_3))::[],[some (.box (AK p0_)),some (.narr 1 (List.map (nL 1 Ae) out_24))]⟩
def OZ:((List (List Int))×Bool)->Ex->St->Prop:=xX 0 8 (λ (y:((List (List Int))×Bool))=>JeR p0_ p1_ r139 i_21 k_5 y.1 y.2)
def IP:((List (List Int))×Bool×Int)->St:=(λ (x:((List (List Int))×Bool×Int))=>JeQ p0_ p1_ r139 i_21 k_5 x.1 x.2.1 x.2.2)
def O2:((List (List Int))×Bool)->Ex->St->Prop:=xX 0 6 (λ (y:((List (List Int))×Bool))=>JeP p0_ p1_ r139 i_21 y.1 y.2)
def IQ:((List (List Int))×Bool×Int)->St:=(λ (x:((List (List Int))×Bool×Int))=>JiA p0_ p1_ r139 i_21 x.1 x.2.1 x.2.2)
def O3:(List (List Int))->Ex->St->Prop:=xX 0 4 (λ (y:(List (List Int)))=>Jiz p0_ p1_ r139 i_21 y)
def IR:((List (List Int))×Bool)->St:=(λ (x:((List (List Int))×Bool))=>Jiy p0_ p1_ r139 i_21 x.1 x.2)
def O4:(List (List Int))->Ex->St->Prop:=xX 0 0 (λ (y:(List (List Int)))=>Jiu y)
def IS:((List (List Int))×Int)->St:=(λ (x:((List (List Int))×Int))=>Jit p0_ p1_ r139 x.1 x.2)
variable {p0_ p1_ r139 out_13 i_21 out_14 out_15 k_4 out_16 out_17 out_18 changed_1 out_19 out_20 changed_2 k_5 out_21 changed_3 out_22 changed_4 r_3 out_23 changed_5 out_24 changed_6}
theorem NU (x:((List (List Int))×Int)) (z:(((List (List Int))×Int)⊕(List (List Int)))) (H:CW n p0_ p1_ r139 i_21 x.1 x.2=some z):WP (cxk 116 0) (AA Try.f28) [1,1,1,0,1,0,0,1,0,0,1,0,1,0,0] (Av 0 (IN p0_ p1_ r139 i_21) (OY p0_ p1_ r139 i_21) z) (IN p0_ p1_ r139 i_21 x):=by
 obtain ⟨out_15,k_4⟩:=x
 refine sq (sr (ck 2 (sp (AC Aj r139) (ck 1 (en (cn H (λ H=>?_) (λ H=>?_)))))))
 ·refine sk (qz (sj (λ (x:(List (List Int)))=>Jix p0_ p1_ r139 i_21 k_4 x) (λ (x:(List (List Int)))=>DM n k_4 x) z ?_ (λ hFR6_Suffixes_J1=>?_)))
  ·intro out_17 H
   exact rz (ck 3 (ae (by cases H;exact og (gP [1,2,5,6,7,8] [0,1] (po1 (pn1 (nL 1 Ae) out_17 (Pl.z)))))))
  refine bk 3 (sq (bx H λ x158 h458 H=>rg (tr (so1 (encN:=(nL 1 Ae)) 1 1 h458) (sno (encN:=(nL 1 Ae)) (enc:=Ae) h458 [.own 1 (List.map Ae x158)] x158 1 1 0 1)) (ck 2 (sp (Az 1 1 h458) (sp (Ch (encN:=(nL 1 Ae)) (row:=[.osl 2 1 0 (List.length x158)]) (k:=1) (sz:=1) (off:=0) (t:=ty 32) (v:=.osl 2 1 0 (List.length x158)) h458) (ck 1 (bx H λ x159 h459 H=>sp (Az 2 1 h459) (bx H λ l57 h460 H=>stA Ae 2 0 (ty 3) h459 h460 (en (sq (rg (tr (tr (tr (tr (tr (sn 40 2 1 (Bf h460)) (snr (encN:=(nL 1 Ae)) (xs:=out_15) (n:=i_21) [.osl 2 1 0 (List.length x158)] 1 1 0 2 1 (Bf h460))) (sni (encN:=(nL 1 Ae)) (xs:=out_15) (n:=i_21) (enc:=Ae) [.osl 2 1 0 (List.length l57)] l57 1 1 0 2 1)) (scl (encN:=(nL 1 Ae)) (xss:=out_15) i_21 [.own 1 (List.map Ae l57)] 1 1 l57)) (sn 6 1 1 (lsS out_15 (Int.toNat i_21) l57))) (sn 37 1 1 (lsS out_15 (Int.toNat i_21) l57))) (ck 8 (bx H λ x160 h461 H=>sE (λ hg=>Aq Aj (BO h461 hg)) (gc 1 (i_21==((List.length p1_:Nat):Int)) (bx H λ r140 h462 H=>cG false (leZ) rfl (λ hg=>SK (BO h462 hg)) (Or.inl rfl) (B6 (λ hh=>hh) (B6 (λ hh=>hh) (Em))) rfl (pA (en (cn H (λ H=>?_) (λ H=>?_)))))))))))))))))))
  ·exact bx H λ x161 h463 H=>rg (tr (so1 (encN:=(nL 1 Ae)) 1 1 h463) (sno (encN:=(nL 1 Ae)) (enc:=Ae) h463 [.own 1 (List.map Ae x161)] x161 1 1 0 1)) (ck 2 (sp (Az 1 1 h463) (sp (Ch (encN:=(nL 1 Ae)) (row:=[.osl 3 1 0 (List.length x161)]) (k:=1) (sz:=1) (off:=0) (t:=ty 32) (v:=.osl 3 1 0 (List.length x161)) h463) (ck 1 (bx H λ x162 h464 H=>sp (Az 3 1 h464) (bx H λ l58 h465 H=>stA Ae 3 0 (ty 3) h464 h465 (ae (qN (qs (tr (tr (tr (tr (tr (tr (tr (sn 58 3 1 (Bf h465)) (snr (encN:=(nL 1 Ae)) (xs:=List.set out_15 (Int.toNat i_21) l57) (n:=i_21) [.osl 3 1 0 (List.length x161)] 1 1 0 3 1 (Bf h465))) (sni (encN:=(nL 1 Ae)) (xs:=List.set out_15 (Int.toNat i_21) l57) (n:=i_21) (enc:=Ae) [.osl 3 1 0 (List.length l58)] l58 1 1 0 3 1)) (scl (encN:=(nL 1 Ae)) (xss:=List.set out_15 (Int.toNat i_21) l57) i_21 [.own 1 (List.map Ae l58)] 1 1 l58)) (sn 6 1 1 (lsS (List.set out_15 (Int.toNat i_21) l57) (Int.toNat i_21) l58))) (sn 37 1 1 (lsS (List.set out_15 (Int.toNat i_21) l57) (Int.toNat i_21) l58))) (sn 55 1 1 (lsS (List.set out_15 (Int.toNat i_21) l57) (Int.toNat i_21) l58))) (gP [1,2,5,6,7,8] [0,1] (po1 (pn1 (nL 1 Ae) (List.set (List.set out_15 (Int.toNat i_21) l57) (Int.toNat i_21) l58) (Pl.z))))) (hFR6_Suffixes_J1 (List.set (List.set out_15 (Int.toNat i_21) l57) (Int.toNat i_21) l58) H))))))))))
  ·exact sk (qN (qs (gP [1,2,5,6,7,8] [0,1] (po1 (pn1 (nL 1 Ae) (List.set out_15 (Int.toNat i_21) l57) (Pl.z)))) (hFR6_Suffixes_J1 (List.set out_15 (Int.toNat i_21) l57) H)))
 ·exact ex 2 (qx (by cases H;exact xo rfl (gP [1,2,5,6,7] [0,1] (po1 (pn1 (nL 1 Ae) out_15 (Pl.z))))))
theorem NV (x:((List (List Int))×Bool×Int)) (z:(((List (List Int))×Bool×Int)⊕((List (List Int))×Bool))) (H:CX n p0_ p1_ r139 i_21 k_5 x.1 x.2.1 x.2.2=some z):WP (cxk 116 0) (AA Try.f28) [1,1,1,0,1,0,0,1,0,0,1,1,1,0,0,1,0,1,1,0,0,1,0,0,1,0,0] (Av 0 (IP p0_ p1_ r139 i_21 k_5) (OZ p0_ p1_ r139 i_21 k_5) z) (IP p0_ p1_ r139 i_21 k_5 x):=by
 obtain ⟨out_22,changed_4,r_3⟩:=x
 refine sq (sr (ck 3 (sp (AC Am p0_.Rules) (ck 1 (en (cn H (λ H=>?_) (λ H=>?_)))))))
 ·refine sk (qz (sj (λ (x:((List (List Int))×Bool))=>JeS p0_ p1_ r139 i_21 k_5 r_3 x.1 x.2) (λ (x:((List (List Int))×Bool))=>DN n r_3 x.1 x.2) z ?_ (λ hFR6_Suffixes_J2=>?_)))
  ·rintro ⟨out_24,changed_6⟩ H
   exact rz (ck 3 (ae (by cases H;exact og (gP [1,2,5,6,7,9,10,11] [0,1] (po1 (pn1 (nL 1 Ae) out_24 (Pl.z)))))))
  refine bk 9 (sr (ck 5 (bx H λ x163 h467 H=>sp (Aq Aj h467) (ck 5 (bx H λ r141 h468 H=>cb (ks:=[1]) (obl:=[(0+List.length out_22,List.length (List.map (nL 1 Ae) out_22)),(Oa (List.map (nL 1 Ae) out_22),0)]) false (leK leN (leK (JeH λ _=>rfl) (leZ))) (Dz rfl (Dz rfl (Dz rfl (Dz (Jjt (encN:=(nL 1 Ae)) (encD:=(eL Ae)) λ _=>rfl) rfl)))) (Vi h468) (Or.inr trivial) rfl (ck 1 (en (sq (rg (tr (so0 (encN:=(nL 1 Ae)) (xss:=out_22) 1 1 i_21 ([]:(List Int))) (snT (encN:=(nL 1 Ae)) (xss:=out_22) (n:=i_21) (d:=([]:(List Int))) (enc:=Ae) (λ x=>x) [.own 1 (List.map Ae (List.getD out_22 (Int.toNat i_21) []))] 1 1 0 1)) (ck 5 (bx H λ x164 h469 H=>sE (λ hg=>Az 1 1 (BO h469 hg)) (sE (g:=decide (r141≥0)) (λ hg=>Ch (encN:=(nL 1 Ae)) (row:=[.osl 2 1 0 (List.length (List.getD out_22 (Int.toNat i_21) []))]) (k:=1) (sz:=1) (off:=0) (t:=ty 32) (v:=.osl 2 1 0 (List.length (List.getD out_22 (Int.toNat i_21) []))) (BO h469 hg)) (ck 1 (bx H λ x165 h470 H=>sE (λ hg=>Az 2 1 (BO h470 hg)) (sE (g:=decide (r141≥0)) (λ hg=>CK Ae 2 0 (ty 3) (BO h470 hg)) (ck 1 (bx H λ r142 h471 H=>cG false (leZ) rfl (λ hg=>Vj (BO h471 hg)) (Or.inl rfl) (B6 (λ hh=>hh) (B6 (λ hh=>hh) (Em))) rfl (ck 2 (bx H λ x166 h472 H=>sE (λ hg=>Az 1 1 (BO h472 hg)) (sE (g:=decide (r141≥0)) (λ hg=>Ch (encN:=(nL 1 Ae)) (row:=[.osl 2 1 0 (List.length (List.getD out_22 (Int.toNat i_21) []))]) (k:=1) (sz:=1) (off:=0) (t:=ty 32) (v:=.osl 2 1 0 (List.length (List.getD out_22 (Int.toNat i_21) []))) (BO h472 hg)) (ck 1 (bx H λ x167 h473 H=>sE (λ hg=>Az 2 1 (BO h473 hg)) (sE (g:=decide (r141≥0)) (λ hg=>CK Ae 2 0 (ty 3) (BO h473 hg)) (gc 1 (decide (r141≥0)) (pA (en (cn H (λ H=>?_) (λ H=>?_))))))))))))))))))))))))))))
  ·exact sq (bx H λ x168 h474 H=>rg (tr (tr (tr (tr (tr (sni (encN:=(nL 1 Ae)) (xs:=out_22) (n:=i_21) (enc:=Ae) [.osl 2 1 0 (List.length (List.getD out_22 (Int.toNat i_21) []))] (List.getD out_22 (Int.toNat i_21) []) 1 1 0 2 1) (scl (encN:=(nL 1 Ae)) (xss:=out_22) i_21 [.own 1 (List.map Ae (List.getD out_22 (Int.toNat i_21) []))] 1 1 (List.getD out_22 (Int.toNat i_21) []))) (sn 6 1 1 (lsS out_22 (Int.toNat i_21) (List.getD out_22 (Int.toNat i_21) [])))) (sn 85 1 1 (lsS out_22 (Int.toNat i_21) (List.getD out_22 (Int.toNat i_21) [])))) (so1 (encN:=(nL 1 Ae)) 1 1 h474)) (sno (encN:=(nL 1 Ae)) (enc:=Ae) h474 [.own 1 (List.map Ae x168)] x168 1 1 0 1)) (ck 2 (sp (Az 1 1 h474) (sp (Ch (encN:=(nL 1 Ae)) (row:=[.osl 3 1 0 (List.length x168)]) (k:=1) (sz:=1) (off:=0) (t:=ty 32) (v:=.osl 3 1 0 (List.length x168)) h474) (ck 2 (bx H λ x169 h475 H=>sp (Az 3 1 h475) (bx H λ l59 h476 H=>stA Ae 3 0 (ty 3) h475 h476 (en (rg (tr (tr (tr (tr (tr (tr (sn 111 3 1 (Bf h476)) (snr (encN:=(nL 1 Ae)) (xs:=List.set out_22 (Int.toNat i_21) (List.getD out_22 (Int.toNat i_21) [])) (n:=i_21) [.osl 3 1 0 (List.length x168)] 1 1 0 3 1 (Bf h476))) (sni (encN:=(nL 1 Ae)) (xs:=List.set out_22 (Int.toNat i_21) (List.getD out_22 (Int.toNat i_21) [])) (n:=i_21) (enc:=Ae) [.osl 3 1 0 (List.length l59)] l59 1 1 0 3 1)) (scl (encN:=(nL 1 Ae)) (xss:=List.set out_22 (Int.toNat i_21) (List.getD out_22 (Int.toNat i_21) [])) i_21 [.own 1 (List.map Ae l59)] 1 1 l59)) (sn 6 1 1 (lsS (List.set out_22 (Int.toNat i_21) (List.getD out_22 (Int.toNat i_21) [])) (Int.toNat i_21) l59))) (sn 85 1 1 (lsS (List.set out_22 (Int.toNat i_21) (List.getD out_22 (Int.toNat i_21) [])) (Int.toNat i_21) l59))) (sn 108 1 1 (lsS (List.set out_22 (Int.toNat i_21) (List.getD out_22 (Int.toNat i_21) [])) (Int.toNat i_21) l59))) (ck 1 (ae (qN (qs (gP [1,2,5,6,7,9,10,11] [0,1] (po1 (pn1 (nL 1 Ae) (List.set (List.set out_22 (Int.toNat i_21) (List.getD out_22 (Int.toNat i_21) [])) (Int.toNat i_21) l59) (Pl.z)))) (hFR6_Suffixes_J2 ((List.set (List.set out_22 (Int.toNat i_21) (List.getD out_22 (Int.toNat i_21) [])) (Int.toNat i_21) l59),true) H))))))))))))))
  ·exact sk (qN (qs (tr (tr (tr (tr (sni (encN:=(nL 1 Ae)) (xs:=out_22) (n:=i_21) (enc:=Ae) [.osl 2 1 0 (List.length (List.getD out_22 (Int.toNat i_21) []))] (List.getD out_22 (Int.toNat i_21) []) 1 1 0 2 1) (scl (encN:=(nL 1 Ae)) (xss:=out_22) i_21 [.own 1 (List.map Ae (List.getD out_22 (Int.toNat i_21) []))] 1 1 (List.getD out_22 (Int.toNat i_21) []))) (sn 6 1 1 (lsS out_22 (Int.toNat i_21) (List.getD out_22 (Int.toNat i_21) [])))) (sn 85 1 1 (lsS out_22 (Int.toNat i_21) (List.getD out_22 (Int.toNat i_21) [])))) (gP [1,2,5,6,7,9,10,11] [0,1] (po1 (pn1 (nL 1 Ae) (List.set out_22 (Int.toNat i_21) (List.getD out_22 (Int.toNat i_21) [])) (Pl.z))))) (hFR6_Suffixes_J2 ((List.set out_22 (Int.toNat i_21) (List.getD out_22 (Int.toNat i_21) [])),changed_4) H)))
 ·exact ex 8 (qx (by cases H;exact xo rfl (gP [1,2,5,6,7,9,10] [0,1] (po1 (pn1 (nL 1 Ae) out_22 (Pl.z))))))
theorem NW (x:((List (List Int))×Bool×Int)) (z:(((List (List Int))×Bool×Int)⊕((List (List Int))×Bool))) (H:CY n p0_ p1_ r139 i_21 x.1 x.2.1 x.2.2=some z):WP (cxk 116 0) (AA Try.f28) [1,1,1,0,1,0,0,1,0,0,1,1,1,0,0,1,0,1,1,0,0] (Av 0 (IQ p0_ p1_ r139 i_21) (O2 p0_ p1_ r139 i_21) z) (IQ p0_ p1_ r139 i_21 x):=by
 obtain ⟨out_20,changed_2,k_5⟩:=x
 refine sq (sr (ck 2 (sp (AC Aj r139) (ck 1 (en (cn H (λ H=>?_) (λ H=>?_)))))))
 ·exact sk (qz (sq (bk 7 (sr (ck 1 (en (bk 8 (bx H λ y109 h477 H=>lX NV h477 (gP [1,2,5,6,7,9,10,11] [0,1] (po1 (pn1 (nL 1 Ae) out_20 (Pl.z)))) rfl λ s hE88=>qH (qN (qs (hE88) (rz (ck 3 (ae (by cases H;exact og (gP [1,2,5,6,7,9,10] [0,1] (po1 (pn1 (nL 1 Ae) y109.1 (Pl.z))))))))))))))))))
 ·exact ex 6 (qx (by cases H;exact xo rfl (gP [1,2,5,6,7,9] [0,1] (po1 (pn1 (nL 1 Ae) out_20 (Pl.z))))))
theorem NX (x:((List (List Int))×Bool)) (z:(((List (List Int))×Bool)⊕(List (List Int)))) (H:DO n p0_ p1_ r139 i_21 x.1 x.2=some z):WP (cxk 116 0) (AA Try.f28) [1,1,1,0,1,0,0,1,0,0,1,1,1,0,0] (Av 0 (IR p0_ p1_ r139 i_21) (O3 p0_ p1_ r139 i_21) z) (IR p0_ p1_ r139 i_21 x):=by
 obtain ⟨out_18,changed_1⟩:=x
 refine sq (sr (ck 1 (en (cn H (λ H=>?_) (λ H=>?_)))))
 ·exact sk (qz (bk 5 (sr (ck 1 (en (sr (ck 1 (en (bk 6 (bx H λ y110 h478 H=>lX NW h478 (gP [1,2,5,6,7,9,10] [0,1] (po1 (pn1 (nL 1 Ae) out_18 (Pl.z)))) rfl λ s hE89=>qH (qN (by cases H;exact og (tr (hE89) (gP [1,2,5,6,7,9] [0,1] (po1 (pn1 (nL 1 Ae) y110.1 (Pl.z)))))))))))))))))
 ·exact ex 4 (qx (by cases H;exact xo rfl (gP [1,2,5,6,7] [0,1] (po1 (pn1 (nL 1 Ae) out_18 (Pl.z))))))
theorem NY (x:((List (List Int))×Int)) (z:(((List (List Int))×Int)⊕(List (List Int)))) (H:E7 n p0_ p1_ r139 x.1 x.2=some z):WP (cxk 116 0) (AA Try.f28) [1,1,1,0,1,0,0] (Av 0 (IS p0_ p1_ r139) (O4) z) (IS p0_ p1_ r139 x):=by
 obtain ⟨out_13,i_21⟩:=x
 refine sq (sr (ck 2 (en (cn H (λ H=>?_) (λ H=>?_)))))
 ·exact sk (qz (sq (bk 1 (sq (bx H λ x157 h456 H=>rg (so1 (encN:=(nL 1 Ae)) 1 1 h456) (ck 3 (sp (AC Aj r139) (bx H λ l56 h457 H=>sp (Uc Ae 1 h457) (sp (Az 1 1 h456) (sp (LQ (encN:=(nL 1 Ae)) (row:=[.own 1 (List.map Ae x157)]) (row':=[.osl 2 1 0 (List.length l56)]) (k:=1) (sz:=1) (off:=0) (t:=ty 32) (v:=.osl 2 1 0 (List.length l56)) h456) (en (sq (sq (rg (tr (tr (tr (sni (encN:=(nL 1 Ae)) (xs:=out_13) (n:=i_21) (enc:=Ae) [.osl 2 1 0 (List.length l56)] l56 1 1 0 2 1) (scl (encN:=(nL 1 Ae)) (xss:=out_13) i_21 [.own 1 (List.map Ae l56)] 1 1 l56)) (sn 6 1 1 (lsS out_13 (Int.toNat i_21) l56))) (sn 25 1 1 (lsS out_13 (Int.toNat i_21) l56))) (ck 1 (en (bk 2 (bx H λ y108 h466 H=>lX NU h466 (gP [1,2,5,6,7,8] [0,1] (po1 (pn1 (nL 1 Ae) (List.set out_13 (Int.toNat i_21) l56) (Pl.z)))) rfl λ s hE87=>qH (qs (hE87) (sr (ck 1 (en (bk 4 (bx H λ y111 h479 H=>lX NX h479 (gP [1,2,5,6,7,9] [0,1] (po1 (pn1 (nL 1 Ae) y108 (Pl.z)))) rfl λ s hE90=>qH (qN (qs (hE90) (rz (ck 3 (ae (by cases H;exact og (gP [1,2,5,6,7] [0,1] (po1 (pn1 (nL 1 Ae) y111 (Pl.z))))))))))))))))))))))))))))))))))
 ·exact ex 0 (qx (by cases H;exact xo rfl (gP [6] [1] (pn1 (nL 1 Ae) out_13 (Pl.z)))))
theorem QX {z} (H:Hz n p0_ p1_=some z):AF Try.prog 28 [.agg (AK p0_),.d (.str p1_)] (.d (.sl (List.map (eL Ae) z))):=by
 exact fO 116 (Jis p0_ p1_) Try.func28 (sr (ck 2 (en (sr (ck 1 (bx H λ r139 h454 H=>ca false (Tu h454) (ck 1 (en (sr (ck 3 (bx H λ l55 h455 H=>sp (Sm 1 (ez:=[.nil]) h455) (ck 1 (en (sq (sq (rg (tr (tr (UZ (encN:=(nL 1 Ae)) (sz:=1) (z:=[.nil]) (n:=(Au .i64 ((List.length p1_:Nat):Int) 1)) 1 (My h455) (by kernel_rfl) (by kernel_rfl)) (sn 18 1 1 (GI h455))) (sn 6 1 1 (GI h455))) (ck 3 (en (bk 0 (bx H λ y112 h480 H=>lX NY h480 (gP [1,2,5,6,7] [0,1] (po1 (pn1 (nL 1 Ae) l55 (Pl.z)))) rfl λ s hE91=>qH (qs (hE91) (sr (ck 2 (ae (qs (YI (encN:=(nL 1 Ae)) (encD:=(eL Ae)) (xss:=y112) (k:=0) (sz:=1) 4 (by kernel_rfl) (λ _=>rfl) (λ _=>rfl)) (re (by cases H;exact pr rd)))))))))))))))))))))))))))
end
section
variable (p0_:Ad) (p1_:(List UInt8)) (r143:(List (List Int))) (out_25:Bj) (i_22:Int) (out_26:Bj) (least_4:Int) (k_6:Int) (least_5:Int) (least_6:Int) (y113:Int) (column_18:(List Int)) (k_7:Int) (column_19:(List Int)) (column_20:(List Int))
def JiB:St:=⟨(0,.agg [.d (.int .i64 p0_.Modes),.d (.int .u8 p0_.Accept),.d (.sl (List.map Am p0_.Rules))])::(1,.d (.str p1_))::[],[]⟩
def JiC:St:=⟨(4,.ptr 0 0)::(5,.ptr 1 0)::(6,.d (.sl (List.map (eL Ae) r143)))::(7,.d (.int .i64 i_22))::[],[some (.box [.d (.str []),.osl 2 1 0 (List.length ([]:List (List Int))),.osl 3 1 0 (List.length ([]:List Int))]),some (.box (FC out_25 (.osl 4 1 0 (List.length out_25.Costs)) (.osl 5 1 0 (List.length out_25.Least)))),some (.arr 1 (List.map (eL Ae) ([]:List (List Int)))),some (.arr 1 (List.map Ae ([]:List Int))),some (.arr 1 (List.map (eL Ae) out_25.Costs)),some (.arr 1 (List.map Ae out_25.Least))]⟩
def JiD:St:=⟨(4,.ptr 0 0)::(5,.ptr 1 0)::[],[some (.box [.d (.str []),.osl 2 1 0 (List.length ([]:List (List Int))),.osl 3 1 0 (List.length ([]:List Int))]),some (.box (FC out_26 (.osl 4 1 0 (List.length out_26.Costs)) (.osl 5 1 0 (List.length out_26.Least)))),some (.arr 1 (List.map (eL Ae) ([]:List (List Int)))),some (.arr 1 (List.map Ae ([]:List Int))),some (.arr 1 (List.map (eL Ae) out_26.Costs)),some (.arr 1 (List.map Ae out_26.Least))]⟩
def JiE:St:=⟨(4,.ptr 0 0)::(5,.ptr 1 0)::(6,.d (.sl (List.map (eL Ae) r143)))::(7,.d (.int .i64 i_22))::(8,.d (.int .i64 least_4))::(9,.d (.int .i64 k_6))::[],[some (.box [.d (.str []),.osl 2 1 0 (List.length ([]:List (List Int))),.osl 3 1 0 (List.length ([]:List Int))]),some (.box (FC out_25 (.osl 4 1 0 (List.length out_25.Costs)) (.osl 5 1 0 (List.length out_25.Least)))),some (.arr 1 (List.map (eL Ae) ([]:List (List Int)))),some (.arr 1 (List.map Ae ([]:List Int))),some (.arr 1 (List.map (eL Ae) out_25.Costs)),some (.arr 1 (List.map Ae out_25.Least))]⟩
def JiF:St:=⟨(4,.ptr 0 0)::(5,.ptr 1 0)::(6,.d (.sl (List.map (eL Ae) r143)))::(7,.d (.int .i64 i_22))::(8,.d (.int .i64 least_5))::[],[some (.box [.d (.str []),.osl 2 1 0 (List.length ([]:List (List Int))),.osl 3 1 0 (List.length ([]:List Int))]),some (.box (FC out_25 (.osl 4 1 0 (List.length out_25.Costs)) (.osl 5 1 0 (List.length out_25.Least)))),some (.arr 1 (List.map (eL Ae) ([]:List (List Int)))),some (.arr 1 (List.map Ae ([]:List Int))),some (.arr 1 (List.map (eL Ae) out_25.Costs)),some (.arr 1 (List.map Ae out_25.Least))]⟩
def JiG:St:=⟨(4,.ptr 0 0)::(5,.ptr 1 0)::(6,.d (.sl (List.map (eL Ae) r143)))::(7,.d (.int .i64 i_22))::(8,.d (.int .i64 least_6))::(9,.d (.int .i64 k_6))::[],[some (.box [.d (.str []),.osl 2 1 0 (List.length ([]:List (List Int))),.osl 3 1 0 (List.length ([]:List Int))]),some (.box (FC out_25 (.osl 4 1 0 (List.length out_25.Costs)) (.osl 5 1 0 (List.length out_25.Least)))),some (.arr 1 (List.map (eL Ae) ([]:List (List Int)))),some (.arr 1 (List.map Ae ([]:List Int))),some (.arr 1 (List.map (eL Ae) out_25.Costs)),some (.arr 1 (List.map Ae out_25.Least))]⟩
def Tw:Int->Ex->St->Prop:=xX 0 2 (λ (y:Int)=>JiF r143 out_25 i_22 y)
def Nu:(Int×Int)->St:=(λ (x:(Int×Int))=>JiE r143 out_25 i_22 x.1 x.2)
def JiH:St:=⟨(4,.ptr 0 0)::(5,.ptr 1 0)::(6,.d (.sl (List.map (eL Ae) r143)))::(7,.d (.int .i64 i_22))::(8,.d (.int .i64 y113))::(10,.osl 2 1 0 (List.length column_18))::(11,.d (.int .i64 k_7))::[],[some (.box [.d (.str []),.osl 3 1 0 (List.length ([]:List (List Int))),.osl 4 1 0 (List.length ([]:List Int))]),some (.box (FC out_25 (.osl 5 1 0 (List.length out_25.Costs)) (.osl 6 1 0 (List.length out_25.Least)))),some (.arr 1 (List.map Ae column_18)),some (.arr 1 (List.map (eL Ae) ([]:List (List Int)))),some (.arr 1 (List.map Ae ([]:List Int))),some (.arr 1 (List.map (eL Ae) out_25.Costs)),some (.arr 1 (List.map Ae out_25.Least))]⟩
def JiI:St:=⟨(4,.ptr 0 0)::(5,.ptr 1 0)::(6,.d (.sl (List.map (eL Ae) r143)))::(7,.d (.int .i64 i_22))::(8,.d (.int .i64 y113))::(10,.osl 2 1 0 (List.length column_19))::[],[some (.box [.d (.str []),.osl 3 1 0 (List.length ([]:List (List Int))),.osl 4 1 0 (List.length ([]:List Int))]),some (.box (FC out_25 (.osl 5 1 0 (List.length out_25.Costs)) (.osl 6 1 0 (List.length out_25.Least)))),some (.arr 1 (List.map Ae column_19)),some (.arr 1 (List.map (eL Ae) ([]:List (List Int)))),some (.arr 1 (List.map Ae ([]:List Int))),some (.arr 1 (List.map (eL Ae) out_25.Costs)),some (.arr 1 (List.map Ae out_25.Least))]⟩
def JiJ:St:=⟨(4,.ptr 0 0)::(5,.ptr 1 0)::(6,.d (.sl (List.map (eL Ae) r143)))::(7,.d (.int .i64 i_22))::(8,.d (.int .i64 y113))::(10,.osl 2 1 0 (List.length column_20))::(11,.d (.int .i64 k_7))::[],[some (.box [.d (.str []),.osl 3 1 0 (List.length ([]:List (List Int))),.osl 4 1 0 (List.length ([]:List Int))]),some (.box (FC out_25 (.osl 5 1 0 (List.length out_25.Costs)) (.osl 6 1 0 (List.length out_25.Least)))),some (.arr 1 (List.map Ae column_20)),some (.arr 1 (List.map (eL Ae) ([]:List (List Int)))),some (.arr 1 (List.map Ae ([]:List Int))),some (.arr 1 (List.map (eL Ae) out_25.Costs)),some (.arr 1 (List.map Ae out_25.Least))]⟩
def Tx:(List Int)->Ex->St->Prop:=xX 0 4 (λ (y:(List Int))=>JiI r143 out_25 i_22 y113 y)
def Nv:((List Int)×Int)->St:=(λ (x:((List Int)×Int))=>JiH r143 out_25 i_22 y113 x.1 x.2)
def Tz:Bj->Ex->St->Prop:=xX 0 0 (λ (y:Bj)=>JiD y)
def Nw:(Bj×Int)->St:=(λ (x:(Bj×Int))=>JiC r143 x.1 x.2)
variable {p0_ p1_ r143 out_25 i_22 out_26 least_4 k_6 least_5 least_6 y113 column_18 k_7 column_19 column_20}
theorem SL (x:(Int×Int)) (z:((Int×Int)⊕Int)) (H:Fz n r143 out_25 i_22 x.1 x.2=some z):WP (cxk 108 0) (AA Try.f11) [1,1,1,0,1,0,0,1,0,0,1,0,1,0,0] (Av 0 (Nu r143 out_25 i_22) (Tw r143 out_25 i_22) z) (Nu r143 out_25 i_22 x):=by
 obtain ⟨least_4,k_6⟩:=x
 refine sq (sr (ck 3 (bx H λ x170 h482 H=>sp (Aq (eL Ae) h482) (ck 1 (sp (AC Ae x170) (ck 1 (en (cn H (λ H=>?_) (λ H=>?_)))))))))
 ·refine sk (qz (sj (λ (x:Int)=>JiG r143 out_25 i_22 k_6 x) (λ (x:Int)=>G0 n k_6 x) z ?_ (λ hFR7_Memo_J1=>?_)))
  ·intro least_6 H
   exact rz (ck 3 (ae (by cases H;exact og (sg [4,5,6,7,8,9]))))
  refine bk 3 (sr (ck 2 (bx H λ x171 h483 H=>sp (Aq (eL Ae) h483) (ck 2 (bx H λ x172 h484 H=>sp (Aq Ae h484) (ck 4 (gc 2 (decide (x172≥0)) (ck 2 (bx H λ x173 h485 H=>sE (λ hg=>Aq (eL Ae) (BO h485 hg)) (gc 1 ((decide (x172≥0))&&!(decide (least_4<0))) (ck 1 (bx H λ x174 h486 H=>sE (λ hg=>Aq Ae (BO h486 hg)) (gc 1 ((decide (x172≥0))&&!(decide (least_4<0))) (ck 1 (gc 1 ((decide (x172≥0))&&!(decide (least_4<0))) (pG (g:=decide (x172≥0)) (v:=.d (.bool ((decide (least_4<0))||(decide (x174<least_4))))) (λ hg=>Gu (c:=.gv (decide (x172≥0)) (.d (.bool (decide (least_4<0))))) (a:=.d (.bool true)) (b:=.gv ((decide (x172≥0))&&!(decide (least_4<0))) (.d (.bool (decide (x174<least_4))))) rfl rfl rfl ((λ hh=>hh) hg) trivial (λ ht=>by rw [(λ hh=>hh) hg,ht];rfl)) (pA (en (cn H (λ H=>?_) (λ H=>?_))))))))))))))))))))
  ·exact rz (ck 2 (bx H λ x175 h487 H=>sp (Aq (eL Ae) h487) (ck 2 (bx H λ x176 h488 H=>sp (Aq Ae h488) (ck 2 (ae (qN (qs (sg [4,5,6,7,8,9]) (hFR7_Memo_J1 x176 H)))))))))
  ·exact sk (qN (qs (sg [4,5,6,7,8,9]) (hFR7_Memo_J1 least_4 H)))
 ·exact ex 2 (qx (by cases H;exact xo rfl (sg [4,5,6,7,8])))
theorem SM (x:((List Int)×Int)) (z:(((List Int)×Int)⊕(List Int))) (H:FA n r143 out_25 i_22 y113 x.1 x.2=some z):WP (cxk 108 0) (AA Try.f11) [1,1,1,0,1,0,0,1,0,0,1,1,1,0,1,0,0] (Av 0 (Nv r143 out_25 i_22 y113) (Tx r143 out_25 i_22 y113) z) (Nv r143 out_25 i_22 y113 x):=by
 obtain ⟨column_18,k_7⟩:=x
 refine sq (sr (ck 3 (bx H λ x177 h490 H=>sp (Aq (eL Ae) h490) (ck 1 (sp (AC Ae x177) (ck 1 (en (cn H (λ H=>?_) (λ H=>?_)))))))))
 ·refine sk (qz (sj (λ (x:(List Int))=>JiJ r143 out_25 i_22 y113 k_7 x) (λ (x:(List Int))=>G1 n k_7 x) z ?_ (λ hFR7_Memo_J2=>?_)))
  ·intro column_20 H
   exact rz (ck 3 (ae (by cases H;exact og (sg [4,5,6,7,8,10,11]))))
  refine bk 5 (sr (ck 2 (bx H λ x178 h491 H=>sp (Aq (eL Ae) h491) (ck 2 (bx H λ x179 h492 H=>sp (Aq Ae h492) (ck 2 (en (cn H (λ H=>?_) (λ H=>?_)))))))))
  ·exact rz (ck 2 (bx H λ l60 h493 H=>sp (B3 Ae 2 1 h493) (ck 1 (ae (qN (qs (sg [4,5,6,7,8,10,11]) (hFR7_Memo_J2 l60 H)))))))
  ·exact rz (ck 3 (bx H λ x180 h494 H=>sp (Aq (eL Ae) h494) (ck 2 (bx H λ x181 h495 H=>sp (Aq Ae h495) (ck 4 (bx H λ l61 h496 H=>sp (B3 Ae 2 1 h496) (ck 1 (ae (qN (qs (sg [4,5,6,7,8,10,11]) (hFR7_Memo_J2 l61 H)))))))))))
 ·exact ex 4 (qx (by cases H;exact xo rfl (sg [4,5,6,7,8,10])))
theorem SN (x:(Bj×Int)) (z:((Bj×Int)⊕Bj)) (H:G2 n r143 x.1 x.2=some z):WP (cxk 108 0) (AA Try.f11) [1,1,1,0,1,0,0] (Av 0 (Nw r143) (Tz) z) (Nw r143 x):=by
 obtain ⟨out_25,i_22⟩:=x
 refine sq (sr (ck 2 (sp (AC (eL Ae) r143) (ck 1 (en (cn H (λ H=>?_) (λ H=>?_)))))))
 ·exact sk (qz (sq (bk 1 (sr (ck 1 (en (sq (sr (ck 1 (en (bk 2 (bx H λ y113 h489 H=>lX SL h489 (sg [4,5,6,7,8,9]) rfl λ s hE92=>qH (qs (hE92) (sr (ck 2 (en (sq (sr (ck 1 (en (bk 4 (bx H λ y114 h497 H=>lX SM h497 (sg [4,5,6,7,8,10,11]) rfl λ s hE93=>qH (qs (hE93) (sq (rg (fz (enc:=Ae) (xs:=y114) 10 2 1) (ck 4 (bx H λ l62 h498 H=>sp (B3 (eL Ae) 5 1 h498) (ck 2 (en (rz (ck 4 (bx H λ l63 h499 H=>sp (B3 Ae 6 1 h499) (ck 2 (ae (qN (qz (rz (ck 3 (ae (by cases H;exact og (sg [4,5,6,7])))))))))))))))))))))))))))))))))))))))))
 ·exact ex 0 (qx (by cases H;exact xo rfl (sg [4,5])))
theorem QB {z} (H:LU n p0_ p1_=some z):AF Try.prog 11 [.agg (AK p0_),.d (.str p1_)] (.agg [.d (.str z.Text),.own 1 (List.map (eL Ae) z.Costs),.own 1 (List.map Ae z.Least)]):=by
 exact fO 108 (JiB p0_ p1_) Try.func11 (sr (ck 2 (en (sr (ck 4 (en (sr (ck 2 (bx H λ r143 h481 H=>ca false (QX h481) (ck 1 (en (sq (sr (ck 1 (en (bk 0 (bx H λ y115 h500 H=>lX SN h500 (tr (tr (tr (tr (BI 1 1 1 (by kernel_rfl)) (BI 1 2 1 (by kernel_rfl))) (BI 2 1 1 (by kernel_rfl))) (BI 2 2 1 (by kernel_rfl))) (sg [4,5,6,7])) rfl λ s hE94=>qH (qs (hE94) (sr (ck 2 (en (re (by cases H;exact pr (rO (v:=.agg [.d (.str z.Text),.osl 4 1 0 (List.length z.Costs),.osl 5 1 0 (List.length z.Least)]) [4,5] (a1 (c1 vd (c1 vo (c1 vo (c0)))))))))))))))))))))))))))))
end
section
variable (p0_:Bj) (p1_:Bj) (i_23:Int)
def JiK:St:=⟨(0,.agg [.d (.str p0_.Text),.d (.sl (List.map (eL Ae) p0_.Costs)),.d (.sl (List.map Ae p0_.Least))])::(1,.agg [.d (.str p1_.Text),.d (.sl (List.map (eL Ae) p1_.Costs)),.d (.sl (List.map Ae p1_.Least))])::[],[]⟩
def JiL:St:=⟨(2,.ptr 0 0)::(3,.ptr 1 0)::(5,.d (.int .i64 i_23))::[],[some (.box (FT p0_)),some (.box (FT p1_))]⟩
def JiM:St:=⟨[],[]⟩
def TA:(Unit⊕Bool)->Ex->St->Prop:=xS (xX 0 0 (λ (y:Unit)=>JiM)) (xR ty Try.f10 (λ (y:Bool)=>.d (.bool y)))
def Nx:Int->St:=(λ (x:Int)=>JiL p0_ p1_ x)
variable {p0_ p1_ i_23}
theorem Mg (x:Int) (z:(Int⊕(Unit⊕Bool))) (H:G3 n p0_ p1_ x=some z):WP (cxk 47 0) (AA Try.f10) [1,1,0,1,0,0] (Av 0 (Nx p0_ p1_) (TA) z) (Nx p0_ p1_ x):=by
 revert H
 generalize x=i_23
 intro H
 refine sq (sr (ck 3 (sp (AC (eL Ae) p0_.Costs) (ck 1 (en (cn H (λ H=>?_) (λ H=>?_)))))))
 ·refine sk (qz (sq (bk 1 (sr (ck 3 (bx H λ x182 h502 H=>sp (Aq (eL Ae) h502) (ck 4 (bx H λ x183 h503 H=>sp (Aq (eL Ae) h503) (ck 1 (bx H λ r145 h504 H=>ca false (FF h504) (ck 1 (en (cn H (λ H=>?_) (λ H=>?_))))))))))))))
  ·exact sr (ck 1 (en (re (qR (qr (by cases H;exact ro rfl rd))))))
  ·exact sk (qN (qz (rz (ck 3 (ae (by cases H;exact og (sg [2,3,5])))))))
 ·exact ex 0 (qx (by cases H;exact xo rfl (sg [])))
theorem QC {z} (H:JF n p0_ p1_=some z):AF Try.prog 10 [.agg (FT p0_),.agg (FT p1_)] (.d (.bool z)):=by
 refine fO 47 (JiK p0_ p1_) Try.func10 (sr (ck 3 (en (sq (sr (ck 7 (gc 1 (!(!(p0_.Text==p1_.Text))) (sE (g:=(!(!(p0_.Text==p1_.Text)))) (λ hg=>AC (eL Ae) p0_.Costs) (ck 1 (gc 1 (!(!(p0_.Text==p1_.Text))) (sE (g:=(!(!(p0_.Text==p1_.Text)))) (λ hg=>AC (eL Ae) p1_.Costs) (gc 1 (!(!(p0_.Text==p1_.Text))) (pO (ck 2 (gc 1 (!((!(p0_.Text==p1_.Text))||(((List.length p0_.Costs:Nat):Int) != ((List.length p1_.Costs:Nat):Int)))) (ck 1 (gc 1 (!((!(p0_.Text==p1_.Text))||(((List.length p0_.Costs:Nat):Int) != ((List.length p1_.Costs:Nat):Int)))) (bx H λ r144 h501 H=>cG false (leZ) rfl (λ hg=>FF (BO h501 hg)) (Or.inl rfl) (B6 (λ hh=>hh) (B6 (λ hh=>hh) (Em))) rfl (gc 1 (!((!(p0_.Text==p1_.Text))||(((List.length p0_.Costs:Nat):Int) != ((List.length p1_.Costs:Nat):Int)))) (pO (en (cn H (λ H=>?_) (λ H=>?_)))))))))))))))))))))))
 ·exact sr (ck 1 (en (re (qr (by cases H;exact pr rd)))))
 ·refine sk (qz (sq (sr (ck 1 (en (bk 0 (bx H λ y116 h505 H=>?_)))))))
  rcases y116 with y117|y118
  ·exact lX Mg h505 (sg [2,3,5]) rfl λ s hE95=>qH (qs (hE95) (sr (ck 1 (en (re (by cases H;exact pr rd))))))
  ·exact lR Mg h505 (sg [2,3,5]) rfl λ s hE96=>qR (qr (by cases H;exact pr hE96))
end
section
variable (p0_:Ad) (p1_:(List UInt8)) (p2_:BK) (out_34:B4)
def JiN:St:=⟨(0,.agg [.d (.int .i64 p0_.Modes),.d (.int .u8 p0_.Accept),.d (.sl (List.map Am p0_.Rules))])::(1,.d (.str p1_))::(2,.agg [.d (.int .u8 p2_.At),.d (.int .u8 p2_.Cut),.d (.sl (List.map eU8 p2_.L))])::[],[]⟩
def JiO:St:=⟨(6,.ptr 0 0)::(9,.ptr 1 0)::[],[some (.box [.d (.int .i64 0),.d (.int .i64 0),.d (.str [])]),some (.box (HA out_34))]⟩
variable {p0_ p1_ p2_ out_34}
theorem WS {z} (H:OJ n p0_ p1_ p2_=some z):AF Try.prog 16 [.agg (AK p0_),.d (.str p1_),.agg (KW p2_)] (.agg [.d (.int .i64 z.At),.d (.int .i64 z.Cut),.d (.str z.Put)]):=by
 refine fO 48 (JiN p0_ p1_ p2_) Try.func16 (sr (ck 3 (en (sr (ck 6 (bx H λ gd16 h578 H=>so (LO h578) (ck 1 (en (sr (ck 4 (sp (AC eU8 p2_.L) (ck 1 (bx H λ l70 h579 H=>sp (Jbj eU8 1 h579) (ck 1 (en (sr (ck 10 (bx H λ gd17 h580 H=>so (LO h580) (ck 2 (bx H λ r180 h581 H=>ca false (Me h581) (ck 3 (en (sj (λ (x:B4)=>JiO x) (λ (x:B4)=>IE n x) z ?_ (λ hFR7_Made_J1=>?_))))))))))))))))))))))))
 ·intro out_34 H
  exact sr (ck 2 (en (re (by cases H;exact pr rd))))
 refine sr (ck 7 (en (cn H (λ H=>?_) (λ H=>?_))))
 ·exact rz (ck 2 (ae (qs (sg [6,9]) (hFR7_Made_J1 ({ At:=A8 (IntKind.i64.wrap p2_.At) (Au .i64 ((List.length p1_:Nat):Int) 1),Cut:=A8 (IntKind.i64.wrap p2_.Cut) (Au .i64 (if 5<Dw .i64 ((List.length p1_:Nat):Int) (A8 (IntKind.i64.wrap p2_.At) (Au .i64 ((List.length p1_:Nat):Int) 1)) then 5 else Dw .i64 ((List.length p1_:Nat):Int) (A8 (IntKind.i64.wrap p2_.At) (Au .i64 ((List.length p1_:Nat):Int) 1))) 1),Put:=[] }:B4) H))))
 ·exact sk (qs (sg [6,9]) (hFR7_Made_J1 ({ At:=A8 (IntKind.i64.wrap p2_.At) (Au .i64 ((List.length p1_:Nat):Int) 1),Cut:=A8 (IntKind.i64.wrap p2_.Cut) (Au .i64 (if 5<Dw .i64 ((List.length p1_:Nat):Int) (A8 (IntKind.i64.wrap p2_.At) (Au .i64 ((List.length p1_:Nat):Int) 1)) then 5 else Dw .i64 ((List.length p1_:Nat):Int) (A8 (IntKind.i64.wrap p2_.At) (Au .i64 ((List.length p1_:Nat):Int) 1))) 1),Put:=r180 }:B4) H))
end
section
variable (p0_:(List UInt8)) (p1_:B4)
def JiP:St:=⟨(0,.d (.str p0_))::(1,.agg [.d (.int .i64 p1_.At),.d (.int .i64 p1_.Cut),.d (.str p1_.Put)])::[],[]⟩
variable {p0_ p1_}
theorem SO {z} (H:IF n p0_ p1_=some z):AF Try.prog 18 [.d (.str p0_),.agg (HA p1_)] (.d (.str z)):=by
 exact fO 20 (JiP p0_ p1_) Try.func18 (sr (ck 2 (en (sr (ck 3 (bx H λ s13 h582 H=>sp (GH h582) (ck 2 (bx H λ s14 h583 H=>sp (Py h583) (ck 6 (bx H λ s15 h584 H=>sp (GH h584) (bx H λ s16 h585 H=>sp (Py h585) (ck 1 (en (re (by cases H;exact pr rd)))))))))))))))
end
section
variable (p0_:MX) (p1_:(List Int)) (p2_:BK)
def Jkk:St:=⟨(0,.agg [.d (.int .u8 p0_.Base),.d (.int .u8 p0_.Drop),.d (.sl (List.map FB p0_.More))])::(1,.d (.sl (List.map eU8 p1_)))::(2,.agg [.d (.int .u8 p2_.At),.d (.int .u8 p2_.Cut),.d (.sl (List.map eU8 p2_.L))])::[],[]⟩
variable {p0_ p1_ p2_}
theorem O5 {z} (H:FR n p0_ p1_ p2_=some z):AF Try.prog 5 [.agg (X4 p0_),.d (.sl (List.map eU8 p1_)),.agg (KW p2_)] (.d (.bool z)):=by
 refine fO 122 (Jkk p0_ p1_ p2_) Try.func5 (sr (ck 3 (en (sr (bx H λ r181 h586 H=>ca false (Tm h586) (ck 1 (en (sr (ck 1 (bx H λ r182 h587 H=>ca false (WR h587) (ck 2 (en (sr (ck 2 (bx H λ r183 h588 H=>ca false (Me h588) (ck 1 (en (sr (ck 2 (bx H λ r184 h589 H=>ca false (QB h589) (ck 2 (en (sr (ck 3 (bx H λ r185 h590 H=>ca false (WS h590) (ck 2 (en (sr (ck 3 (bx H λ r186 h591 H=>ca false (DU h591) (ck 8 (en (sr (ck 5 (bx H λ r187 h592 H=>ca false (DU h592) (ck 8 (en (sq (sr (ck 4 (gc 1 (!(r186.2.2 != 0)) (pO (ck 3 (gc 3 (!((r186.2.2 != 0)||(r187.2.2 != 0))) (pO (ck 3 (gc 1 (!(((r186.2.2 != 0)||(r187.2.2 != 0))||(decide (r186.2.1<((List.length r185.Put:Nat):Int))))) (ck 1 (gc 4 (!(((r186.2.2 != 0)||(r187.2.2 != 0))||(decide (r186.2.1<((List.length r185.Put:Nat):Int))))) (pO (ck 3 (gc 3 (!((((r186.2.2 != 0)||(r187.2.2 != 0))||(decide (r186.2.1<((List.length r185.Put:Nat):Int))))||(decide (r186.2.1>Au .i64 r185.At ((List.length r185.Put:Nat):Int))))) (pO (en (cn H (λ H=>?_) (λ H=>?_))))))))))))))))))))))))))))))))))))))))))))))))))))))))
 ·exact sr (ck 1 (en (re (qr (by cases H;exact pr rd)))))
 ·refine sk (qz (sq (sr (ck 4 (bx H λ r188 h593 H=>ca false (SO h593) (bx H λ r189 h594 H=>ca false (QB h594) (bx H λ r190 h595 H=>ca false (QC h595) (ck 1 (en (cn H (λ H=>?_) (λ H=>?_)))))))))))
  ·exact sr (ck 1 (en (re (qr (by cases H;exact pr rd)))))
  ·exact sk (qz (sr (ck 15 (bx H λ s17 h596 H=>sp (GH h596) (ck 1 (bx H λ r191 h597 H=>ca false (DU h597) (ck 8 (en (sr (ck 3 (gc 1 r181 (pA (ck 3 (bx H λ r192 h598 H=>cG false (leZ) rfl (λ hg=>QC (BO h598 hg)) (Or.inl rfl) (B6 (λ hh=>hh) (B6 (λ hh=>hh) (Em))) rfl (pA (ck 1 (en (re (by cases H;exact pr rd)))))))))))))))))))
end
end Go.AI
end
